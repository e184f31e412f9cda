-- Written by a program of this session (hprint.py) out of the translation and of hand-proved parts. Lean checks it.
import Derived.Test.YtjlpggpkbcgekaaPG27x0
import Derived.Test.YtjlpggpkbcgekaaPG27x2
import Derived.Test.YtjlpggpkbcgekaaPG27x6
import Derived.Test.YtjlpggpkbcgekaaPG27x14
import Derived.Test.YtjlpggpkbcgekaaPG27x17
import Derived.Test.YtjlpggpkbcgekaaPG27x21
import Derived.Test.YtjlpggpkbcgekaaPG27x25
import Derived.Test.YtjlpggpkbcgekaaPG27x30
namespace Go.Proofs.Ytjlpggpkbcgekaa.PG27
open Go.RowKit Go.Proofs.YtjlpggpkbcgekaaW.PrintWords Go.Proofs.YtjlpggpkbcgekaaW.PrintLast Go.Proofs.YtjlpggpkbcgekaaW.PrintMore
attribute [local go_sem] max2_int min2_int max_two min_two max_three min_three max_four min_four   -- for this text's walks alone
set_option linter.unusedVariables false
set_option linter.unusedSimpArgs false

/-! ### rollbacknetlaw27_DeterminantMerges: function 6 -/
def rollbacknetlaw27_DeterminantMerges.j0 : Nat → List (S39) → List (S39) → List Int → Bool → Option (Bool)
 | 0, _, _, _, _ => none
 | k + 1, x0, x1, x2, x21 => if x21 = true then (if (x0.length : Int) > 60 then (some true) else (some (decide ((x1.length : Int) > 60)))) else ((rollbacknetmake_New.f x2 200).bind fun bt656 => ((rollbacknetmake_Codes_Dets.f k bt656.1 bt656.2 10).bind fun bt659 => ((rollbacknetmake_Codes_Dets.f k bt656.1 bt659.2 10).bind fun bt663 => ((determinant_Merge.f k x0 x1).bind fun t667 => ((rollbacknetref27_Merge.f k x0 x1).bind fun t670 => ((rollbacknetref27_Same.f k t667 t670).bind fun t673 => (if t673 = true then ((determinant_Merge.f k bt659.1 bt663.1).bind fun t674 => ((rollbacknetref27_Merge.f k bt659.1 bt663.1).bind fun t677 => ((rollbacknetref27_Same.f k t674 t677).bind fun t680 => (some t680)))) else (some false))))))))
def rollbacknetlaw27_DeterminantMerges.f (k : Nat) (l0 : List (S39)) (l1 : List (S39)) (l2 : List Int) : Option (Bool) := (rollbacknetlaw27_awake.f k).bind fun t655 => (if t655 = true then (if (l0.length : Int) > 60 then (rollbacknetlaw27_DeterminantMerges.j0 k l0 l1 l2 true) else (rollbacknetlaw27_DeterminantMerges.j0 k l0 l1 l2 (decide ((l1.length : Int) > 60)))) else (rollbacknetlaw27_DeterminantMerges.j0 k l0 l1 l2 true))
theorem rollbacknetlaw27_DeterminantMerges.mono_l : ∀ k, (∀ y0 y1 y2 y3, LeO (rollbacknetlaw27_DeterminantMerges.j0 k y0 y1 y2 y3) (rollbacknetlaw27_DeterminantMerges.j0 (k + 1) y0 y1 y2 y3))
 | 0 => fun _ _ _ _ r h => by simp [rollbacknetlaw27_DeterminantMerges.j0] at h
 | k + 1 => by
  have ih0 := rollbacknetlaw27_DeterminantMerges.mono_l k
  ·intro y0 y1 y2 y3
   unfold rollbacknetlaw27_DeterminantMerges.j0
   repeat' first
   | (with_reducible exact ih0 _ _ _ _)
   | (with_reducible exact determinant_Merge.mono _ _ _)
   | (with_reducible exact rollbacknetlaw27_awake.mono _)
   | (with_reducible exact rollbacknetmake_Codes_Dets.mono _ _ _ _)
   | (with_reducible exact rollbacknetref27_Merge.mono _ _ _)
   | (with_reducible exact rollbacknetref27_Same.mono _ _ _)
   | (with_reducible exact LeO.refl _)
   | (with_reducible exact LeO.none _)
   | (with_reducible refine LeO.ite ?_ ?_)
   | (with_reducible refine LeO.bind ?_ (fun _ => ?_))
   | exact ih0 _ _ _ _
   | exact determinant_Merge.mono _ _ _
   | exact rollbacknetlaw27_awake.mono _
   | exact rollbacknetmake_Codes_Dets.mono _ _ _ _
   | exact rollbacknetref27_Merge.mono _ _ _
   | exact rollbacknetref27_Same.mono _ _ _
   | exact LeO.none _
   | refine LeO.ite ?_ ?_
   | refine LeO.bind ?_ (fun _ => ?_)
theorem rollbacknetlaw27_DeterminantMerges.mono : ∀ a0 a1 a2 k, LeO (rollbacknetlaw27_DeterminantMerges.f k a0 a1 a2) (rollbacknetlaw27_DeterminantMerges.f (k + 1) a0 a1 a2) := by
 intro a0 a1 a2 k
 have ih0 := rollbacknetlaw27_DeterminantMerges.mono_l k
 unfold rollbacknetlaw27_DeterminantMerges.f
 repeat' first
   | (with_reducible exact ih0 _ _ _ _)
   | (with_reducible exact determinant_Merge.mono _ _ _)
   | (with_reducible exact rollbacknetlaw27_awake.mono _)
   | (with_reducible exact rollbacknetmake_Codes_Dets.mono _ _ _ _)
   | (with_reducible exact rollbacknetref27_Merge.mono _ _ _)
   | (with_reducible exact rollbacknetref27_Same.mono _ _ _)
   | (with_reducible exact LeO.refl _)
   | (with_reducible exact LeO.none _)
   | (with_reducible refine LeO.ite ?_ ?_)
   | (with_reducible refine LeO.bind ?_ (fun _ => ?_))
   | exact ih0 _ _ _ _
   | exact determinant_Merge.mono _ _ _
   | exact rollbacknetlaw27_awake.mono _
   | exact rollbacknetmake_Codes_Dets.mono _ _ _ _
   | exact rollbacknetref27_Merge.mono _ _ _
   | exact rollbacknetref27_Same.mono _ _ _
   | exact LeO.none _
   | refine LeO.ite ?_ ?_
   | refine LeO.bind ?_ (fun _ => ?_)
set_option maxHeartbeats 8000000 in
set_option maxRecDepth 100000 in
theorem rollbacknetlaw27_DeterminantMerges.calls (k : Nat) (A0 : Option Addr) (c0 : Nat) (l0 : List (S39)) (A1 : Option Addr) (c1 : Nat) (l1 : List (S39)) (A2 : Option Addr) (c2 : Nat) (l2 : List Int) (r : Bool) (w : World) (hr0 : Kd.C k39 w A0 l0.length l0) (hc0 : l0.length ≤ c0) (hr1 : Kd.C k39 w A1 l1.length l1) (hc1 : l1.length ≤ c1) (hr2 : Kd.C (Kd.int .u8) w A2 l2.length l2) (hc2 : l2.length ≤ c2) (h : rollbacknetlaw27_DeterminantMerges.f k l0 l1 l2 = some r) :
  Calls Try.prog 6 #[.slice A0 l0.length c0, .slice A1 l1.length c1, .slice A2 l2.length c2] w fun e w' => e = .returned (.bool r) ∧ Below w.heap.size w w' := by
 have HR0 := Aside0.mk hr0
 have HC0 := Aside0.mk hc0
 clear hr0 hc0
 have HR1 := Aside0.mk hr1
 have HC1 := Aside0.mk hc1
 clear hr1 hc1
 have HR2 := Aside0.mk hr2
 have HC2 := Aside0.mk hc2
 clear hr2 hc2
 have HB := Aside0.mk (Below.refl w.heap.size w)
 have H : ((rollbacknetlaw27_awake.f k).bind fun t655 => (if t655 = true then (if (l0.length : Int) > 60 then (rollbacknetlaw27_DeterminantMerges.j0 k l0 l1 l2 true) else (rollbacknetlaw27_DeterminantMerges.j0 k l0 l1 l2 (decide ((l1.length : Int) > 60)))) else (rollbacknetlaw27_DeterminantMerges.j0 k l0 l1 l2 true))) = some r := h
 clear h
 have HC4 := Aside0.mk H
 clear H
 go_enter Try.func6, Try.ntmps6
 go_upto_region 1 with (fail)
 go_cut [21] (fun v21 wc => ∃ (kq : Nat) (x21_3 : Bool), v21 = .bool x21_3 ∧ Aside0 (rollbacknetlaw27_DeterminantMerges.j0 kq l0 l1 l2 x21_3 = some r) ∧ Aside0 (kq ≤ k) ∧ Aside0 (Below w.heap.size w wc))
 case first =>
  have H := HC4.out
  clear HC4
  replace H := Option.bind_eq_some_iff.mp H
  obtain ⟨t655, A50, H⟩ := H
  replace H : (if t655 = true then (if (l0.length : Int) > 60 then (rollbacknetlaw27_DeterminantMerges.j0 k l0 l1 l2 true) else (rollbacknetlaw27_DeterminantMerges.j0 k l0 l1 l2 (decide ((l1.length : Int) > 60)))) else (rollbacknetlaw27_DeterminantMerges.j0 k l0 l1 l2 true)) = some r := H
  have A5 := Aside0.mk A50
  clear A50
  by_cases c6 : t655 = true
  ·subst c6
   have H1 : (if (l0.length : Int) > 60 then (rollbacknetlaw27_DeterminantMerges.j0 k l0 l1 l2 true) else (rollbacknetlaw27_DeterminantMerges.j0 k l0 l1 l2 (decide ((l1.length : Int) > 60)))) = some r := by rw [if_pos rfl] at H; exact H
   clear H
   have H := H1
   clear H1
   by_cases c7 : (l0.length : Int) > 60
   ·rw [if_pos c7] at H
    have c7b0 : decide (60 < (l0.length : Int)) = true := decide_eq_true c7
    have c7b1 : decide (60 < l0.length) = true := decide_eq_true (by omega)
    clear c7
    (first | rw [c7b0] | (simp only [i64_w, i32_w]; rw [c7b0]) | skip)
    have H' := Aside0.mk H
    clear H
    go_wp2_with (first | ((with_reducible refine gate_callee (f := 12) rfl ?_); refine goesL_ (some 10) rfl rfl Try.func12 (by kernel_rfl) rfl #[] rfl (by (try simp only [List.map_toArray, List.map_cons, List.map_nil]); first | done | rfl | (simp only [List.length_drop, List.length_take]; rfl)) ?_; (with_reducible refine (rollbacknetlaw27_awake.calls k  true _ A5.out).mono ?_); rintro e w8 ⟨rfl, hb⟩; refine ⟨_, rfl, ?_⟩; have n0_ := Aside0.mk (below_step (bq HB.out) hb); clear HB; have HB := n0_; clear n0_; (try clear hb); (try clear hb2); (try clear hk); (try clear hi)))
    go_meet
    case rel => exact ⟨_, (true), (by first | rfl | (simp; done) | (simp [*]; done)), H', ⟨by first | omega | exact Nat.le_refl _⟩, ⟨bq HB.out⟩⟩
   ·rw [if_neg c7] at H
    have c7b0 : decide (60 < (l0.length : Int)) = false := decide_eq_false c7
    have c7b1 : decide (60 < l0.length) = false := decide_eq_false (by omega)
    clear c7
    (first | rw [c7b0] | (simp only [i64_w, i32_w]; rw [c7b0]) | skip)
    have H' := Aside0.mk H
    clear H
    go_wp2_with (first | ((with_reducible refine gate_callee (f := 12) rfl ?_); refine goesL_ (some 10) rfl rfl Try.func12 (by kernel_rfl) rfl #[] rfl (by (try simp only [List.map_toArray, List.map_cons, List.map_nil]); first | done | rfl | (simp only [List.length_drop, List.length_take]; rfl)) ?_; (with_reducible refine (rollbacknetlaw27_awake.calls k  true _ A5.out).mono ?_); rintro e w9 ⟨rfl, hb⟩; refine ⟨_, rfl, ?_⟩; have n0_ := Aside0.mk (below_step (bq HB.out) hb); clear HB; have HB := n0_; clear n0_; (try clear hb); (try clear hb2); (try clear hk); (try clear hi)))
    go_meet
    case rel => exact ⟨_, (decide ((l1.length : Int) > 60)), (by first | rfl | (simp; done) | (simp [*]; done)), H', ⟨by first | omega | exact Nat.le_refl _⟩, ⟨bq HB.out⟩⟩
  ·replace c6 := Bool.eq_false_iff.mpr c6
   subst c6
   have H1 : (rollbacknetlaw27_DeterminantMerges.j0 k l0 l1 l2 true) = some r := by rw [if_neg (show ¬ (false = true) by decide)] at H; exact H
   clear H
   have H := H1
   clear H1
   have H' := Aside0.mk H
   clear H
   go_wp2_with (first | ((with_reducible refine gate_callee (f := 12) rfl ?_); refine goesL_ (some 10) rfl rfl Try.func12 (by kernel_rfl) rfl #[] rfl (by (try simp only [List.map_toArray, List.map_cons, List.map_nil]); first | done | rfl | (simp only [List.length_drop, List.length_take]; rfl)) ?_; (with_reducible refine (rollbacknetlaw27_awake.calls k  false _ A5.out).mono ?_); rintro e w10 ⟨rfl, hb⟩; refine ⟨_, rfl, ?_⟩; have n0_ := Aside0.mk (below_step (bq HB.out) hb); clear HB; have HB := n0_; clear n0_; (try clear hb); (try clear hb2); (try clear hk); (try clear hi)))
   go_meet
   case rel => exact ⟨_, (true), (by first | rfl | (simp; done) | (simp [*]; done)), H', ⟨by first | omega | exact Nat.le_refl _⟩, ⟨bq HB.out⟩⟩
 case rest =>
  clear HC4
  try clear c1
  try clear c2
  try clear p2
  try clear c6
  try clear c7
  try clear c7b0
  try clear c7b1
  obtain ⟨kq, x21_3, rfl, HA, HJ3, HB⟩ := hcut
  cases kq with
  | zero => exact absurd HA.out (by simp [rollbacknetlaw27_DeterminantMerges.j0])
  | succ kj3 =>
   have H := HA.out
   clear HA
   simp only [rollbacknetlaw27_DeterminantMerges.j0] at H
   by_cases c11 : x21_3 = true
   ·subst c11
    have H1 : (if (l0.length : Int) > 60 then (some true) else (some (decide ((l1.length : Int) > 60)))) = some r := by rw [if_pos rfl] at H; exact H
    clear H
    have H := H1
    clear H1
    by_cases c12 : (l0.length : Int) > 60
    ·rw [if_pos c12] at H
     have c12b0 : decide (60 < (l0.length : Int)) = true := decide_eq_true c12
     have c12b1 : decide (60 < l0.length) = true := decide_eq_true (by omega)
     clear c12
     obtain rfl := Option.some.inj H
     go_wp2
     go_ret
     exact ⟨by first | rfl | (simp [errW_none, errW_some] <;> rfl) | (simp [*, errW_none, errW_some] <;> rfl), bq HB.out⟩
    ·rw [if_neg c12] at H
     have c12b0 : decide (60 < (l0.length : Int)) = false := decide_eq_false c12
     have c12b1 : decide (60 < l0.length) = false := decide_eq_false (by omega)
     clear c12
     obtain rfl := Option.some.inj H
     go_wp2
     go_ret
     exact ⟨by first | rfl | (simp [errW_none, errW_some] <;> rfl) | (simp [*, errW_none, errW_some] <;> rfl), bq HB.out⟩
   ·replace c11 := Bool.eq_false_iff.mpr c11
    subst c11
    have H1 : ((rollbacknetmake_New.f l2 200).bind fun bt656 => ((rollbacknetmake_Codes_Dets.f kj3 bt656.1 bt656.2 10).bind fun bt659 => ((rollbacknetmake_Codes_Dets.f kj3 bt656.1 bt659.2 10).bind fun bt663 => ((determinant_Merge.f kj3 l0 l1).bind fun t667 => ((rollbacknetref27_Merge.f kj3 l0 l1).bind fun t670 => ((rollbacknetref27_Same.f kj3 t667 t670).bind fun t673 => (if t673 = true then ((determinant_Merge.f kj3 bt659.1 bt663.1).bind fun t674 => ((rollbacknetref27_Merge.f kj3 bt659.1 bt663.1).bind fun t677 => ((rollbacknetref27_Same.f kj3 t674 t677).bind fun t680 => (some t680)))) else (some false)))))))) = some r := by rw [if_neg (show ¬ (false = true) by decide)] at H; exact H
    clear H
    have H := H1
    clear H1
    replace H := Option.bind_eq_some_iff.mp H
    obtain ⟨⟨t656, t657⟩, A130, H⟩ := H
    replace H : ((rollbacknetmake_Codes_Dets.f kj3 t656 t657 10).bind fun bt659 => ((rollbacknetmake_Codes_Dets.f kj3 t656 bt659.2 10).bind fun bt663 => ((determinant_Merge.f kj3 l0 l1).bind fun t667 => ((rollbacknetref27_Merge.f kj3 l0 l1).bind fun t670 => ((rollbacknetref27_Same.f kj3 t667 t670).bind fun t673 => (if t673 = true then ((determinant_Merge.f kj3 bt659.1 bt663.1).bind fun t674 => ((rollbacknetref27_Merge.f kj3 bt659.1 bt663.1).bind fun t677 => ((rollbacknetref27_Same.f kj3 t674 t677).bind fun t680 => (some t680)))) else (some false))))))) = some r := H
    have A13 := Aside0.mk A130
    clear A130
    replace H := Option.bind_eq_some_iff.mp H
    obtain ⟨⟨t659, t662⟩, A140, H⟩ := H
    replace H : ((rollbacknetmake_Codes_Dets.f kj3 t656 t662 10).bind fun bt663 => ((determinant_Merge.f kj3 l0 l1).bind fun t667 => ((rollbacknetref27_Merge.f kj3 l0 l1).bind fun t670 => ((rollbacknetref27_Same.f kj3 t667 t670).bind fun t673 => (if t673 = true then ((determinant_Merge.f kj3 t659 bt663.1).bind fun t674 => ((rollbacknetref27_Merge.f kj3 t659 bt663.1).bind fun t677 => ((rollbacknetref27_Same.f kj3 t674 t677).bind fun t680 => (some t680)))) else (some false)))))) = some r := H
    have A14 := Aside0.mk A140
    clear A140
    replace H := Option.bind_eq_some_iff.mp H
    obtain ⟨⟨t663, t666⟩, A150, H⟩ := H
    replace H : ((determinant_Merge.f kj3 l0 l1).bind fun t667 => ((rollbacknetref27_Merge.f kj3 l0 l1).bind fun t670 => ((rollbacknetref27_Same.f kj3 t667 t670).bind fun t673 => (if t673 = true then ((determinant_Merge.f kj3 t659 t663).bind fun t674 => ((rollbacknetref27_Merge.f kj3 t659 t663).bind fun t677 => ((rollbacknetref27_Same.f kj3 t674 t677).bind fun t680 => (some t680)))) else (some false))))) = some r := H
    have A15 := Aside0.mk A150
    clear A150
    replace H := Option.bind_eq_some_iff.mp H
    obtain ⟨t667, A160, H⟩ := H
    replace H : ((rollbacknetref27_Merge.f kj3 l0 l1).bind fun t670 => ((rollbacknetref27_Same.f kj3 t667 t670).bind fun t673 => (if t673 = true then ((determinant_Merge.f kj3 t659 t663).bind fun t674 => ((rollbacknetref27_Merge.f kj3 t659 t663).bind fun t677 => ((rollbacknetref27_Same.f kj3 t674 t677).bind fun t680 => (some t680)))) else (some false)))) = some r := H
    have A16 := Aside0.mk A160
    clear A160
    replace H := Option.bind_eq_some_iff.mp H
    obtain ⟨t670, A170, H⟩ := H
    replace H : ((rollbacknetref27_Same.f kj3 t667 t670).bind fun t673 => (if t673 = true then ((determinant_Merge.f kj3 t659 t663).bind fun t674 => ((rollbacknetref27_Merge.f kj3 t659 t663).bind fun t677 => ((rollbacknetref27_Same.f kj3 t674 t677).bind fun t680 => (some t680)))) else (some false))) = some r := H
    have A17 := Aside0.mk A170
    clear A170
    replace H := Option.bind_eq_some_iff.mp H
    obtain ⟨t673, A180, H⟩ := H
    replace H : (if t673 = true then ((determinant_Merge.f kj3 t659 t663).bind fun t674 => ((rollbacknetref27_Merge.f kj3 t659 t663).bind fun t677 => ((rollbacknetref27_Same.f kj3 t674 t677).bind fun t680 => (some t680)))) else (some false)) = some r := H
    have A18 := Aside0.mk A180
    clear A180
    by_cases c19 : t673 = true
    ·subst c19
     have H1 : ((determinant_Merge.f kj3 t659 t663).bind fun t674 => ((rollbacknetref27_Merge.f kj3 t659 t663).bind fun t677 => ((rollbacknetref27_Same.f kj3 t674 t677).bind fun t680 => (some t680)))) = some r := by rw [if_pos rfl] at H; exact H
     clear H
     have H := H1
     clear H1
     replace H := Option.bind_eq_some_iff.mp H
     obtain ⟨t674, A200, H⟩ := H
     replace H : ((rollbacknetref27_Merge.f kj3 t659 t663).bind fun t677 => ((rollbacknetref27_Same.f kj3 t674 t677).bind fun t680 => (some t680))) = some r := H
     have A20 := Aside0.mk A200
     clear A200
     replace H := Option.bind_eq_some_iff.mp H
     obtain ⟨t677, A210, H⟩ := H
     replace H : ((rollbacknetref27_Same.f kj3 t674 t677).bind fun t680 => (some t680)) = some r := H
     have A21 := Aside0.mk A210
     clear A210
     replace H := Option.bind_eq_some_iff.mp H
     obtain ⟨t680, A220, H⟩ := H
     replace H : (some t680) = some r := H
     have A22 := Aside0.mk A220
     clear A220
     obtain rfl := Option.some.inj H
     go_wp2_with (first | ((with_reducible refine gate_callee (f := 23) rfl ?_); refine goesL_ (some 31) rfl rfl Try.func23 (by kernel_rfl) rfl #[.slice A2 l2.length c2, .int .i64 200] rfl (by (try simp only [List.map_toArray, List.map_cons, List.map_nil]); first | done | rfl | (simp only [List.length_drop, List.length_take]; rfl)) ?_; (with_reducible refine (rollbacknetmake_New.calls _ _ l2 200 t656 t657 w _ ?side1 ?side2 ?side3 A13.out).mono ?_); (case side1 => repeat (first | (with_reducible first | exact HB.out | apply below_alloc | apply pw_below_drewN | apply below_drew1) | exact HB.out)); (case side2 => exact HR2.out); (case side3 => exact HC2.out); rintro e w23 ⟨g658, rfl, hi, hb, hb2⟩; refine ⟨_, rfl, ?_⟩; have n0_ := Aside0.mk (hb); have n1_ := Aside0.mk (hi); clear HB; have HB := n0_; have HI658 := n1_; clear n0_ n1_; (try clear hb); (try clear hb2); (try clear hk); (try clear hi)) | ((with_reducible refine gate_callee (f := 24) rfl ?_); refine goesL_ (some 33) rfl rfl Try.func24 (by kernel_rfl) rfl #[.pointer (some ⟨g658, 0, none⟩), .int .i64 10] rfl (by (try simp only [List.map_toArray, List.map_cons, List.map_nil]); first | done | rfl | (simp only [List.length_drop, List.length_take]; rfl)) ?_; (with_reducible refine (rollbacknetmake_Codes_Dets.calls kj3 g658 t656 t657 10 t659 t662 w _ ?side1 ?side2 A14.out).mono ?_); (case side1 => repeat (first | (with_reducible first | exact HI658.out | apply IsS66.alloc | apply IsS66.drewN | apply IsS66.drew | apply IsS66.set_1) | exact HI658.out)); (case side2 => repeat (first | (with_reducible first | exact HB.out | apply below_alloc | apply pw_below_drewN | apply below_drew1 | refine below_set ?_ (IsS66.ge HI658.out)) | exact HB.out)); rintro e w24 ⟨v660, rfl, ho0, hi, hb, hk⟩; refine ⟨_, rfl, ?_⟩; have n0_ := Aside0.mk (Kd.R_lower ho0 (below_size (bq1 HB.out (IsS66.ge HI658.out)))); have n1_ := Aside0.mk (hb); have n2_ := Aside0.mk (hi); clear HB; clear HI658; have HO661 := n0_; have HB := n1_; have HI658 := n2_; clear n0_ n1_ n2_; (try clear hb); (try clear hb2); (try clear hk); (try clear hi); (try clear ho0)) | ((with_reducible refine gate_callee (f := 24) rfl ?_); refine goesL_ (some 35) rfl rfl Try.func24 (by kernel_rfl) rfl #[.pointer (some ⟨g658, 0, none⟩), .int .i64 10] rfl (by (try simp only [List.map_toArray, List.map_cons, List.map_nil]); first | done | rfl | (simp only [List.length_drop, List.length_take]; rfl)) ?_; (with_reducible refine (rollbacknetmake_Codes_Dets.calls kj3 g658 t656 t662 10 t663 t666 w _ ?side1 ?side2 A15.out).mono ?_); (case side1 => repeat (first | (with_reducible first | exact HI658.out | apply IsS66.alloc | apply IsS66.drewN | apply IsS66.drew | apply IsS66.set_1) | exact HI658.out)); (case side2 => repeat (first | (with_reducible first | exact HB.out | apply below_alloc | apply pw_below_drewN | apply below_drew1 | refine below_set ?_ (IsS66.ge HI658.out)) | exact HB.out)); rintro e w25 ⟨v664, rfl, ho0, hi, hb, hk⟩; refine ⟨_, rfl, ?_⟩; have n0_ := Aside0.mk (Kd.R_mono (Kd.R_told (Kd.R_oldK (IsS66.apart (show IsS66 w _ g658 t656 t662 from by repeat (first | (with_reducible first | exact HI658.out | apply IsS66.alloc | apply IsS66.drewN | apply IsS66.drew | apply IsS66.set_1) | exact HI658.out)) (rq HO661.out) (by decide)) hk) (Kd.R_base ho0)) (fun _ h_ => h_.1)); have n1_ := Aside0.mk (Kd.R_lower (Kd.R_new' ho0 (Kd.R_lt (rq HO661.out))) (below_size (bq1 HB.out (IsS66.ge HI658.out)))); have n2_ := Aside0.mk (hb); have n3_ := Aside0.mk (hi); clear HO661; clear HB; clear HI658; have HO661 := n0_; have HO665 := n1_; have HB := n2_; have HI658 := n3_; clear n0_ n1_ n2_ n3_; (try clear hb); (try clear hb2); (try clear hk); (try clear hi); (try clear ho0)) | ((with_reducible refine gate_callee (f := 25) rfl ?_); refine goesL_ (some 38) rfl rfl Try.func25 (by kernel_rfl) rfl #[.slice A0 l0.length c0, .slice A1 l1.length c1] rfl (by (try simp only [List.map_toArray, List.map_cons, List.map_nil]); first | done | rfl | (simp only [List.length_drop, List.length_take]; rfl)) ?_; (with_reducible refine (determinant_Merge.calls kj3 _ _ l0 _ _ l1 t667 _ ?side1 ?side2 ?side3 ?side4 A16.out).mono ?_); (case side1 => repeat (first | exact (Kd.C_below HR0.out HB.out) | (with_reducible refine Kd.C_alloc ?_ _) | (with_reducible refine Kd.C_drewN ?_ _) | (with_reducible refine Kd.C_drew ?_))); (case side2 => exact HC0.out); (case side3 => repeat (first | exact (Kd.C_below HR1.out HB.out) | (with_reducible refine Kd.C_alloc ?_ _) | (with_reducible refine Kd.C_drewN ?_ _) | (with_reducible refine Kd.C_drew ?_))); (case side4 => exact HC1.out); rintro e w26 ⟨v668, rfl, ho0, hb⟩; refine ⟨_, rfl, ?_⟩; have n0_ := Aside0.mk (Kd.R_elder' (rq HO661.out) (Kd.R_base ho0) hb); have n1_ := Aside0.mk (Kd.R_elder' (rq HO665.out) (Kd.R_base ho0) hb); have n2_ := Aside0.mk (Kd.R_lower (Kd.R_new' (Kd.R_new' ho0 (Kd.R_lt (rq HO661.out))) (Kd.R_lt (rq HO665.out))) (below_size (bq1 HB.out (IsS66.ge HI658.out)))); have n3_ := Aside0.mk (IsS66.below (by repeat (first | (with_reducible first | exact HI658.out | apply IsS66.alloc | apply IsS66.drewN | apply IsS66.drew | apply IsS66.set_1) | exact HI658.out)) hb); have n4_ := Aside0.mk (below_step (bq1 HB.out (IsS66.ge HI658.out)) hb); clear HO661; clear HO665; clear HI658; clear HB; have HO661 := n0_; have HO665 := n1_; have HO669 := n2_; have HI658 := n3_; have HB := n4_; clear n0_ n1_ n2_ n3_ n4_; (try clear hb); (try clear hb2); (try clear hk); (try clear hi); (try clear ho0)) | ((with_reducible refine gate_callee (f := 26) rfl ?_); refine goesL_ (some 41) rfl rfl Try.func26 (by kernel_rfl) rfl #[.slice A0 l0.length c0, .slice A1 l1.length c1] rfl (by (try simp only [List.map_toArray, List.map_cons, List.map_nil]); first | done | rfl | (simp only [List.length_drop, List.length_take]; rfl)) ?_; (with_reducible refine (rollbacknetref27_Merge.calls kj3 _ _ l0 _ _ l1 t670 _ ?side1 ?side2 ?side3 ?side4 A17.out).mono ?_); (case side1 => repeat (first | exact (Kd.C_below HR0.out HB.out) | (with_reducible refine Kd.C_alloc ?_ _) | (with_reducible refine Kd.C_drewN ?_ _) | (with_reducible refine Kd.C_drew ?_))); (case side2 => exact HC0.out); (case side3 => repeat (first | exact (Kd.C_below HR1.out HB.out) | (with_reducible refine Kd.C_alloc ?_ _) | (with_reducible refine Kd.C_drewN ?_ _) | (with_reducible refine Kd.C_drew ?_))); (case side4 => exact HC1.out); rintro e w27 ⟨v671, rfl, ho0, hb⟩; refine ⟨_, rfl, ?_⟩; have n0_ := Aside0.mk (Kd.R_elder' (rq HO661.out) (Kd.R_base ho0) hb); have n1_ := Aside0.mk (Kd.R_elder' (rq HO665.out) (Kd.R_base ho0) hb); have n2_ := Aside0.mk (Kd.R_elder' (rq HO669.out) (Kd.R_base ho0) hb); have n3_ := Aside0.mk (Kd.R_lower (Kd.R_new' (Kd.R_new' (Kd.R_new' ho0 (Kd.R_lt (rq HO661.out))) (Kd.R_lt (rq HO665.out))) (Kd.R_lt (rq HO669.out))) (below_size (bq1 HB.out (IsS66.ge HI658.out)))); have n4_ := Aside0.mk (IsS66.below (by repeat (first | (with_reducible first | exact HI658.out | apply IsS66.alloc | apply IsS66.drewN | apply IsS66.drew | apply IsS66.set_1) | exact HI658.out)) hb); have n5_ := Aside0.mk (below_step (bq1 HB.out (IsS66.ge HI658.out)) hb); clear HO661; clear HO665; clear HO669; clear HI658; clear HB; have HO661 := n0_; have HO665 := n1_; have HO669 := n2_; have HO672 := n3_; have HI658 := n4_; have HB := n5_; clear n0_ n1_ n2_ n3_ n4_ n5_; (try clear hb); (try clear hb2); (try clear hk); (try clear hi); (try clear ho0); obtain ⟨Ao28, co28, eo28⟩ := Kd.R_slice HO669.out; subst eo28; obtain ⟨Ao29, co29, eo29⟩ := Kd.R_slice HO672.out; subst eo29) | ((with_reducible refine gate_callee (f := 14) rfl ?_); refine goesL_ (some 42) rfl rfl Try.func14 (by kernel_rfl) rfl #[.slice Ao28 t667.length co28, .slice Ao29 t670.length co29] rfl (by (try simp only [List.map_toArray, List.map_cons, List.map_nil]); first | done | rfl | (simp only [List.length_drop, List.length_take]; rfl)) ?_; (with_reducible refine (rollbacknetref27_Same.calls kj3 _ _ t667 _ _ t670 true _ ?side1 ?side2 ?side3 ?side4 A18.out).mono ?_); (case side1 => repeat (first | exact (Kd.R_reads' HO669.out).2.2 | (with_reducible refine Kd.C_alloc ?_ _) | (with_reducible refine Kd.C_drewN ?_ _) | (with_reducible refine Kd.C_drew ?_))); (case side2 => exact (Kd.R_reads' HO669.out).2.1); (case side3 => repeat (first | exact (Kd.R_reads' HO672.out).2.2 | (with_reducible refine Kd.C_alloc ?_ _) | (with_reducible refine Kd.C_drewN ?_ _) | (with_reducible refine Kd.C_drew ?_))); (case side4 => exact (Kd.R_reads' HO672.out).2.1); rintro e w' ⟨rfl, ⟨nd, rfl⟩⟩; refine ⟨_, rfl, ?_⟩; obtain ⟨Ao30, co30, eo30⟩ := Kd.R_slice HO661.out; subst eo30; obtain ⟨Ao31, co31, eo31⟩ := Kd.R_slice HO665.out; subst eo31) | (go_at_call 25; (with_reducible refine (determinant_Merge.calls kj3 _ _ t659 _ _ t663 t674 _ ?side1 ?side2 ?side3 ?side4 A20.out).mono ?_); (case side1 => repeat (first | exact (Kd.R_reads' HO661.out).2.2 | (with_reducible refine Kd.C_alloc ?_ _) | (with_reducible refine Kd.C_drewN ?_ _) | (with_reducible refine Kd.C_drew ?_))); (case side2 => exact (Kd.R_reads' HO661.out).2.1); (case side3 => repeat (first | exact (Kd.R_reads' HO665.out).2.2 | (with_reducible refine Kd.C_alloc ?_ _) | (with_reducible refine Kd.C_drewN ?_ _) | (with_reducible refine Kd.C_drew ?_))); (case side4 => exact (Kd.R_reads' HO665.out).2.1); rintro e w32 ⟨v675, rfl, ho0, hb⟩; have n0_ := Aside0.mk (Kd.R_elder' (rq HO661.out) (Kd.R_base ho0) hb); have n1_ := Aside0.mk (Kd.R_elder' (rq HO665.out) (Kd.R_base ho0) hb); have n2_ := Aside0.mk (Kd.R_elder' (rq HO669.out) (Kd.R_base ho0) hb); have n3_ := Aside0.mk (Kd.R_elder' (rq HO672.out) (Kd.R_base ho0) hb); have n4_ := Aside0.mk (Kd.R_lower (Kd.R_new' (Kd.R_new' (Kd.R_new' (Kd.R_new' ho0 (Kd.R_lt (rq HO661.out))) (Kd.R_lt (rq HO665.out))) (Kd.R_lt (rq HO669.out))) (Kd.R_lt (rq HO672.out))) (below_size (bq1 HB.out (IsS66.ge HI658.out)))); have n5_ := Aside0.mk (IsS66.below (by repeat (first | (with_reducible first | exact HI658.out | apply IsS66.alloc | apply IsS66.drewN | apply IsS66.drew | apply IsS66.set_1) | exact HI658.out)) hb); have n6_ := Aside0.mk (below_step (bq1 HB.out (IsS66.ge HI658.out)) hb); clear HO661; clear HO665; clear HO669; clear HO672; clear HI658; clear HB; have HO661 := n0_; have HO665 := n1_; have HO669 := n2_; have HO672 := n3_; have HO676 := n4_; have HI658 := n5_; have HB := n6_; clear n0_ n1_ n2_ n3_ n4_ n5_ n6_; (try clear hb); (try clear hb2); (try clear hk); (try clear hi); (try clear ho0)) | (go_at_call 26; (with_reducible refine (rollbacknetref27_Merge.calls kj3 _ _ t659 _ _ t663 t677 _ ?side1 ?side2 ?side3 ?side4 A21.out).mono ?_); (case side1 => repeat (first | exact (Kd.R_reads' HO661.out).2.2 | (with_reducible refine Kd.C_alloc ?_ _) | (with_reducible refine Kd.C_drewN ?_ _) | (with_reducible refine Kd.C_drew ?_))); (case side2 => exact (Kd.R_reads' HO661.out).2.1); (case side3 => repeat (first | exact (Kd.R_reads' HO665.out).2.2 | (with_reducible refine Kd.C_alloc ?_ _) | (with_reducible refine Kd.C_drewN ?_ _) | (with_reducible refine Kd.C_drew ?_))); (case side4 => exact (Kd.R_reads' HO665.out).2.1); rintro e w33 ⟨v678, rfl, ho0, hb⟩; have n0_ := Aside0.mk (Kd.R_elder' (rq HO661.out) (Kd.R_base ho0) hb); have n1_ := Aside0.mk (Kd.R_elder' (rq HO665.out) (Kd.R_base ho0) hb); have n2_ := Aside0.mk (Kd.R_elder' (rq HO669.out) (Kd.R_base ho0) hb); have n3_ := Aside0.mk (Kd.R_elder' (rq HO672.out) (Kd.R_base ho0) hb); have n4_ := Aside0.mk (Kd.R_elder' (rq HO676.out) (Kd.R_base ho0) hb); have n5_ := Aside0.mk (Kd.R_lower (Kd.R_new' (Kd.R_new' (Kd.R_new' (Kd.R_new' (Kd.R_new' ho0 (Kd.R_lt (rq HO661.out))) (Kd.R_lt (rq HO665.out))) (Kd.R_lt (rq HO669.out))) (Kd.R_lt (rq HO672.out))) (Kd.R_lt (rq HO676.out))) (below_size (bq1 HB.out (IsS66.ge HI658.out)))); have n6_ := Aside0.mk (IsS66.below (by repeat (first | (with_reducible first | exact HI658.out | apply IsS66.alloc | apply IsS66.drewN | apply IsS66.drew | apply IsS66.set_1) | exact HI658.out)) hb); have n7_ := Aside0.mk (below_step (bq1 HB.out (IsS66.ge HI658.out)) hb); clear HO661; clear HO665; clear HO669; clear HO672; clear HO676; clear HI658; clear HB; have HO661 := n0_; have HO665 := n1_; have HO669 := n2_; have HO672 := n3_; have HO676 := n4_; have HO679 := n5_; have HI658 := n6_; have HB := n7_; clear n0_ n1_ n2_ n3_ n4_ n5_ n6_ n7_; (try clear hb); (try clear hb2); (try clear hk); (try clear hi); (try clear ho0); obtain ⟨Ao34, co34, eo34⟩ := Kd.R_slice HO676.out; subst eo34; obtain ⟨Ao35, co35, eo35⟩ := Kd.R_slice HO679.out; subst eo35) | (go_at_call 14; (with_reducible refine (rollbacknetref27_Same.calls kj3 _ _ t674 _ _ t677 t680 _ ?side1 ?side2 ?side3 ?side4 A22.out).mono ?_); (case side1 => repeat (first | exact (Kd.R_reads' HO676.out).2.2 | (with_reducible refine Kd.C_alloc ?_ _) | (with_reducible refine Kd.C_drewN ?_ _) | (with_reducible refine Kd.C_drew ?_))); (case side2 => exact (Kd.R_reads' HO676.out).2.1); (case side3 => repeat (first | exact (Kd.R_reads' HO679.out).2.2 | (with_reducible refine Kd.C_alloc ?_ _) | (with_reducible refine Kd.C_drewN ?_ _) | (with_reducible refine Kd.C_drew ?_))); (case side4 => exact (Kd.R_reads' HO679.out).2.1); rintro e w' ⟨rfl, ⟨nd, rfl⟩⟩))
     go_ret
     exact ⟨by first | rfl | (simp [errW_none, errW_some] <;> rfl) | (simp [*, errW_none, errW_some] <;> rfl), bq1 HB.out (IsS66.ge HI658.out)⟩
    ·replace c19 := Bool.eq_false_iff.mpr c19
     subst c19
     have H1 : (some false) = some r := by rw [if_neg (show ¬ (false = true) by decide)] at H; exact H
     clear H
     have H := H1
     clear H1
     obtain rfl := Option.some.inj H
     go_wp2_with (first | ((with_reducible refine gate_callee (f := 23) rfl ?_); refine goesL_ (some 31) rfl rfl Try.func23 (by kernel_rfl) rfl #[.slice A2 l2.length c2, .int .i64 200] rfl (by (try simp only [List.map_toArray, List.map_cons, List.map_nil]); first | done | rfl | (simp only [List.length_drop, List.length_take]; rfl)) ?_; (with_reducible refine (rollbacknetmake_New.calls _ _ l2 200 t656 t657 w _ ?side1 ?side2 ?side3 A13.out).mono ?_); (case side1 => repeat (first | (with_reducible first | exact HB.out | apply below_alloc | apply pw_below_drewN | apply below_drew1) | exact HB.out)); (case side2 => exact HR2.out); (case side3 => exact HC2.out); rintro e w36 ⟨g658, rfl, hi, hb, hb2⟩; refine ⟨_, rfl, ?_⟩; have n0_ := Aside0.mk (hb); have n1_ := Aside0.mk (hi); clear HB; have HB := n0_; have HI658 := n1_; clear n0_ n1_; (try clear hb); (try clear hb2); (try clear hk); (try clear hi)) | ((with_reducible refine gate_callee (f := 24) rfl ?_); refine goesL_ (some 33) rfl rfl Try.func24 (by kernel_rfl) rfl #[.pointer (some ⟨g658, 0, none⟩), .int .i64 10] rfl (by (try simp only [List.map_toArray, List.map_cons, List.map_nil]); first | done | rfl | (simp only [List.length_drop, List.length_take]; rfl)) ?_; (with_reducible refine (rollbacknetmake_Codes_Dets.calls kj3 g658 t656 t657 10 t659 t662 w _ ?side1 ?side2 A14.out).mono ?_); (case side1 => repeat (first | (with_reducible first | exact HI658.out | apply IsS66.alloc | apply IsS66.drewN | apply IsS66.drew | apply IsS66.set_1) | exact HI658.out)); (case side2 => repeat (first | (with_reducible first | exact HB.out | apply below_alloc | apply pw_below_drewN | apply below_drew1 | refine below_set ?_ (IsS66.ge HI658.out)) | exact HB.out)); rintro e w37 ⟨v660, rfl, ho0, hi, hb, hk⟩; refine ⟨_, rfl, ?_⟩; have n0_ := Aside0.mk (Kd.R_lower ho0 (below_size (bq1 HB.out (IsS66.ge HI658.out)))); have n1_ := Aside0.mk (hb); have n2_ := Aside0.mk (hi); clear HB; clear HI658; have HO661 := n0_; have HB := n1_; have HI658 := n2_; clear n0_ n1_ n2_; (try clear hb); (try clear hb2); (try clear hk); (try clear hi); (try clear ho0)) | ((with_reducible refine gate_callee (f := 24) rfl ?_); refine goesL_ (some 35) rfl rfl Try.func24 (by kernel_rfl) rfl #[.pointer (some ⟨g658, 0, none⟩), .int .i64 10] rfl (by (try simp only [List.map_toArray, List.map_cons, List.map_nil]); first | done | rfl | (simp only [List.length_drop, List.length_take]; rfl)) ?_; (with_reducible refine (rollbacknetmake_Codes_Dets.calls kj3 g658 t656 t662 10 t663 t666 w _ ?side1 ?side2 A15.out).mono ?_); (case side1 => repeat (first | (with_reducible first | exact HI658.out | apply IsS66.alloc | apply IsS66.drewN | apply IsS66.drew | apply IsS66.set_1) | exact HI658.out)); (case side2 => repeat (first | (with_reducible first | exact HB.out | apply below_alloc | apply pw_below_drewN | apply below_drew1 | refine below_set ?_ (IsS66.ge HI658.out)) | exact HB.out)); rintro e w38 ⟨v664, rfl, ho0, hi, hb, hk⟩; refine ⟨_, rfl, ?_⟩; have n0_ := Aside0.mk (Kd.R_mono (Kd.R_told (Kd.R_oldK (IsS66.apart (show IsS66 w _ g658 t656 t662 from by repeat (first | (with_reducible first | exact HI658.out | apply IsS66.alloc | apply IsS66.drewN | apply IsS66.drew | apply IsS66.set_1) | exact HI658.out)) (rq HO661.out) (by decide)) hk) (Kd.R_base ho0)) (fun _ h_ => h_.1)); have n1_ := Aside0.mk (Kd.R_lower (Kd.R_new' ho0 (Kd.R_lt (rq HO661.out))) (below_size (bq1 HB.out (IsS66.ge HI658.out)))); have n2_ := Aside0.mk (hb); have n3_ := Aside0.mk (hi); clear HO661; clear HB; clear HI658; have HO661 := n0_; have HO665 := n1_; have HB := n2_; have HI658 := n3_; clear n0_ n1_ n2_ n3_; (try clear hb); (try clear hb2); (try clear hk); (try clear hi); (try clear ho0)) | ((with_reducible refine gate_callee (f := 25) rfl ?_); refine goesL_ (some 38) rfl rfl Try.func25 (by kernel_rfl) rfl #[.slice A0 l0.length c0, .slice A1 l1.length c1] rfl (by (try simp only [List.map_toArray, List.map_cons, List.map_nil]); first | done | rfl | (simp only [List.length_drop, List.length_take]; rfl)) ?_; (with_reducible refine (determinant_Merge.calls kj3 _ _ l0 _ _ l1 t667 _ ?side1 ?side2 ?side3 ?side4 A16.out).mono ?_); (case side1 => repeat (first | exact (Kd.C_below HR0.out HB.out) | (with_reducible refine Kd.C_alloc ?_ _) | (with_reducible refine Kd.C_drewN ?_ _) | (with_reducible refine Kd.C_drew ?_))); (case side2 => exact HC0.out); (case side3 => repeat (first | exact (Kd.C_below HR1.out HB.out) | (with_reducible refine Kd.C_alloc ?_ _) | (with_reducible refine Kd.C_drewN ?_ _) | (with_reducible refine Kd.C_drew ?_))); (case side4 => exact HC1.out); rintro e w39 ⟨v668, rfl, ho0, hb⟩; refine ⟨_, rfl, ?_⟩; have n0_ := Aside0.mk (Kd.R_elder' (rq HO661.out) (Kd.R_base ho0) hb); have n1_ := Aside0.mk (Kd.R_elder' (rq HO665.out) (Kd.R_base ho0) hb); have n2_ := Aside0.mk (Kd.R_lower (Kd.R_new' (Kd.R_new' ho0 (Kd.R_lt (rq HO661.out))) (Kd.R_lt (rq HO665.out))) (below_size (bq1 HB.out (IsS66.ge HI658.out)))); have n3_ := Aside0.mk (IsS66.below (by repeat (first | (with_reducible first | exact HI658.out | apply IsS66.alloc | apply IsS66.drewN | apply IsS66.drew | apply IsS66.set_1) | exact HI658.out)) hb); have n4_ := Aside0.mk (below_step (bq1 HB.out (IsS66.ge HI658.out)) hb); clear HO661; clear HO665; clear HI658; clear HB; have HO661 := n0_; have HO665 := n1_; have HO669 := n2_; have HI658 := n3_; have HB := n4_; clear n0_ n1_ n2_ n3_ n4_; (try clear hb); (try clear hb2); (try clear hk); (try clear hi); (try clear ho0)) | ((with_reducible refine gate_callee (f := 26) rfl ?_); refine goesL_ (some 41) rfl rfl Try.func26 (by kernel_rfl) rfl #[.slice A0 l0.length c0, .slice A1 l1.length c1] rfl (by (try simp only [List.map_toArray, List.map_cons, List.map_nil]); first | done | rfl | (simp only [List.length_drop, List.length_take]; rfl)) ?_; (with_reducible refine (rollbacknetref27_Merge.calls kj3 _ _ l0 _ _ l1 t670 _ ?side1 ?side2 ?side3 ?side4 A17.out).mono ?_); (case side1 => repeat (first | exact (Kd.C_below HR0.out HB.out) | (with_reducible refine Kd.C_alloc ?_ _) | (with_reducible refine Kd.C_drewN ?_ _) | (with_reducible refine Kd.C_drew ?_))); (case side2 => exact HC0.out); (case side3 => repeat (first | exact (Kd.C_below HR1.out HB.out) | (with_reducible refine Kd.C_alloc ?_ _) | (with_reducible refine Kd.C_drewN ?_ _) | (with_reducible refine Kd.C_drew ?_))); (case side4 => exact HC1.out); rintro e w40 ⟨v671, rfl, ho0, hb⟩; refine ⟨_, rfl, ?_⟩; have n0_ := Aside0.mk (Kd.R_elder' (rq HO661.out) (Kd.R_base ho0) hb); have n1_ := Aside0.mk (Kd.R_elder' (rq HO665.out) (Kd.R_base ho0) hb); have n2_ := Aside0.mk (Kd.R_elder' (rq HO669.out) (Kd.R_base ho0) hb); have n3_ := Aside0.mk (Kd.R_lower (Kd.R_new' (Kd.R_new' (Kd.R_new' ho0 (Kd.R_lt (rq HO661.out))) (Kd.R_lt (rq HO665.out))) (Kd.R_lt (rq HO669.out))) (below_size (bq1 HB.out (IsS66.ge HI658.out)))); have n4_ := Aside0.mk (IsS66.below (by repeat (first | (with_reducible first | exact HI658.out | apply IsS66.alloc | apply IsS66.drewN | apply IsS66.drew | apply IsS66.set_1) | exact HI658.out)) hb); have n5_ := Aside0.mk (below_step (bq1 HB.out (IsS66.ge HI658.out)) hb); clear HO661; clear HO665; clear HO669; clear HI658; clear HB; have HO661 := n0_; have HO665 := n1_; have HO669 := n2_; have HO672 := n3_; have HI658 := n4_; have HB := n5_; clear n0_ n1_ n2_ n3_ n4_ n5_; (try clear hb); (try clear hb2); (try clear hk); (try clear hi); (try clear ho0); obtain ⟨Ao41, co41, eo41⟩ := Kd.R_slice HO669.out; subst eo41; obtain ⟨Ao42, co42, eo42⟩ := Kd.R_slice HO672.out; subst eo42) | ((with_reducible refine gate_callee (f := 14) rfl ?_); refine goesL_ (some 42) rfl rfl Try.func14 (by kernel_rfl) rfl #[.slice Ao41 t667.length co41, .slice Ao42 t670.length co42] rfl (by (try simp only [List.map_toArray, List.map_cons, List.map_nil]); first | done | rfl | (simp only [List.length_drop, List.length_take]; rfl)) ?_; (with_reducible refine (rollbacknetref27_Same.calls kj3 _ _ t667 _ _ t670 false _ ?side1 ?side2 ?side3 ?side4 A18.out).mono ?_); (case side1 => repeat (first | exact (Kd.R_reads' HO669.out).2.2 | (with_reducible refine Kd.C_alloc ?_ _) | (with_reducible refine Kd.C_drewN ?_ _) | (with_reducible refine Kd.C_drew ?_))); (case side2 => exact (Kd.R_reads' HO669.out).2.1); (case side3 => repeat (first | exact (Kd.R_reads' HO672.out).2.2 | (with_reducible refine Kd.C_alloc ?_ _) | (with_reducible refine Kd.C_drewN ?_ _) | (with_reducible refine Kd.C_drew ?_))); (case side4 => exact (Kd.R_reads' HO672.out).2.1); rintro e w' ⟨rfl, ⟨nd, rfl⟩⟩; refine ⟨_, rfl, ?_⟩))
     go_ret
     exact ⟨by first | rfl | (simp [errW_none, errW_some] <;> rfl) | (simp [*, errW_none, errW_some] <;> rfl), bq1 HB.out (IsS66.ge HI658.out)⟩

/-- THE ONE PURE STATEMENT of rollbacknetlaw27_DeterminantMerges. -/
def rollbacknetlaw27_DeterminantMerges.Pure : Prop := ∀ (p0 : List (S39)) (p1 : List (S39)) (p2 : List Int), (okRow 72 ok39) p0 → (okRow 72 ok39) p1 → (okRow 1 (okInt .u8)) p2 → ∃ k, rollbacknetlaw27_DeterminantMerges.f k p0 p1 p2 = some true

end Go.Proofs.Ytjlpggpkbcgekaa.PG27
