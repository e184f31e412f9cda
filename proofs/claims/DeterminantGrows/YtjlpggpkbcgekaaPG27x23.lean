-- Written by a program of this session (hprint.py) out of the translation and of hand-proved parts. Lean checks it.
import Derived.Test.YtjlpggpkbcgekaaPG27x0
import Derived.Test.YtjlpggpkbcgekaaPG27x2
import Derived.Test.YtjlpggpkbcgekaaPG27x5
import Derived.Test.YtjlpggpkbcgekaaPG27x6
import Derived.Test.YtjlpggpkbcgekaaPG27x7
import Derived.Test.YtjlpggpkbcgekaaPG27x19
import Derived.Test.YtjlpggpkbcgekaaPG27x21
import Derived.Test.YtjlpggpkbcgekaaPG27x22
namespace Go.Proofs.Ytjlpggpkbcgekaa.PG27
open Go.RowKit Go.Proofs.YtjlpggpkbcgekaaW.PrintWords Go.Proofs.YtjlpggpkbcgekaaW.PrintLast Go.Proofs.YtjlpggpkbcgekaaW.PrintMore
attribute [local go_sem] max2_int min2_int max_two min_two max_three min_three max_four min_four   -- for this text's walks alone
set_option linter.unusedVariables false
set_option linter.unusedSimpArgs false

/-! ### rollbacknetlaw27_DeterminantGrows: function 7 -/
def rollbacknetlaw27_DeterminantGrows.j0 : Nat → List Int → List (S39) → Int → Bool → Option (Bool)
 | 0, _, _, _, _ => none
 | k + 1, x0, x1, x2, x20 => if x20 = true then (some (decide ((x1.length : Int) > 60))) else ((rollbacknetlaw27_scene.f k x0).bind fun bt405 => ((determinant_Restorable.f bt405.1 bt405.2.1 bt405.2.2.1 bt405.2.2.2).bind fun t415 => ((rollbacknetmake_Mod.f x2 (wrap64 ((bt405.2.1.length : Int) + 1))).bind fun t418 => (if ([] : List Int).length + bt405.2.2.1.length < 17592186044416 then ((some (([] : List Int) ++ bt405.2.2.1 : List Int)).bind fun y419 => (if y419.length < 17592186044416 then ((determinant_Merge.f k bt405.2.2.2 x1).bind fun t425 => ((determinant_Restorable.f bt405.1 bt405.2.1 (y419 ++ [t418]) t425).bind fun t428 => ((rollbacknetlaw27_part.f k t415 t428).bind fun t431 => (if t431 = true then ((rollbacknetlaw27_part.f k (([t418] : List Int)) t428).bind fun t435 => (some t435)) else (some false))))) else (none))) else (none)))))
def rollbacknetlaw27_DeterminantGrows.f (k : Nat) (l0 : List Int) (l1 : List (S39)) (a2 : Int) : Option (Bool) := (rollbacknetlaw27_awake.f k).bind fun t404 => (if t404 = true then (rollbacknetlaw27_DeterminantGrows.j0 k l0 l1 a2 (decide ((l1.length : Int) > 60))) else (rollbacknetlaw27_DeterminantGrows.j0 k l0 l1 a2 true))
theorem rollbacknetlaw27_DeterminantGrows.mono_l : ∀ k, (∀ y0 y1 y2 y3, LeO (rollbacknetlaw27_DeterminantGrows.j0 k y0 y1 y2 y3) (rollbacknetlaw27_DeterminantGrows.j0 (k + 1) y0 y1 y2 y3))
 | 0 => fun _ _ _ _ r h => by simp [rollbacknetlaw27_DeterminantGrows.j0] at h
 | k + 1 => by
  have ih0 := rollbacknetlaw27_DeterminantGrows.mono_l k
  ·intro y0 y1 y2 y3
   unfold rollbacknetlaw27_DeterminantGrows.j0
   repeat' first
   | (with_reducible exact ih0 _ _ _ _)
   | (with_reducible exact determinant_Merge.mono _ _ _)
   | (with_reducible exact rollbacknetlaw27_awake.mono _)
   | (with_reducible exact rollbacknetlaw27_part.mono _ _ _)
   | (with_reducible exact rollbacknetlaw27_scene.mono _ _)
   | (with_reducible exact LeO.refl _)
   | (with_reducible exact LeO.none _)
   | (with_reducible refine LeO.ite ?_ ?_)
   | (with_reducible refine LeO.bind ?_ (fun _ => ?_))
   | exact ih0 _ _ _ _
   | exact determinant_Merge.mono _ _ _
   | exact rollbacknetlaw27_awake.mono _
   | exact rollbacknetlaw27_part.mono _ _ _
   | exact rollbacknetlaw27_scene.mono _ _
   | exact LeO.none _
   | refine LeO.ite ?_ ?_
   | refine LeO.bind ?_ (fun _ => ?_)
theorem rollbacknetlaw27_DeterminantGrows.mono : ∀ a0 a1 a2 k, LeO (rollbacknetlaw27_DeterminantGrows.f k a0 a1 a2) (rollbacknetlaw27_DeterminantGrows.f (k + 1) a0 a1 a2) := by
 intro a0 a1 a2 k
 have ih0 := rollbacknetlaw27_DeterminantGrows.mono_l k
 unfold rollbacknetlaw27_DeterminantGrows.f
 repeat' first
   | (with_reducible exact ih0 _ _ _ _)
   | (with_reducible exact determinant_Merge.mono _ _ _)
   | (with_reducible exact rollbacknetlaw27_awake.mono _)
   | (with_reducible exact rollbacknetlaw27_part.mono _ _ _)
   | (with_reducible exact rollbacknetlaw27_scene.mono _ _)
   | (with_reducible exact LeO.refl _)
   | (with_reducible exact LeO.none _)
   | (with_reducible refine LeO.ite ?_ ?_)
   | (with_reducible refine LeO.bind ?_ (fun _ => ?_))
   | exact ih0 _ _ _ _
   | exact determinant_Merge.mono _ _ _
   | exact rollbacknetlaw27_awake.mono _
   | exact rollbacknetlaw27_part.mono _ _ _
   | exact rollbacknetlaw27_scene.mono _ _
   | exact LeO.none _
   | refine LeO.ite ?_ ?_
   | refine LeO.bind ?_ (fun _ => ?_)
set_option maxHeartbeats 8000000 in
set_option maxRecDepth 100000 in
theorem rollbacknetlaw27_DeterminantGrows.calls (k : Nat) (A0 : Option Addr) (c0 : Nat) (l0 : List Int) (A1 : Option Addr) (c1 : Nat) (l1 : List (S39)) (a2 : Int) (r : Bool) (w : World) (hr0 : Kd.C (Kd.int .u8) w A0 l0.length l0) (hc0 : l0.length ≤ c0) (hr1 : Kd.C k39 w A1 l1.length l1) (hc1 : l1.length ≤ c1) (h : rollbacknetlaw27_DeterminantGrows.f k l0 l1 a2 = some r) :
  Calls Try.prog 7 #[.slice A0 l0.length c0, .slice A1 l1.length c1, .int .i64 a2] w fun e w' => e = .returned (.bool r) ∧ Below w.heap.size w w' := by
 have HR0 := Aside0.mk hr0
 have HC0 := Aside0.mk hc0
 clear hr0 hc0
 have HR1 := Aside0.mk hr1
 have HC1 := Aside0.mk hc1
 clear hr1 hc1
 have HB := Aside0.mk (Below.refl w.heap.size w)
 have H : ((rollbacknetlaw27_awake.f k).bind fun t404 => (if t404 = true then (rollbacknetlaw27_DeterminantGrows.j0 k l0 l1 a2 (decide ((l1.length : Int) > 60))) else (rollbacknetlaw27_DeterminantGrows.j0 k l0 l1 a2 true))) = some r := h
 clear h
 have HC4 := Aside0.mk H
 clear H
 go_enter Try.func7, Try.ntmps7
 go_upto_region 1 with (fail)
 go_cut [20] (fun v20 wc => ∃ (kq : Nat) (x20_3 : Bool), v20 = .bool x20_3 ∧ Aside0 (rollbacknetlaw27_DeterminantGrows.j0 kq l0 l1 a2 x20_3 = some r) ∧ Aside0 (kq ≤ k) ∧ Aside0 (Below w.heap.size w wc))
 case first =>
  have H := HC4.out
  clear HC4
  replace H := Option.bind_eq_some_iff.mp H
  obtain ⟨t404, A50, H⟩ := H
  replace H : (if t404 = true then (rollbacknetlaw27_DeterminantGrows.j0 k l0 l1 a2 (decide ((l1.length : Int) > 60))) else (rollbacknetlaw27_DeterminantGrows.j0 k l0 l1 a2 true)) = some r := H
  have A5 := Aside0.mk A50
  clear A50
  by_cases c6 : t404 = true
  ·subst c6
   have H1 : (rollbacknetlaw27_DeterminantGrows.j0 k l0 l1 a2 (decide ((l1.length : Int) > 60))) = some r := by rw [if_pos rfl] at H; exact H
   clear H
   have H := H1
   clear H1
   have H' := Aside0.mk H
   clear H
   go_wp2_with (first | ((with_reducible refine gate_callee (f := 12) rfl ?_); refine goesL_ (some 14) rfl rfl Try.func12 (by kernel_rfl) rfl #[] rfl (by (try simp only [List.map_toArray, List.map_cons, List.map_nil]); first | done | rfl | (simp only [List.length_drop, List.length_take]; rfl)) ?_; (with_reducible refine (rollbacknetlaw27_awake.calls k  true _ A5.out).mono ?_); rintro e w7 ⟨rfl, hb⟩; refine ⟨_, rfl, ?_⟩; have n0_ := Aside0.mk (below_step (bq HB.out) hb); clear HB; have HB := n0_; clear n0_; (try clear hb); (try clear hb2); (try clear hk); (try clear hi)))
   go_meet
   case rel => exact ⟨_, (decide ((l1.length : Int) > 60)), (by first | rfl | (simp; done) | (simp [*]; done)), H', ⟨by first | omega | exact Nat.le_refl _⟩, ⟨bq HB.out⟩⟩
  ·replace c6 := Bool.eq_false_iff.mpr c6
   subst c6
   have H1 : (rollbacknetlaw27_DeterminantGrows.j0 k l0 l1 a2 true) = some r := by rw [if_neg (show ¬ (false = true) by decide)] at H; exact H
   clear H
   have H := H1
   clear H1
   have H' := Aside0.mk H
   clear H
   go_wp2_with (first | ((with_reducible refine gate_callee (f := 12) rfl ?_); refine goesL_ (some 14) rfl rfl Try.func12 (by kernel_rfl) rfl #[] rfl (by (try simp only [List.map_toArray, List.map_cons, List.map_nil]); first | done | rfl | (simp only [List.length_drop, List.length_take]; rfl)) ?_; (with_reducible refine (rollbacknetlaw27_awake.calls k  false _ A5.out).mono ?_); rintro e w8 ⟨rfl, hb⟩; refine ⟨_, rfl, ?_⟩; have n0_ := Aside0.mk (below_step (bq HB.out) hb); clear HB; have HB := n0_; clear n0_; (try clear hb); (try clear hb2); (try clear hk); (try clear hi)))
   go_meet
   case rel => exact ⟨_, (true), (by first | rfl | (simp; done) | (simp [*]; done)), H', ⟨by first | omega | exact Nat.le_refl _⟩, ⟨bq HB.out⟩⟩
 case rest =>
  clear HC4
  try clear c1
  try clear p2
  try clear c6
  try clear c7
  obtain ⟨kq, x20_3, rfl, HA, HJ3, HB⟩ := hcut
  cases kq with
  | zero => exact absurd HA.out (by simp [rollbacknetlaw27_DeterminantGrows.j0])
  | succ kj3 =>
   have H := HA.out
   clear HA
   simp only [rollbacknetlaw27_DeterminantGrows.j0] at H
   by_cases c9 : x20_3 = true
   ·subst c9
    have H1 : (some (decide ((l1.length : Int) > 60))) = some r := by rw [if_pos rfl] at H; exact H
    clear H
    have H := H1
    clear H1
    obtain rfl := Option.some.inj H
    go_wp2
    go_ret
    exact ⟨by first | rfl | (simp [errW_none, errW_some] <;> rfl) | (simp [*, errW_none, errW_some] <;> rfl), bq HB.out⟩
   ·replace c9 := Bool.eq_false_iff.mpr c9
    subst c9
    have H1 : ((rollbacknetlaw27_scene.f kj3 l0).bind fun bt405 => ((determinant_Restorable.f bt405.1 bt405.2.1 bt405.2.2.1 bt405.2.2.2).bind fun t415 => ((rollbacknetmake_Mod.f a2 (wrap64 ((bt405.2.1.length : Int) + 1))).bind fun t418 => (if ([] : List Int).length + bt405.2.2.1.length < 17592186044416 then ((some (([] : List Int) ++ bt405.2.2.1 : List Int)).bind fun y419 => (if y419.length < 17592186044416 then ((determinant_Merge.f kj3 bt405.2.2.2 l1).bind fun t425 => ((determinant_Restorable.f bt405.1 bt405.2.1 (y419 ++ [t418]) t425).bind fun t428 => ((rollbacknetlaw27_part.f kj3 t415 t428).bind fun t431 => (if t431 = true then ((rollbacknetlaw27_part.f kj3 (([t418] : List Int)) t428).bind fun t435 => (some t435)) else (some false))))) else (none))) else (none))))) = some r := by rw [if_neg (show ¬ (false = true) by decide)] at H; exact H
    clear H
    have H := H1
    clear H1
    replace H := Option.bind_eq_some_iff.mp H
    obtain ⟨⟨t405, t406, t407, t408⟩, A100, H⟩ := H
    replace H : ((determinant_Restorable.f t405 t406 t407 t408).bind fun t415 => ((rollbacknetmake_Mod.f a2 (wrap64 ((t406.length : Int) + 1))).bind fun t418 => (if ([] : List Int).length + t407.length < 17592186044416 then ((some (([] : List Int) ++ t407 : List Int)).bind fun y419 => (if y419.length < 17592186044416 then ((determinant_Merge.f kj3 t408 l1).bind fun t425 => ((determinant_Restorable.f t405 t406 (y419 ++ [t418]) t425).bind fun t428 => ((rollbacknetlaw27_part.f kj3 t415 t428).bind fun t431 => (if t431 = true then ((rollbacknetlaw27_part.f kj3 (([t418] : List Int)) t428).bind fun t435 => (some t435)) else (some false))))) else (none))) else (none)))) = some r := H
    have A10 := Aside0.mk A100
    clear A100
    replace H := Option.bind_eq_some_iff.mp H
    obtain ⟨t415, A110, H⟩ := H
    replace H : ((rollbacknetmake_Mod.f a2 (wrap64 ((t406.length : Int) + 1))).bind fun t418 => (if ([] : List Int).length + t407.length < 17592186044416 then ((some (([] : List Int) ++ t407 : List Int)).bind fun y419 => (if y419.length < 17592186044416 then ((determinant_Merge.f kj3 t408 l1).bind fun t425 => ((determinant_Restorable.f t405 t406 (y419 ++ [t418]) t425).bind fun t428 => ((rollbacknetlaw27_part.f kj3 t415 t428).bind fun t431 => (if t431 = true then ((rollbacknetlaw27_part.f kj3 (([t418] : List Int)) t428).bind fun t435 => (some t435)) else (some false))))) else (none))) else (none))) = some r := H
    have A11 := Aside0.mk A110
    clear A110
    replace H := Option.bind_eq_some_iff.mp H
    obtain ⟨t418, A120, H⟩ := H
    replace H : (if ([] : List Int).length + t407.length < 17592186044416 then ((some (([] : List Int) ++ t407 : List Int)).bind fun y419 => (if y419.length < 17592186044416 then ((determinant_Merge.f kj3 t408 l1).bind fun t425 => ((determinant_Restorable.f t405 t406 (y419 ++ [t418]) t425).bind fun t428 => ((rollbacknetlaw27_part.f kj3 t415 t428).bind fun t431 => (if t431 = true then ((rollbacknetlaw27_part.f kj3 (([t418] : List Int)) t428).bind fun t435 => (some t435)) else (some false))))) else (none))) else (none)) = some r := H
    have A12 := Aside0.mk A120
    clear A120
    by_cases c13 : ([] : List Int).length + t407.length < 17592186044416
    ·rw [if_pos c13] at H
     have LMc13 := Aside0.mk c13
     clear c13
     obtain ⟨y419, hy419⟩ : ∃ y_ : List Int, y_ = (([] : List Int) ++ t407) := ⟨_, rfl⟩
     replace H : (if y419.length < 17592186044416 then ((determinant_Merge.f kj3 t408 l1).bind fun t425 => ((determinant_Restorable.f t405 t406 (y419 ++ [t418]) t425).bind fun t428 => ((rollbacknetlaw27_part.f kj3 t415 t428).bind fun t431 => (if t431 = true then ((rollbacknetlaw27_part.f kj3 (([t418] : List Int)) t428).bind fun t435 => (some t435)) else (some false))))) else (none)) = some r := by first | (rw [hy419]; with_reducible exact H) | (have H2_ := (Option.bind_some _ _).symm.trans H; rw [hy419]; with_reducible exact H2_) | (have H2_ := (Option.bind_some _ _).symm.trans H; with_reducible exact H2_) | with_reducible exact H | (rw [hy419]; exact H) | exact H
     have Ny419 := Aside0.mk hy419
     clear hy419
     by_cases c14 : y419.length < 17592186044416
     ·rw [if_pos c14] at H
      have LMc14 := Aside0.mk c14
      clear c14
      obtain ⟨y422, hy422⟩ : ∃ y_ : List Int, y_ = (y419 ++ [t418]) := ⟨_, rfl⟩
      replace H : ((determinant_Merge.f kj3 t408 l1).bind fun t425 => ((determinant_Restorable.f t405 t406 y422 t425).bind fun t428 => ((rollbacknetlaw27_part.f kj3 t415 t428).bind fun t431 => (if t431 = true then ((rollbacknetlaw27_part.f kj3 (([t418] : List Int)) t428).bind fun t435 => (some t435)) else (some false))))) = some r := by first | (rw [hy422]; with_reducible exact H) | (have H2_ := (Option.bind_some _ _).symm.trans H; rw [hy422]; with_reducible exact H2_) | (have H2_ := (Option.bind_some _ _).symm.trans H; with_reducible exact H2_) | with_reducible exact H | (rw [hy422]; exact H) | exact H
      have Ny422 := Aside0.mk hy422
      clear hy422
      replace H := Option.bind_eq_some_iff.mp H
      obtain ⟨t425, A150, H⟩ := H
      replace H : ((determinant_Restorable.f t405 t406 y422 t425).bind fun t428 => ((rollbacknetlaw27_part.f kj3 t415 t428).bind fun t431 => (if t431 = true then ((rollbacknetlaw27_part.f kj3 (([t418] : List Int)) t428).bind fun t435 => (some t435)) else (some false)))) = some r := H
      have A15 := Aside0.mk A150
      clear A150
      replace H := Option.bind_eq_some_iff.mp H
      obtain ⟨t428, A160, H⟩ := H
      replace H : ((rollbacknetlaw27_part.f kj3 t415 t428).bind fun t431 => (if t431 = true then ((rollbacknetlaw27_part.f kj3 (([t418] : List Int)) t428).bind fun t435 => (some t435)) else (some false))) = some r := H
      have A16 := Aside0.mk A160
      clear A160
      replace H := Option.bind_eq_some_iff.mp H
      obtain ⟨t431, A170, H⟩ := H
      replace H : (if t431 = true then ((rollbacknetlaw27_part.f kj3 (([t418] : List Int)) t428).bind fun t435 => (some t435)) else (some false)) = some r := H
      have A17 := Aside0.mk A170
      clear A170
      by_cases c18 : t431 = true
      ·subst c18
       have H1 : ((rollbacknetlaw27_part.f kj3 (([t418] : List Int)) t428).bind fun t435 => (some t435)) = some r := by rw [if_pos rfl] at H; exact H
       clear H
       have H := H1
       clear H1
       obtain ⟨y432, hy432⟩ : ∃ y_ : List Int, y_ = (([t418] : List Int)) := ⟨_, rfl⟩
       replace H : ((rollbacknetlaw27_part.f kj3 y432 t428).bind fun t435 => (some t435)) = some r := by first | (rw [hy432]; with_reducible exact H) | (have H2_ := (Option.bind_some _ _).symm.trans H; rw [hy432]; with_reducible exact H2_) | (have H2_ := (Option.bind_some _ _).symm.trans H; with_reducible exact H2_) | with_reducible exact H | (rw [hy432]; exact H) | exact H
       have Ny432 := Aside0.mk hy432
       clear hy432
       replace H := Option.bind_eq_some_iff.mp H
       obtain ⟨t435, A190, H⟩ := H
       replace H : (some t435) = some r := H
       have A19 := Aside0.mk A190
       clear A190
       obtain rfl := Option.some.inj H
       go_wp2_with (first | ((with_reducible refine gate_callee (f := 13) rfl ?_); refine goesL_ (some 26) rfl rfl Try.func13 (by kernel_rfl) rfl #[.slice A0 l0.length c0] rfl (by (try simp only [List.map_toArray, List.map_cons, List.map_nil]); first | done | rfl | (simp only [List.length_drop, List.length_take]; rfl)) ?_; (with_reducible refine (rollbacknetlaw27_scene.calls kj3 _ _ l0 t405 t406 t407 t408 _ ?side1 ?side2 A10.out).mono ?_); (case side1 => repeat (first | exact (Kd.C_below HR0.out HB.out) | (with_reducible refine Kd.C_alloc ?_ _) | (with_reducible refine Kd.C_drewN ?_ _) | (with_reducible refine Kd.C_drew ?_))); (case side2 => exact HC0.out); rintro e w20 ⟨v409, v411, v413, rfl, ho0, ho1, ho2, hb⟩; refine ⟨_, rfl, ?_⟩; have n0_ := Aside0.mk (Kd.R_lower ho0 (below_size (bq HB.out))); have n1_ := Aside0.mk (Kd.R_lower ho1 (below_size (bq HB.out))); have n2_ := Aside0.mk (Kd.R_lower ho2 (below_size (bq HB.out))); have n3_ := Aside0.mk (below_step (bq HB.out) hb); clear HB; have HO410 := n0_; have HO412 := n1_; have HO414 := n2_; have HB := n3_; clear n0_ n1_ n2_ n3_; (try clear hb); (try clear hb2); (try clear hk); (try clear hi); (try clear ho0); (try clear ho1); (try clear ho2); obtain ⟨Ao21, co21, eo21⟩ := Kd.R_slice HO410.out; subst eo21; obtain ⟨Ao22, co22, eo22⟩ := Kd.R_slice HO412.out; subst eo22; obtain ⟨Ao23, co23, eo23⟩ := Kd.R_slice HO414.out; subst eo23) | ((with_reducible refine gate_callee (f := 18) rfl ?_); refine goesL_ (some 35) rfl rfl Try.func18 (by kernel_rfl) rfl #[.int .i64 t405, .slice Ao21 t406.length co21, .slice Ao22 t407.length co22, .slice Ao23 t408.length co23] rfl (by (try simp only [List.map_toArray, List.map_cons, List.map_nil]); first | done | rfl | (simp only [List.length_drop, List.length_take]; rfl)) ?_; (with_reducible refine (determinant_Restorable.calls t405 _ _ t406 _ _ t407 _ _ t408 t415 _ ?side1 ?side2 ?side3 ?side4 ?side5 ?side6 A11.out).mono ?_); (case side1 => repeat (first | exact (Kd.R_reads' HO410.out).2.2 | (with_reducible refine Kd.C_alloc ?_ _) | (with_reducible refine Kd.C_drewN ?_ _) | (with_reducible refine Kd.C_drew ?_))); (case side2 => exact (Kd.R_reads' HO410.out).2.1); (case side3 => repeat (first | exact (Kd.R_reads' HO412.out).2.2 | (with_reducible refine Kd.C_alloc ?_ _) | (with_reducible refine Kd.C_drewN ?_ _) | (with_reducible refine Kd.C_drew ?_))); (case side4 => exact (Kd.R_reads' HO412.out).2.1); (case side5 => repeat (first | exact (Kd.R_reads' HO414.out).2.2 | (with_reducible refine Kd.C_alloc ?_ _) | (with_reducible refine Kd.C_drewN ?_ _) | (with_reducible refine Kd.C_drew ?_))); (case side6 => exact (Kd.R_reads' HO414.out).2.1); rintro e w24 ⟨v416, rfl, ho0, hb⟩; refine ⟨_, rfl, ?_⟩; have n0_ := Aside0.mk (Kd.R_below (rq HO410.out) hb); have n1_ := Aside0.mk (Kd.R_elder' (rq HO412.out) (Kd.R_base ho0) hb); have n2_ := Aside0.mk (Kd.R_below (rq HO414.out) hb); have n3_ := Aside0.mk (Kd.R_lower (Kd.R_new' ho0 (Kd.R_lt (rq HO412.out))) (below_size (bq HB.out))); have n4_ := Aside0.mk (below_step (bq HB.out) hb); clear HO410; clear HO412; clear HO414; clear HB; have HO410 := n0_; have HO412 := n1_; have HO414 := n2_; have HO417 := n3_; have HB := n4_; clear n0_ n1_ n2_ n3_ n4_; (try clear hb); (try clear hb2); (try clear hk); (try clear hi); (try clear ho0)) | ((with_reducible refine gate_callee (f := 27) rfl ?_); refine goesL_ (some 40) rfl rfl Try.func27 (by kernel_rfl) rfl #[.int .i64 a2, .int .i64 (wrap64 ((t406.length : Int) + 1))] rfl (by (try simp only [List.map_toArray, List.map_cons, List.map_nil]); first | done | rfl | (simp only [List.length_drop, List.length_take]; rfl)) ?_; (with_reducible refine (rollbacknetmake_Mod.calls a2 (wrap64 ((t406.length : Int) + 1)) t418 _ A12.out).mono ?_); rintro e w' ⟨rfl, ⟨nd, rfl⟩⟩; refine ⟨_, rfl, ?_⟩) | ((with_reducible refine gate_builtin (b := .append) (xs := #[.const (.slice none 0 0), .tmp 43]) rfl ?_); (try (refine gate_guard (by rfl) ?_; dsimp only)); at_builtin; refine Kd.R_append_rows (Kd.int .i64) (w0 := w) w.heap.size rfl (.const (.slice none 0 0)) (.tmp 43) 23 3 (.int .i64 0) 8 rfl Try.underlying23 info3 rfl (by decide) (by omega) (.slice none 0 0) ([] : List Int) t407 _ _ _ (fun k_ => some k_ ≠ (.slice Ao22 t407.length co22 : Value).ownBlock ∧ some k_ ≠ (v416 : Value).ownBlock) (fun _ => False) rfl rfl ?aO ?aR (fun _ _ h => h) (fun _ h => h.elim) ?aF ?aB ?aS ?aL ?_; (case aR => repeat (first | exact (Kd.R_reads' HO412.out).2.2 | (with_reducible refine Kd.C_alloc ?_ _) | (with_reducible refine Kd.C_drewN ?_ _) | (with_reducible refine Kd.C_drew ?_))); (case aB => exact (bq HB.out)); (case aF => exact (fun k_ hk => ⟨Kd.fresh' (Kd.R_lt (rq HO412.out)) k_ hk, Kd.fresh' (Kd.R_lt (rq HO417.out)) k_ hk⟩)); (case aO => exact ((Kd.R_nil _ _ _ _ (fun k_ => some k_ ≠ (.slice Ao22 t407.length co22 : Value).ownBlock ∧ some k_ ≠ (v416 : Value).ownBlock)))); (case aS => exact (below_size (bq HB.out))); (case aL => have := LMc13.out; omega); intro v420 w25 ho hb hg hat; rw [← Ny419.out] at ho; have n0_ := Aside0.mk (Kd.R_grown (rq HO410.out) hg (fun _ _ => by simp [Value.ownBlock])); have n1_ := Aside0.mk (Kd.R_after (Kd.R_apart_nil (rq HO412.out)) hg hat); have n2_ := Aside0.mk (Kd.R_grown (rq HO414.out) hg (fun _ _ => by simp [Value.ownBlock])); have n3_ := Aside0.mk (Kd.R_after (Kd.R_apart_nil (rq HO417.out)) hg hat); have n4_ := Aside0.mk (hb); have n5_ := Aside0.mk (ho); clear HO410; clear HO412; clear HO414; clear HO417; clear HB; have HO410 := n0_; have HO412 := n1_; have HO414 := n2_; have HO417 := n3_; have HB := n4_; have HO421 := n5_; clear n0_ n1_ n2_ n3_ n4_ n5_; clear ho hb hg hat) | ((with_reducible refine gate_builtin (b := .append) (xs := #[.tmp 44, .tmp 46]) rfl ?_); (try (refine gate_guard (by rfl) ?_; dsimp only)); at_builtin; refine Kd.R_append (Kd.int .i64) (w0 := w) w.heap.size rfl (.tmp 44) (.tmp 46) 23 3 (.int .i64 0) 8 rfl Try.underlying23 info3 rfl (by decide) (by omega) v420 y419 t418 [.int .i64 t418] (fun k_ => some k_ ≠ (.slice Ao22 t407.length co22 : Value).ownBlock ∧ some k_ ≠ (v416 : Value).ownBlock) (fun _ => False) rfl rfl ?aP (fun _ hk => hk.elim) ?aF ?aO ?aB ?aS ?aL ?_; (case aP => exact rfl); (case aB => exact (bq HB.out)); (case aF => exact (fun k_ hk => ⟨Kd.fresh' (Kd.R_lt (rq HO412.out)) k_ hk, Kd.fresh' (Kd.R_lt (rq HO417.out)) k_ hk⟩)); (case aO => exact (rq HO421.out)); (case aS => exact (below_size (bq HB.out))); (case aL => have := LMc14.out; omega); intro v423 w26 ho hb hg hat; rw [← Ny422.out] at ho; have n0_ := Aside0.mk (Kd.R_over' (rq HO410.out) (Kd.R_typed (rq HO421.out)) (by decide) hg); have n1_ := Aside0.mk (Kd.R_after (ok := (fun k_ => some k_ ≠ (v416 : Value).ownBlock)) (by (with_reducible repeat (first | apply Kd.R_alloc | apply Kd.R_drewN | apply Kd.R_drew)); exact Kd.R_mono HO412.out (fun _ hk => ⟨hk.1.2, hk.2⟩)) hg hat); have n2_ := Aside0.mk (Kd.R_over' (rq HO414.out) (Kd.R_typed (rq HO421.out)) (by decide) hg); have n3_ := Aside0.mk (Kd.R_after (ok := (fun k_ => some k_ ≠ (.slice Ao22 t407.length co22 : Value).ownBlock)) (by (with_reducible repeat (first | apply Kd.R_alloc | apply Kd.R_drewN | apply Kd.R_drew)); exact Kd.R_mono HO417.out (fun _ hk => ⟨hk.1.2, hk.2⟩)) hg hat); have n4_ := Aside0.mk (hb); have n5_ := Aside0.mk (ho); clear HO410; clear HO412; clear HO414; clear HO417; clear HB; clear HO421; have HO410 := n0_; have HO412 := n1_; have HO414 := n2_; have HO417 := n3_; have HB := n4_; have HO424 := n5_; clear n0_ n1_ n2_ n3_ n4_ n5_; clear ho hb hg hat) | ((with_reducible refine gate_callee (f := 25) rfl ?_); refine goesL_ (some 50) rfl rfl Try.func25 (by kernel_rfl) rfl #[.slice Ao23 t408.length co23, .slice A1 l1.length c1] rfl (by (try simp only [List.map_toArray, List.map_cons, List.map_nil]); first | done | rfl | (simp only [List.length_drop, List.length_take]; rfl)) ?_; (with_reducible refine (determinant_Merge.calls kj3 _ _ t408 _ _ l1 t425 _ ?side1 ?side2 ?side3 ?side4 A15.out).mono ?_); (case side1 => repeat (first | exact (Kd.R_reads' HO414.out).2.2 | (with_reducible refine Kd.C_alloc ?_ _) | (with_reducible refine Kd.C_drewN ?_ _) | (with_reducible refine Kd.C_drew ?_))); (case side2 => exact (Kd.R_reads' HO414.out).2.1); (case side3 => repeat (first | exact (Kd.C_below HR1.out HB.out) | (with_reducible refine Kd.C_alloc ?_ _) | (with_reducible refine Kd.C_drewN ?_ _) | (with_reducible refine Kd.C_drew ?_))); (case side4 => exact HC1.out); rintro e w27 ⟨v426, rfl, ho0, hb⟩; refine ⟨_, rfl, ?_⟩; have n0_ := Aside0.mk (Kd.R_below (rq HO410.out) hb); have n1_ := Aside0.mk (Kd.R_below (rq HO412.out) hb); have n2_ := Aside0.mk (Kd.R_elder' (rq HO414.out) (Kd.R_base ho0) hb); have n3_ := Aside0.mk (Kd.R_below (rq HO417.out) hb); have n4_ := Aside0.mk (Kd.R_below (rq HO424.out) hb); have n5_ := Aside0.mk (Kd.R_lower (Kd.R_new' ho0 (Kd.R_lt (rq HO414.out))) (below_size (bq HB.out))); have n6_ := Aside0.mk (below_step (bq HB.out) hb); clear HO410; clear HO412; clear HO414; clear HO417; clear HO424; clear HB; have HO410 := n0_; have HO412 := n1_; have HO414 := n2_; have HO417 := n3_; have HO424 := n4_; have HO427 := n5_; have HB := n6_; clear n0_ n1_ n2_ n3_ n4_ n5_ n6_; (try clear hb); (try clear hb2); (try clear hk); (try clear hi); (try clear ho0); obtain ⟨Ao28, co28, eo28⟩ := Kd.R_slice HO424.out; subst eo28; obtain ⟨Ao29, co29, eo29⟩ := Kd.R_slice HO427.out; subst eo29) | ((with_reducible refine gate_callee (f := 18) rfl ?_); refine goesL_ (some 51) rfl rfl Try.func18 (by kernel_rfl) rfl #[.int .i64 t405, .slice Ao21 t406.length co21, .slice Ao28 y422.length co28, .slice Ao29 t425.length co29] rfl (by (try simp only [List.map_toArray, List.map_cons, List.map_nil]); first | done | rfl | (simp only [List.length_drop, List.length_take]; rfl)) ?_; (with_reducible refine (determinant_Restorable.calls t405 _ _ t406 _ _ y422 _ _ t425 t428 _ ?side1 ?side2 ?side3 ?side4 ?side5 ?side6 A16.out).mono ?_); (case side1 => repeat (first | exact (Kd.R_reads' HO410.out).2.2 | (with_reducible refine Kd.C_alloc ?_ _) | (with_reducible refine Kd.C_drewN ?_ _) | (with_reducible refine Kd.C_drew ?_))); (case side2 => exact (Kd.R_reads' HO410.out).2.1); (case side3 => repeat (first | exact (Kd.R_reads' HO424.out).2.2 | (with_reducible refine Kd.C_alloc ?_ _) | (with_reducible refine Kd.C_drewN ?_ _) | (with_reducible refine Kd.C_drew ?_))); (case side4 => exact (Kd.R_reads' HO424.out).2.1); (case side5 => repeat (first | exact (Kd.R_reads' HO427.out).2.2 | (with_reducible refine Kd.C_alloc ?_ _) | (with_reducible refine Kd.C_drewN ?_ _) | (with_reducible refine Kd.C_drew ?_))); (case side6 => exact (Kd.R_reads' HO427.out).2.1); rintro e w30 ⟨v429, rfl, ho0, hb⟩; refine ⟨_, rfl, ?_⟩; have n0_ := Aside0.mk (Kd.R_below (rq HO410.out) hb); have n1_ := Aside0.mk (Kd.R_elder' (rq HO412.out) (Kd.R_base ho0) hb); have n2_ := Aside0.mk (Kd.R_below (rq HO414.out) hb); have n3_ := Aside0.mk (Kd.R_elder' (rq HO417.out) (Kd.R_base ho0) hb); have n4_ := Aside0.mk (Kd.R_elder' (rq HO424.out) (Kd.R_base ho0) hb); have n5_ := Aside0.mk (Kd.R_below (rq HO427.out) hb); have n6_ := Aside0.mk (Kd.R_lower (Kd.R_new' (Kd.R_new' (Kd.R_new' ho0 (Kd.R_lt (rq HO412.out))) (Kd.R_lt (rq HO417.out))) (Kd.R_lt (rq HO424.out))) (below_size (bq HB.out))); have n7_ := Aside0.mk (below_step (bq HB.out) hb); clear HO410; clear HO412; clear HO414; clear HO417; clear HO424; clear HO427; clear HB; have HO410 := n0_; have HO412 := n1_; have HO414 := n2_; have HO417 := n3_; have HO424 := n4_; have HO427 := n5_; have HO430 := n6_; have HB := n7_; clear n0_ n1_ n2_ n3_ n4_ n5_ n6_ n7_; (try clear hb); (try clear hb2); (try clear hk); (try clear hi); (try clear ho0); obtain ⟨Ao31, co31, eo31⟩ := Kd.R_slice HO417.out; subst eo31; obtain ⟨Ao32, co32, eo32⟩ := Kd.R_slice HO430.out; subst eo32) | ((with_reducible refine gate_callee (f := 28) rfl ?_); refine goesL_ (some 54) rfl rfl Try.func28 (by kernel_rfl) rfl #[.slice Ao31 t415.length co31, .slice Ao32 t428.length co32] rfl (by (try simp only [List.map_toArray, List.map_cons, List.map_nil]); first | done | rfl | (simp only [List.length_drop, List.length_take]; rfl)) ?_; (with_reducible refine (rollbacknetlaw27_part.calls kj3 _ _ t415 _ _ t428 true _ ?side1 ?side2 ?side3 ?side4 A17.out).mono ?_); (case side1 => repeat (first | exact (Kd.R_reads' HO417.out).2.2 | (with_reducible refine Kd.C_alloc ?_ _) | (with_reducible refine Kd.C_drewN ?_ _) | (with_reducible refine Kd.C_drew ?_))); (case side2 => exact (Kd.R_reads' HO417.out).2.1); (case side3 => repeat (first | exact (Kd.R_reads' HO430.out).2.2 | (with_reducible refine Kd.C_alloc ?_ _) | (with_reducible refine Kd.C_drewN ?_ _) | (with_reducible refine Kd.C_drew ?_))); (case side4 => exact (Kd.R_reads' HO430.out).2.1); rintro e w' ⟨rfl, ⟨nd, rfl⟩⟩; refine ⟨_, rfl, ?_⟩) | ((with_reducible refine gate_dst (N := 57) rfl ?_); (try (refine gate_guard (by rfl) ?_; dsimp only)); refine Kd.R_lit (Kd.int .i64) _ 3 ?hg (N := 57) ?hd (xs := ([t418] : List Int)) (inner := [.int .i64 t418]) (ok := fun _ => True) (okp := fun _ => True) ?hr ?hp (fun _ hk => hk) trivial (Below.refl _ _) (Nat.le_refl _) (by simp) ?_; (case hd => rfl); (case hg => rfl); (case hr => first | (go_simp; done) | (go_simp; rfl)); (case hp => exact (Reps.one (show Kd.M (Kd.int .i64) _ _ _ t418 [.int .i64 t418] from rfl) (Reps.none _ _))); intro v433 w33 ho34 hb hg_ hnew_; clear hg_ hnew_; (first | rw [← Ny432.out] at ho34 | (simp only [Int.reduceToNat] at ho34; rw [← Ny432.out] at ho34)); have n0_ := Aside0.mk (Kd.R_below (rq HO410.out) hb); have n1_ := Aside0.mk (Kd.R_elder' (rq HO412.out) (Kd.R_base ho34) hb); have n2_ := Aside0.mk (Kd.R_below (rq HO414.out) hb); have n3_ := Aside0.mk (Kd.R_elder' (rq HO417.out) (Kd.R_base ho34) hb); have n4_ := Aside0.mk (Kd.R_elder' (rq HO424.out) (Kd.R_base ho34) hb); have n5_ := Aside0.mk (Kd.R_below (rq HO427.out) hb); have n6_ := Aside0.mk (Kd.R_elder' (rq HO430.out) (Kd.R_base ho34) hb); have n7_ := Aside0.mk (Kd.R_lower (Kd.R_new' (Kd.R_new' (Kd.R_new' (Kd.R_new' ho34 (Kd.R_lt (rq HO412.out))) (Kd.R_lt (rq HO417.out))) (Kd.R_lt (rq HO424.out))) (Kd.R_lt (rq HO430.out))) (below_size (bq HB.out))); have n8_ := Aside0.mk (below_step (bq HB.out) hb); clear HO410; clear HO412; clear HO414; clear HO417; clear HO424; clear HO427; clear HO430; clear HB; have HO410 := n0_; have HO412 := n1_; have HO414 := n2_; have HO417 := n3_; have HO424 := n4_; have HO427 := n5_; have HO430 := n6_; have HO434 := n7_; have HB := n8_; clear n0_ n1_ n2_ n3_ n4_ n5_ n6_ n7_ n8_; clear hb ho34; obtain ⟨Ao35, co35, eo35⟩ := Kd.R_slice HO434.out; subst eo35) | (go_at_call 28; (with_reducible refine (rollbacknetlaw27_part.calls kj3 _ _ y432 _ _ t428 t435 _ ?side1 ?side2 ?side3 ?side4 A19.out).mono ?_); (case side1 => repeat (first | exact (Kd.R_reads' HO434.out).2.2 | (with_reducible refine Kd.C_alloc ?_ _) | (with_reducible refine Kd.C_drewN ?_ _) | (with_reducible refine Kd.C_drew ?_))); (case side2 => exact (Kd.R_reads' HO434.out).2.1); (case side3 => repeat (first | exact (Kd.R_reads' HO430.out).2.2 | (with_reducible refine Kd.C_alloc ?_ _) | (with_reducible refine Kd.C_drewN ?_ _) | (with_reducible refine Kd.C_drew ?_))); (case side4 => exact (Kd.R_reads' HO430.out).2.1); rintro e w' ⟨rfl, ⟨nd, rfl⟩⟩))
       go_ret
       exact ⟨by first | rfl | (simp [errW_none, errW_some] <;> rfl) | (simp [*, errW_none, errW_some] <;> rfl), bq HB.out⟩
      ·replace c18 := Bool.eq_false_iff.mpr c18
       subst c18
       have H1 : (some false) = some r := by rw [if_neg (show ¬ (false = true) by decide)] at H; exact H
       clear H
       have H := H1
       clear H1
       obtain rfl := Option.some.inj H
       go_wp2_with (first | ((with_reducible refine gate_callee (f := 13) rfl ?_); refine goesL_ (some 26) rfl rfl Try.func13 (by kernel_rfl) rfl #[.slice A0 l0.length c0] rfl (by (try simp only [List.map_toArray, List.map_cons, List.map_nil]); first | done | rfl | (simp only [List.length_drop, List.length_take]; rfl)) ?_; (with_reducible refine (rollbacknetlaw27_scene.calls kj3 _ _ l0 t405 t406 t407 t408 _ ?side1 ?side2 A10.out).mono ?_); (case side1 => repeat (first | exact (Kd.C_below HR0.out HB.out) | (with_reducible refine Kd.C_alloc ?_ _) | (with_reducible refine Kd.C_drewN ?_ _) | (with_reducible refine Kd.C_drew ?_))); (case side2 => exact HC0.out); rintro e w36 ⟨v409, v411, v413, rfl, ho0, ho1, ho2, hb⟩; refine ⟨_, rfl, ?_⟩; have n0_ := Aside0.mk (Kd.R_lower ho0 (below_size (bq HB.out))); have n1_ := Aside0.mk (Kd.R_lower ho1 (below_size (bq HB.out))); have n2_ := Aside0.mk (Kd.R_lower ho2 (below_size (bq HB.out))); have n3_ := Aside0.mk (below_step (bq HB.out) hb); clear HB; have HO410 := n0_; have HO412 := n1_; have HO414 := n2_; have HB := n3_; clear n0_ n1_ n2_ n3_; (try clear hb); (try clear hb2); (try clear hk); (try clear hi); (try clear ho0); (try clear ho1); (try clear ho2); obtain ⟨Ao37, co37, eo37⟩ := Kd.R_slice HO410.out; subst eo37; obtain ⟨Ao38, co38, eo38⟩ := Kd.R_slice HO412.out; subst eo38; obtain ⟨Ao39, co39, eo39⟩ := Kd.R_slice HO414.out; subst eo39) | ((with_reducible refine gate_callee (f := 18) rfl ?_); refine goesL_ (some 35) rfl rfl Try.func18 (by kernel_rfl) rfl #[.int .i64 t405, .slice Ao37 t406.length co37, .slice Ao38 t407.length co38, .slice Ao39 t408.length co39] rfl (by (try simp only [List.map_toArray, List.map_cons, List.map_nil]); first | done | rfl | (simp only [List.length_drop, List.length_take]; rfl)) ?_; (with_reducible refine (determinant_Restorable.calls t405 _ _ t406 _ _ t407 _ _ t408 t415 _ ?side1 ?side2 ?side3 ?side4 ?side5 ?side6 A11.out).mono ?_); (case side1 => repeat (first | exact (Kd.R_reads' HO410.out).2.2 | (with_reducible refine Kd.C_alloc ?_ _) | (with_reducible refine Kd.C_drewN ?_ _) | (with_reducible refine Kd.C_drew ?_))); (case side2 => exact (Kd.R_reads' HO410.out).2.1); (case side3 => repeat (first | exact (Kd.R_reads' HO412.out).2.2 | (with_reducible refine Kd.C_alloc ?_ _) | (with_reducible refine Kd.C_drewN ?_ _) | (with_reducible refine Kd.C_drew ?_))); (case side4 => exact (Kd.R_reads' HO412.out).2.1); (case side5 => repeat (first | exact (Kd.R_reads' HO414.out).2.2 | (with_reducible refine Kd.C_alloc ?_ _) | (with_reducible refine Kd.C_drewN ?_ _) | (with_reducible refine Kd.C_drew ?_))); (case side6 => exact (Kd.R_reads' HO414.out).2.1); rintro e w40 ⟨v416, rfl, ho0, hb⟩; refine ⟨_, rfl, ?_⟩; have n0_ := Aside0.mk (Kd.R_below (rq HO410.out) hb); have n1_ := Aside0.mk (Kd.R_elder' (rq HO412.out) (Kd.R_base ho0) hb); have n2_ := Aside0.mk (Kd.R_below (rq HO414.out) hb); have n3_ := Aside0.mk (Kd.R_lower (Kd.R_new' ho0 (Kd.R_lt (rq HO412.out))) (below_size (bq HB.out))); have n4_ := Aside0.mk (below_step (bq HB.out) hb); clear HO410; clear HO412; clear HO414; clear HB; have HO410 := n0_; have HO412 := n1_; have HO414 := n2_; have HO417 := n3_; have HB := n4_; clear n0_ n1_ n2_ n3_ n4_; (try clear hb); (try clear hb2); (try clear hk); (try clear hi); (try clear ho0)) | ((with_reducible refine gate_callee (f := 27) rfl ?_); refine goesL_ (some 40) rfl rfl Try.func27 (by kernel_rfl) rfl #[.int .i64 a2, .int .i64 (wrap64 ((t406.length : Int) + 1))] rfl (by (try simp only [List.map_toArray, List.map_cons, List.map_nil]); first | done | rfl | (simp only [List.length_drop, List.length_take]; rfl)) ?_; (with_reducible refine (rollbacknetmake_Mod.calls a2 (wrap64 ((t406.length : Int) + 1)) t418 _ A12.out).mono ?_); rintro e w' ⟨rfl, ⟨nd, rfl⟩⟩; refine ⟨_, rfl, ?_⟩) | ((with_reducible refine gate_builtin (b := .append) (xs := #[.const (.slice none 0 0), .tmp 43]) rfl ?_); (try (refine gate_guard (by rfl) ?_; dsimp only)); at_builtin; refine Kd.R_append_rows (Kd.int .i64) (w0 := w) w.heap.size rfl (.const (.slice none 0 0)) (.tmp 43) 23 3 (.int .i64 0) 8 rfl Try.underlying23 info3 rfl (by decide) (by omega) (.slice none 0 0) ([] : List Int) t407 _ _ _ (fun k_ => some k_ ≠ (.slice Ao38 t407.length co38 : Value).ownBlock ∧ some k_ ≠ (v416 : Value).ownBlock) (fun _ => False) rfl rfl ?aO ?aR (fun _ _ h => h) (fun _ h => h.elim) ?aF ?aB ?aS ?aL ?_; (case aR => repeat (first | exact (Kd.R_reads' HO412.out).2.2 | (with_reducible refine Kd.C_alloc ?_ _) | (with_reducible refine Kd.C_drewN ?_ _) | (with_reducible refine Kd.C_drew ?_))); (case aB => exact (bq HB.out)); (case aF => exact (fun k_ hk => ⟨Kd.fresh' (Kd.R_lt (rq HO412.out)) k_ hk, Kd.fresh' (Kd.R_lt (rq HO417.out)) k_ hk⟩)); (case aO => exact ((Kd.R_nil _ _ _ _ (fun k_ => some k_ ≠ (.slice Ao38 t407.length co38 : Value).ownBlock ∧ some k_ ≠ (v416 : Value).ownBlock)))); (case aS => exact (below_size (bq HB.out))); (case aL => have := LMc13.out; omega); intro v420 w41 ho hb hg hat; rw [← Ny419.out] at ho; have n0_ := Aside0.mk (Kd.R_grown (rq HO410.out) hg (fun _ _ => by simp [Value.ownBlock])); have n1_ := Aside0.mk (Kd.R_after (Kd.R_apart_nil (rq HO412.out)) hg hat); have n2_ := Aside0.mk (Kd.R_grown (rq HO414.out) hg (fun _ _ => by simp [Value.ownBlock])); have n3_ := Aside0.mk (Kd.R_after (Kd.R_apart_nil (rq HO417.out)) hg hat); have n4_ := Aside0.mk (hb); have n5_ := Aside0.mk (ho); clear HO410; clear HO412; clear HO414; clear HO417; clear HB; have HO410 := n0_; have HO412 := n1_; have HO414 := n2_; have HO417 := n3_; have HB := n4_; have HO421 := n5_; clear n0_ n1_ n2_ n3_ n4_ n5_; clear ho hb hg hat) | ((with_reducible refine gate_builtin (b := .append) (xs := #[.tmp 44, .tmp 46]) rfl ?_); (try (refine gate_guard (by rfl) ?_; dsimp only)); at_builtin; refine Kd.R_append (Kd.int .i64) (w0 := w) w.heap.size rfl (.tmp 44) (.tmp 46) 23 3 (.int .i64 0) 8 rfl Try.underlying23 info3 rfl (by decide) (by omega) v420 y419 t418 [.int .i64 t418] (fun k_ => some k_ ≠ (.slice Ao38 t407.length co38 : Value).ownBlock ∧ some k_ ≠ (v416 : Value).ownBlock) (fun _ => False) rfl rfl ?aP (fun _ hk => hk.elim) ?aF ?aO ?aB ?aS ?aL ?_; (case aP => exact rfl); (case aB => exact (bq HB.out)); (case aF => exact (fun k_ hk => ⟨Kd.fresh' (Kd.R_lt (rq HO412.out)) k_ hk, Kd.fresh' (Kd.R_lt (rq HO417.out)) k_ hk⟩)); (case aO => exact (rq HO421.out)); (case aS => exact (below_size (bq HB.out))); (case aL => have := LMc14.out; omega); intro v423 w42 ho hb hg hat; rw [← Ny422.out] at ho; have n0_ := Aside0.mk (Kd.R_over' (rq HO410.out) (Kd.R_typed (rq HO421.out)) (by decide) hg); have n1_ := Aside0.mk (Kd.R_after (ok := (fun k_ => some k_ ≠ (v416 : Value).ownBlock)) (by (with_reducible repeat (first | apply Kd.R_alloc | apply Kd.R_drewN | apply Kd.R_drew)); exact Kd.R_mono HO412.out (fun _ hk => ⟨hk.1.2, hk.2⟩)) hg hat); have n2_ := Aside0.mk (Kd.R_over' (rq HO414.out) (Kd.R_typed (rq HO421.out)) (by decide) hg); have n3_ := Aside0.mk (Kd.R_after (ok := (fun k_ => some k_ ≠ (.slice Ao38 t407.length co38 : Value).ownBlock)) (by (with_reducible repeat (first | apply Kd.R_alloc | apply Kd.R_drewN | apply Kd.R_drew)); exact Kd.R_mono HO417.out (fun _ hk => ⟨hk.1.2, hk.2⟩)) hg hat); have n4_ := Aside0.mk (hb); have n5_ := Aside0.mk (ho); clear HO410; clear HO412; clear HO414; clear HO417; clear HB; clear HO421; have HO410 := n0_; have HO412 := n1_; have HO414 := n2_; have HO417 := n3_; have HB := n4_; have HO424 := n5_; clear n0_ n1_ n2_ n3_ n4_ n5_; clear ho hb hg hat) | ((with_reducible refine gate_callee (f := 25) rfl ?_); refine goesL_ (some 50) rfl rfl Try.func25 (by kernel_rfl) rfl #[.slice Ao39 t408.length co39, .slice A1 l1.length c1] rfl (by (try simp only [List.map_toArray, List.map_cons, List.map_nil]); first | done | rfl | (simp only [List.length_drop, List.length_take]; rfl)) ?_; (with_reducible refine (determinant_Merge.calls kj3 _ _ t408 _ _ l1 t425 _ ?side1 ?side2 ?side3 ?side4 A15.out).mono ?_); (case side1 => repeat (first | exact (Kd.R_reads' HO414.out).2.2 | (with_reducible refine Kd.C_alloc ?_ _) | (with_reducible refine Kd.C_drewN ?_ _) | (with_reducible refine Kd.C_drew ?_))); (case side2 => exact (Kd.R_reads' HO414.out).2.1); (case side3 => repeat (first | exact (Kd.C_below HR1.out HB.out) | (with_reducible refine Kd.C_alloc ?_ _) | (with_reducible refine Kd.C_drewN ?_ _) | (with_reducible refine Kd.C_drew ?_))); (case side4 => exact HC1.out); rintro e w43 ⟨v426, rfl, ho0, hb⟩; refine ⟨_, rfl, ?_⟩; have n0_ := Aside0.mk (Kd.R_below (rq HO410.out) hb); have n1_ := Aside0.mk (Kd.R_below (rq HO412.out) hb); have n2_ := Aside0.mk (Kd.R_elder' (rq HO414.out) (Kd.R_base ho0) hb); have n3_ := Aside0.mk (Kd.R_below (rq HO417.out) hb); have n4_ := Aside0.mk (Kd.R_below (rq HO424.out) hb); have n5_ := Aside0.mk (Kd.R_lower (Kd.R_new' ho0 (Kd.R_lt (rq HO414.out))) (below_size (bq HB.out))); have n6_ := Aside0.mk (below_step (bq HB.out) hb); clear HO410; clear HO412; clear HO414; clear HO417; clear HO424; clear HB; have HO410 := n0_; have HO412 := n1_; have HO414 := n2_; have HO417 := n3_; have HO424 := n4_; have HO427 := n5_; have HB := n6_; clear n0_ n1_ n2_ n3_ n4_ n5_ n6_; (try clear hb); (try clear hb2); (try clear hk); (try clear hi); (try clear ho0); obtain ⟨Ao44, co44, eo44⟩ := Kd.R_slice HO424.out; subst eo44; obtain ⟨Ao45, co45, eo45⟩ := Kd.R_slice HO427.out; subst eo45) | ((with_reducible refine gate_callee (f := 18) rfl ?_); refine goesL_ (some 51) rfl rfl Try.func18 (by kernel_rfl) rfl #[.int .i64 t405, .slice Ao37 t406.length co37, .slice Ao44 y422.length co44, .slice Ao45 t425.length co45] rfl (by (try simp only [List.map_toArray, List.map_cons, List.map_nil]); first | done | rfl | (simp only [List.length_drop, List.length_take]; rfl)) ?_; (with_reducible refine (determinant_Restorable.calls t405 _ _ t406 _ _ y422 _ _ t425 t428 _ ?side1 ?side2 ?side3 ?side4 ?side5 ?side6 A16.out).mono ?_); (case side1 => repeat (first | exact (Kd.R_reads' HO410.out).2.2 | (with_reducible refine Kd.C_alloc ?_ _) | (with_reducible refine Kd.C_drewN ?_ _) | (with_reducible refine Kd.C_drew ?_))); (case side2 => exact (Kd.R_reads' HO410.out).2.1); (case side3 => repeat (first | exact (Kd.R_reads' HO424.out).2.2 | (with_reducible refine Kd.C_alloc ?_ _) | (with_reducible refine Kd.C_drewN ?_ _) | (with_reducible refine Kd.C_drew ?_))); (case side4 => exact (Kd.R_reads' HO424.out).2.1); (case side5 => repeat (first | exact (Kd.R_reads' HO427.out).2.2 | (with_reducible refine Kd.C_alloc ?_ _) | (with_reducible refine Kd.C_drewN ?_ _) | (with_reducible refine Kd.C_drew ?_))); (case side6 => exact (Kd.R_reads' HO427.out).2.1); rintro e w46 ⟨v429, rfl, ho0, hb⟩; refine ⟨_, rfl, ?_⟩; have n0_ := Aside0.mk (Kd.R_below (rq HO410.out) hb); have n1_ := Aside0.mk (Kd.R_elder' (rq HO412.out) (Kd.R_base ho0) hb); have n2_ := Aside0.mk (Kd.R_below (rq HO414.out) hb); have n3_ := Aside0.mk (Kd.R_elder' (rq HO417.out) (Kd.R_base ho0) hb); have n4_ := Aside0.mk (Kd.R_elder' (rq HO424.out) (Kd.R_base ho0) hb); have n5_ := Aside0.mk (Kd.R_below (rq HO427.out) hb); have n6_ := Aside0.mk (Kd.R_lower (Kd.R_new' (Kd.R_new' (Kd.R_new' ho0 (Kd.R_lt (rq HO412.out))) (Kd.R_lt (rq HO417.out))) (Kd.R_lt (rq HO424.out))) (below_size (bq HB.out))); have n7_ := Aside0.mk (below_step (bq HB.out) hb); clear HO410; clear HO412; clear HO414; clear HO417; clear HO424; clear HO427; clear HB; have HO410 := n0_; have HO412 := n1_; have HO414 := n2_; have HO417 := n3_; have HO424 := n4_; have HO427 := n5_; have HO430 := n6_; have HB := n7_; clear n0_ n1_ n2_ n3_ n4_ n5_ n6_ n7_; (try clear hb); (try clear hb2); (try clear hk); (try clear hi); (try clear ho0); obtain ⟨Ao47, co47, eo47⟩ := Kd.R_slice HO417.out; subst eo47; obtain ⟨Ao48, co48, eo48⟩ := Kd.R_slice HO430.out; subst eo48) | ((with_reducible refine gate_callee (f := 28) rfl ?_); refine goesL_ (some 54) rfl rfl Try.func28 (by kernel_rfl) rfl #[.slice Ao47 t415.length co47, .slice Ao48 t428.length co48] rfl (by (try simp only [List.map_toArray, List.map_cons, List.map_nil]); first | done | rfl | (simp only [List.length_drop, List.length_take]; rfl)) ?_; (with_reducible refine (rollbacknetlaw27_part.calls kj3 _ _ t415 _ _ t428 false _ ?side1 ?side2 ?side3 ?side4 A17.out).mono ?_); (case side1 => repeat (first | exact (Kd.R_reads' HO417.out).2.2 | (with_reducible refine Kd.C_alloc ?_ _) | (with_reducible refine Kd.C_drewN ?_ _) | (with_reducible refine Kd.C_drew ?_))); (case side2 => exact (Kd.R_reads' HO417.out).2.1); (case side3 => repeat (first | exact (Kd.R_reads' HO430.out).2.2 | (with_reducible refine Kd.C_alloc ?_ _) | (with_reducible refine Kd.C_drewN ?_ _) | (with_reducible refine Kd.C_drew ?_))); (case side4 => exact (Kd.R_reads' HO430.out).2.1); rintro e w' ⟨rfl, ⟨nd, rfl⟩⟩; refine ⟨_, rfl, ?_⟩))
       go_ret
       exact ⟨by first | rfl | (simp [errW_none, errW_some] <;> rfl) | (simp [*, errW_none, errW_some] <;> rfl), bq HB.out⟩
     ·rw [if_neg c14] at H
      exact absurd H (by simp)
    ·rw [if_neg c13] at H
     exact absurd H (by simp)

/-- THE ONE PURE STATEMENT of rollbacknetlaw27_DeterminantGrows. -/
def rollbacknetlaw27_DeterminantGrows.Pure : Prop := ∀ (p0 : List Int) (p1 : List (S39)) (p2 : Int), (okRow 1 (okInt .u8)) p0 → (okRow 72 ok39) p1 → (okInt .i64) p2 → ∃ k, rollbacknetlaw27_DeterminantGrows.f k p0 p1 p2 = some true

end Go.Proofs.Ytjlpggpkbcgekaa.PG27
