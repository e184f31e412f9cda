-- Written by a program of this session (hprint.py) out of the translation and of hand-proved parts. Lean checks it.
import Derived.Test.YtpklmllikcdacaaPT04x0
import Derived.Test.YtpklmllikcdacaaPT04x4
import Derived.Test.YtpklmllikcdacaaPT04x5
import Derived.Test.YtpklmllikcdacaaPT04x7
namespace Go.Proofs.Ytpklmllikcdacaa.PT04
open Go.RowKit Go.Proofs.YtpklmllikcdacaaW.PrintWords Go.Proofs.YtpklmllikcdacaaW.PrintLast Go.Proofs.YtpklmllikcdacaaW.PrintMore
attribute [local go_sem] max2_int min2_int max_two min_two max_three min_three max_four min_four   -- for this text's walks alone
set_option linter.unusedVariables false
set_option linter.unusedSimpArgs false

/-! ### rollbacknetlaw04_EvalLaws: function 4 -/
mutual
def rollbacknetlaw04_EvalLaws.l0 : Nat → Int → Int → List Int → Int → Int → Option (Bool)
 | 0, _, _, _, _, _ => none
 | k + 1, x0, x1, x15, x16, x17 => if x17 < x16 then (if 0 ≤ x17 then (if x17 < (x15.length : Int) then ((eval_Apply.f (rd x15 x17) x0 x1).bind fun t122 => ((eval_Apply.f (rd x15 x17) x1 x0).bind fun t123 => (if t122 = t123 then (rollbacknetlaw04_EvalLaws.l0 k x0 x1 x15 x16 (wrap64 (x17 + 1))) else (some false)))) else (none)) else (none)) else ((some (([(⟨15, 18⟩ : S27), (⟨16, 17⟩ : S27), (⟨19, 20⟩ : S27)] : List (S27)) : List (S27))).bind fun y124 => (rollbacknetlaw04_EvalLaws.l1 k x0 x1 y124 (y124.length : Int) 0))
def rollbacknetlaw04_EvalLaws.l1 : Nat → Int → Int → List (S27) → Int → Int → Option (Bool)
 | 0, _, _, _, _, _ => none
 | k + 1, x0, x1, x35, x36, x37 => if x37 < x36 then (if 0 ≤ x37 then (if x37 < (x35.length : Int) then ((eval_Apply.f ((rd_T27 x35 x37).f0) x0 x1).bind fun t129 => ((eval_Apply.f ((rd_T27 x35 x37).f1) x0 x1).bind fun t130 => (if (wrap64 (t129 + t130)) = 1 then (rollbacknetlaw04_EvalLaws.l1 k x0 x1 x35 x36 (wrap64 (x37 + 1))) else (some false)))) else (none)) else (none)) else ((eval_Apply.f 13 x0 x1).bind fun t131 => ((eval_Apply.f 14 x0 x1).bind fun t132 => (if x1 = 0 then (if t131 = 0 then (rollbacknetlaw04_EvalLaws.j2 k x0 x1 (t132 != 0)) else (rollbacknetlaw04_EvalLaws.j2 k x0 x1 true)) else (if (wrap64 ((wrap64 (t131 * x1)) + t132)) = x0 then (rollbacknetlaw04_EvalLaws.j2 k x0 x1 false) else (rollbacknetlaw04_EvalLaws.j2 k x0 x1 true)))))
def rollbacknetlaw04_EvalLaws.j2 : Nat → Int → Int → Bool → Option (Bool)
 | 0, _, _, _ => none
 | k + 1, x0, x1, x82 => if x82 = true then (some false) else ((eval_Apply.f 10 x0 x1).bind fun t133 => ((eval_Apply.f 11 t133 x1).bind fun t134 => (if t134 = x0 then ((eval_Apply.f 21 x0 x1).bind fun t135 => ((rollbacknetlaw04_EvalLaws_1.f t135).bind fun t136 => ((rollbacknetlaw04_EvalLaws_1.f x0).bind fun t137 => ((rollbacknetlaw04_EvalLaws_1.f x1).bind fun t138 => ((eval_Apply.f 22 t137 t138).bind fun t139 => (if t136 = t139 then ((eval_Apply.f 8 x0 x1).bind fun t140 => ((eval_Apply.f 8 t140 x0).bind fun t141 => (if t141 = x0 then ((eval_Apply.f 15 x0 x1).bind fun t142 => ((eval_Apply.f 17 x1 x0).bind fun t143 => (some (t142 == t143)))) else (some false)))) else (some false))))))) else (some false))))
end
def rollbacknetlaw04_EvalLaws.f (k : Nat) (a0 : Int) (a1 : Int) : Option (Bool) := (rollbacknetlaw04_awake.f k).bind fun t117 => (if t117 = true then ((some (([10, 12, 19, 20, 21, 22] : List Int) : List Int)).bind fun y118 => (rollbacknetlaw04_EvalLaws.l0 k a0 a1 y118 (y118.length : Int) 0)) else (some false))
theorem rollbacknetlaw04_EvalLaws.mono_l : ∀ k, (∀ y0 y1 y2 y3 y4, LeO (rollbacknetlaw04_EvalLaws.l0 k y0 y1 y2 y3 y4) (rollbacknetlaw04_EvalLaws.l0 (k + 1) y0 y1 y2 y3 y4)) ∧ (∀ y0 y1 y2 y3 y4, LeO (rollbacknetlaw04_EvalLaws.l1 k y0 y1 y2 y3 y4) (rollbacknetlaw04_EvalLaws.l1 (k + 1) y0 y1 y2 y3 y4)) ∧ (∀ y0 y1 y2, LeO (rollbacknetlaw04_EvalLaws.j2 k y0 y1 y2) (rollbacknetlaw04_EvalLaws.j2 (k + 1) y0 y1 y2))
 | 0 => ⟨fun _ _ _ _ _ r h => by simp [rollbacknetlaw04_EvalLaws.l0] at h, fun _ _ _ _ _ r h => by simp [rollbacknetlaw04_EvalLaws.l1] at h, fun _ _ _ r h => by simp [rollbacknetlaw04_EvalLaws.j2] at h⟩
 | k + 1 => by
  obtain ⟨ih0, ih1, ih2⟩ := rollbacknetlaw04_EvalLaws.mono_l k
  refine ⟨?_, ?_, ?_⟩
  ·intro y0 y1 y2 y3 y4
   unfold rollbacknetlaw04_EvalLaws.l0
   repeat' first
   | (with_reducible exact ih0 _ _ _ _ _)
   | (with_reducible exact ih1 _ _ _ _ _)
   | (with_reducible exact ih2 _ _ _)
   | (with_reducible exact rollbacknetlaw04_awake.mono _)
   | (with_reducible exact LeO.refl _)
   | (with_reducible exact LeO.none _)
   | (with_reducible refine LeO.ite ?_ ?_)
   | (with_reducible refine LeO.bind ?_ (fun _ => ?_))
   | exact ih0 _ _ _ _ _
   | exact ih1 _ _ _ _ _
   | exact ih2 _ _ _
   | exact rollbacknetlaw04_awake.mono _
   | exact LeO.none _
   | refine LeO.ite ?_ ?_
   | refine LeO.bind ?_ (fun _ => ?_)
  ·intro y0 y1 y2 y3 y4
   unfold rollbacknetlaw04_EvalLaws.l1
   repeat' first
   | (with_reducible exact ih0 _ _ _ _ _)
   | (with_reducible exact ih1 _ _ _ _ _)
   | (with_reducible exact ih2 _ _ _)
   | (with_reducible exact rollbacknetlaw04_awake.mono _)
   | (with_reducible exact LeO.refl _)
   | (with_reducible exact LeO.none _)
   | (with_reducible refine LeO.ite ?_ ?_)
   | (with_reducible refine LeO.bind ?_ (fun _ => ?_))
   | exact ih0 _ _ _ _ _
   | exact ih1 _ _ _ _ _
   | exact ih2 _ _ _
   | exact rollbacknetlaw04_awake.mono _
   | exact LeO.none _
   | refine LeO.ite ?_ ?_
   | refine LeO.bind ?_ (fun _ => ?_)
  ·intro y0 y1 y2
   unfold rollbacknetlaw04_EvalLaws.j2
   repeat' first
   | (with_reducible exact ih0 _ _ _ _ _)
   | (with_reducible exact ih1 _ _ _ _ _)
   | (with_reducible exact ih2 _ _ _)
   | (with_reducible exact rollbacknetlaw04_awake.mono _)
   | (with_reducible exact LeO.refl _)
   | (with_reducible exact LeO.none _)
   | (with_reducible refine LeO.ite ?_ ?_)
   | (with_reducible refine LeO.bind ?_ (fun _ => ?_))
   | exact ih0 _ _ _ _ _
   | exact ih1 _ _ _ _ _
   | exact ih2 _ _ _
   | exact rollbacknetlaw04_awake.mono _
   | exact LeO.none _
   | refine LeO.ite ?_ ?_
   | refine LeO.bind ?_ (fun _ => ?_)
theorem rollbacknetlaw04_EvalLaws.mono : ∀ a0 a1 k, LeO (rollbacknetlaw04_EvalLaws.f k a0 a1) (rollbacknetlaw04_EvalLaws.f (k + 1) a0 a1) := by
 intro a0 a1 k
 obtain ⟨ih0, ih1, ih2⟩ := rollbacknetlaw04_EvalLaws.mono_l k
 unfold rollbacknetlaw04_EvalLaws.f
 repeat' first
   | (with_reducible exact ih0 _ _ _ _ _)
   | (with_reducible exact ih1 _ _ _ _ _)
   | (with_reducible exact ih2 _ _ _)
   | (with_reducible exact rollbacknetlaw04_awake.mono _)
   | (with_reducible exact LeO.refl _)
   | (with_reducible exact LeO.none _)
   | (with_reducible refine LeO.ite ?_ ?_)
   | (with_reducible refine LeO.bind ?_ (fun _ => ?_))
   | exact ih0 _ _ _ _ _
   | exact ih1 _ _ _ _ _
   | exact ih2 _ _ _
   | exact rollbacknetlaw04_awake.mono _
   | exact LeO.none _
   | refine LeO.ite ?_ ?_
   | refine LeO.bind ?_ (fun _ => ?_)
def rollbacknetlaw04_EvalLaws.T13 : Bool × List (List Nat × List Nat) := (true, [([], []), ([0], [0]), ([], []), ([], []), ([1, 2, 3], [1, 2, 3]), ([], []), ([5], [5]), ([], []), ([], []), ([6, 7, 8, 4], [6, 7, 8]), ([4, 9], [4, 9]), ([10], [10])])
def rollbacknetlaw04_EvalLaws.B13 : List Nat := [0, 1, 0, 0, 15, 0, 32, 0, 0, 511, 1023, 2047]
theorem rollbacknetlaw04_EvalLaws.tab13 : rtab .any (opsOf Try.f4 13) = rollbacknetlaw04_EvalLaws.T13 := by kernel_rfl
theorem rollbacknetlaw04_EvalLaws.bits13 : waitsOk rollbacknetlaw04_EvalLaws.T13.2 rollbacknetlaw04_EvalLaws.B13 = true := by kernel_rfl
set_option maxHeartbeats 8000000 in
set_option maxRecDepth 100000 in
theorem rollbacknetlaw04_EvalLaws.calls (k : Nat) (a0 : Int) (a1 : Int) (r : Bool) (w : World) (h : rollbacknetlaw04_EvalLaws.f k a0 a1 = some r) :
  Calls Try.prog 4 #[.int .i64 a0, .int .i64 a1] w fun e w' => e = .returned (.bool r) ∧ Below w.heap.size w w' := by
 have hu27 := Try.underlying27
 have HB := Aside0.mk (Below.refl w.heap.size w)
 have H : ((rollbacknetlaw04_awake.f k).bind fun t117 => (if t117 = true then ((some (([10, 12, 19, 20, 21, 22] : List Int) : List Int)).bind fun y118 => (rollbacknetlaw04_EvalLaws.l0 k a0 a1 y118 (y118.length : Int) 0)) else (some false))) = some r := h
 clear h
 replace H := Option.bind_eq_some_iff.mp H
 obtain ⟨t117, A30, H⟩ := H
 replace H : (if t117 = true then ((some (([10, 12, 19, 20, 21, 22] : List Int) : List Int)).bind fun y118 => (rollbacknetlaw04_EvalLaws.l0 k a0 a1 y118 (y118.length : Int) 0)) else (some false)) = some r := H
 have A3 := Aside0.mk A30
 clear A30
 by_cases c4 : t117 = true
 ·subst c4
  have H1 : ((some (([10, 12, 19, 20, 21, 22] : List Int) : List Int)).bind fun y118 => (rollbacknetlaw04_EvalLaws.l0 k a0 a1 y118 (y118.length : Int) 0)) = some r := by rw [if_pos rfl] at H; exact H
  clear H
  have H := H1
  clear H1
  obtain ⟨y118, hy118⟩ : ∃ y_ : List Int, y_ = (([10, 12, 19, 20, 21, 22] : List Int)) := ⟨_, rfl⟩
  replace H : (rollbacknetlaw04_EvalLaws.l0 k a0 a1 y118 (y118.length : Int) 0) = some r := by first | (rw [hy118]; with_reducible exact H) | (have H2_ := (Option.bind_some _ _).symm.trans H; rw [hy118]; with_reducible exact H2_) | (have H2_ := (Option.bind_some _ _).symm.trans H; with_reducible exact H2_) | with_reducible exact H | (rw [hy118]; exact H) | exact H
  have Ny118 := Aside0.mk hy118
  clear hy118
  have H' := Aside0.mk H
  clear H
  go_enter Try.func4, Try.ntmps4
  go_wp2_with (first | ((with_reducible refine gate_callee (f := 6) rfl ?_); refine goesL_ (some 13) rfl rfl Try.func6 (by kernel_rfl) rfl #[] rfl (by (try simp only [List.map_toArray, List.map_cons, List.map_nil]); first | done | rfl | (simp only [List.length_drop, List.length_take]; rfl)) ?_; (with_reducible refine (rollbacknetlaw04_awake.calls k  true _ A3.out).mono ?_); rintro e w5 ⟨rfl, hb⟩; refine ⟨_, rfl, ?_⟩; have n0_ := Aside0.mk (below_step (bq HB.out) hb); clear HB; have HB := n0_; clear n0_; (try clear hb); (try clear hb2); (try clear hk); (try clear hi)) | ((with_reducible refine gate_dst (N := 15) rfl ?_); refine Kd.R_lit (Kd.int .i64) _ 3 ?hg (N := 15) ?hd (xs := ([10, 12, 19, 20, 21, 22] : List Int)) (inner := [.int .i64 10, .int .i64 12, .int .i64 19, .int .i64 20, .int .i64 21, .int .i64 22]) (ok := fun _ => True) (okp := fun _ => True) ?hr ?hp (fun _ hk => hk) trivial (Below.refl _ _) (Nat.le_refl _) (by simp) ?_; (case hd => rfl); (case hg => rfl); (case hr => first | (go_simp; done) | (go_simp; rfl)); (case hp => exact (Reps.one (show Kd.M (Kd.int .i64) _ _ _ 10 [.int .i64 10] from rfl) (Reps.one (show Kd.M (Kd.int .i64) _ _ _ 12 [.int .i64 12] from rfl) (Reps.one (show Kd.M (Kd.int .i64) _ _ _ 19 [.int .i64 19] from rfl) (Reps.one (show Kd.M (Kd.int .i64) _ _ _ 20 [.int .i64 20] from rfl) (Reps.one (show Kd.M (Kd.int .i64) _ _ _ 21 [.int .i64 21] from rfl) (Reps.one (show Kd.M (Kd.int .i64) _ _ _ 22 [.int .i64 22] from rfl) (Reps.none _ _)))))))); intro v119 w6 ho7 hb hg_ hnew_; clear hg_ hnew_; (first | rw [← Ny118.out] at ho7 | (simp only [Int.reduceToNat] at ho7; rw [← Ny118.out] at ho7)); have n0_ := Aside0.mk (Kd.R_lower ho7 (below_size (bq HB.out))); have n1_ := Aside0.mk (below_step (bq HB.out) hb); clear HB; have HO120 := n0_; have HB := n1_; clear n0_ n1_; clear hb ho7; obtain ⟨Ao8, co8, eo8⟩ := Kd.R_slice HO120.out; subst eo8))
  go_loopg [17] k (fun kq v17 w' => ∃ (x17_1 : Int), v17 = .int .i64 x17_1 ∧ Aside0 (rollbacknetlaw04_EvalLaws.l0 kq a0 a1 y118 (y118.length : Int) x17_1 = some r) ∧ Aside0 (kq ≤ k) ∧ Aside0 (Kd.R (Kd.int .i64) 3 w' w.heap.size (fun _ => True) (.slice Ao8 y118.length co8) y118) ∧ Aside0 (Below w.heap.size w w'))
  case atStart => exact ⟨(0), (by first | rfl | (simp; done) | (simp [*]; done)), H', ⟨Nat.le_refl _⟩, ⟨rq HO120.out⟩, ⟨bq HB.out⟩⟩
  case round =>
   clear H'
   try clear p2
   try clear c4
   try clear c6
   obtain ⟨x17_1, rfl, HA, HK1, HO_15, HB⟩ := hrel
   cases gk with
   | zero => exact absurd HA.out (by simp [rollbacknetlaw04_EvalLaws.l0])
   | succ k1 =>
    have H := HA.out
    clear HA
    simp only [rollbacknetlaw04_EvalLaws.l0] at H
    by_cases c9 : x17_1 < (y118.length : Int)
    ·rw [if_pos c9] at H
     have c9b0 : decide (x17_1 < (y118.length : Int)) = true := decide_eq_true c9
     clear c9
     by_cases c10 : 0 ≤ x17_1
     ·rw [if_pos c10] at H
      have c10b0 : decide (0 ≤ x17_1) = true := decide_eq_true c10
      clear c10
      by_cases c11 : x17_1 < (y118.length : Int)
      ·rw [if_pos c11] at H
       have c11b0 : decide (x17_1 < (y118.length : Int)) = true := decide_eq_true c11
       clear c11
       replace H := Option.bind_eq_some_iff.mp H
       obtain ⟨t122, A120, H⟩ := H
       replace H : ((eval_Apply.f (rd y118 x17_1) a1 a0).bind fun t123 => (if t122 = t123 then (rollbacknetlaw04_EvalLaws.l0 k1 a0 a1 y118 (y118.length : Int) (wrap64 (x17_1 + 1))) else (some false))) = some r := H
       have A12 := Aside0.mk A120
       clear A120
       replace H := Option.bind_eq_some_iff.mp H
       obtain ⟨t123, A130, H⟩ := H
       replace H : (if t122 = t123 then (rollbacknetlaw04_EvalLaws.l0 k1 a0 a1 y118 (y118.length : Int) (wrap64 (x17_1 + 1))) else (some false)) = some r := H
       have A13 := Aside0.mk A130
       clear A130
       by_cases c14 : t122 = t123
       ·rw [if_pos c14] at H
        have c14b0 : (t122 == t123) = true := beq_iff_eq.mpr c14
        have c14b1 : (t122 != t123) = false := bne_eq_false_iff_eq.mpr c14
        clear c14
        have H' := Aside0.mk H
        clear H
        have p121 : 0 ≤ (x17_1 : Int) := of_decide_eq_true (by first | (with_reducible assumption) | assumption)
        have q121 : x17_1 < (y118.length : Int) := of_decide_eq_true (by first | (with_reducible assumption) | assumption)
        obtain ⟨ad121, e121, hx121_0⟩ := Kd.at_int (Kd.R_reads' HO_15.out).2.2 x17_1 p121 q121
        cases e121
        replace p121 := eq_true p121
        replace q121 := eq_true q121
        go_wp2_with (first | ((with_reducible refine gate_callee (f := 8) rfl ?_); refine goesL_ (some 24) rfl rfl Try.func8 (by kernel_rfl) rfl #[.int .i64 (rd y118 x17_1), .int .i64 a0, .int .i64 a1] rfl (by (try simp only [List.map_toArray, List.map_cons, List.map_nil]); first | done | rfl | (simp only [List.length_drop, List.length_take]; rfl)) ?_; (with_reducible refine (eval_Apply.calls (rd y118 x17_1) a0 a1 t122 _ A12.out).mono ?_); rintro e w15 ⟨rfl, hb⟩; refine ⟨_, rfl, ?_⟩; have n0_ := Aside0.mk (Kd.R_below (rq HO_15.out) hb); have n1_ := Aside0.mk (below_step (bq HB.out) hb); clear HO_15; clear HB; have HO_15 := n0_; have HB := n1_; clear n0_ n1_; (try clear hb); (try clear hb2); (try clear hk); (try clear hi)) | ((with_reducible refine gate_callee (f := 8) rfl ?_); refine goesL_ (some 28) rfl rfl Try.func8 (by kernel_rfl) rfl #[.int .i64 (rd y118 x17_1), .int .i64 a1, .int .i64 a0] rfl (by (try simp only [List.map_toArray, List.map_cons, List.map_nil]); first | done | rfl | (simp only [List.length_drop, List.length_take]; rfl)) ?_; (with_reducible refine (eval_Apply.calls (rd y118 x17_1) a1 a0 t123 _ A13.out).mono ?_); rintro e w16 ⟨rfl, hb⟩; refine ⟨_, rfl, ?_⟩; have n0_ := Aside0.mk (Kd.R_below (rq HO_15.out) hb); have n1_ := Aside0.mk (below_step (bq HB.out) hb); clear HO_15; clear HB; have HO_15 := n0_; have HB := n1_; clear n0_ n1_; (try clear hb); (try clear hb2); (try clear hk); (try clear hi)))
        go_roundg k1
        case measure => have := HK1.out; omega
        case rel => exact ⟨(wrap64 (x17_1 + 1)), (by first | rfl | (simp; done) | (simp [*]; done)), H', ⟨by have := HK1.out; omega⟩, ⟨rq HO_15.out⟩, ⟨bq HB.out⟩⟩
       ·rw [if_neg c14] at H
        have c14b0 : (t122 == t123) = false := beq_eq_false_iff_ne.mpr c14
        have c14b1 : (t122 != t123) = true := bne_iff_ne.mpr c14
        obtain rfl := Option.some.inj H
        have p121 : 0 ≤ (x17_1 : Int) := of_decide_eq_true (by first | (with_reducible assumption) | assumption)
        have q121 : x17_1 < (y118.length : Int) := of_decide_eq_true (by first | (with_reducible assumption) | assumption)
        obtain ⟨ad121, e121, hx121_0⟩ := Kd.at_int (Kd.R_reads' HO_15.out).2.2 x17_1 p121 q121
        cases e121
        replace p121 := eq_true p121
        replace q121 := eq_true q121
        go_wp2_with (first | ((with_reducible refine gate_callee (f := 8) rfl ?_); refine goesL_ (some 24) rfl rfl Try.func8 (by kernel_rfl) rfl #[.int .i64 (rd y118 x17_1), .int .i64 a0, .int .i64 a1] rfl (by (try simp only [List.map_toArray, List.map_cons, List.map_nil]); first | done | rfl | (simp only [List.length_drop, List.length_take]; rfl)) ?_; (with_reducible refine (eval_Apply.calls (rd y118 x17_1) a0 a1 t122 _ A12.out).mono ?_); rintro e w17 ⟨rfl, hb⟩; refine ⟨_, rfl, ?_⟩; have n0_ := Aside0.mk (Kd.R_below (rq HO_15.out) hb); have n1_ := Aside0.mk (below_step (bq HB.out) hb); clear HO_15; clear HB; have HO_15 := n0_; have HB := n1_; clear n0_ n1_; (try clear hb); (try clear hb2); (try clear hk); (try clear hi)) | ((with_reducible refine gate_callee (f := 8) rfl ?_); refine goesL_ (some 28) rfl rfl Try.func8 (by kernel_rfl) rfl #[.int .i64 (rd y118 x17_1), .int .i64 a1, .int .i64 a0] rfl (by (try simp only [List.map_toArray, List.map_cons, List.map_nil]); first | done | rfl | (simp only [List.length_drop, List.length_take]; rfl)) ?_; (with_reducible refine (eval_Apply.calls (rd y118 x17_1) a1 a0 t123 _ A13.out).mono ?_); rintro e w18 ⟨rfl, hb⟩; refine ⟨_, rfl, ?_⟩; have n0_ := Aside0.mk (Kd.R_below (rq HO_15.out) hb); have n1_ := Aside0.mk (below_step (bq HB.out) hb); clear HO_15; clear HB; have HO_15 := n0_; have HB := n1_; clear n0_ n1_; (try clear hb); (try clear hb2); (try clear hk); (try clear hi)))
        go_ret
        exact ⟨by first | rfl | (simp [errW_none, errW_some] <;> rfl) | (simp [*, errW_none, errW_some] <;> rfl), bq HB.out⟩
      ·rw [if_neg c11] at H
       exact absurd H (by simp)
     ·rw [if_neg c10] at H
      exact absurd H (by simp)
    ·rw [if_neg c9] at H
     have c9b0 : decide (x17_1 < (y118.length : Int)) = false := decide_eq_false c9
     clear c9
     obtain ⟨y124, hy124⟩ : ∃ y_ : List (S27), y_ = (([(⟨15, 18⟩ : S27), (⟨16, 17⟩ : S27), (⟨19, 20⟩ : S27)] : List (S27))) := ⟨_, rfl⟩
     replace H : (rollbacknetlaw04_EvalLaws.l1 k1 a0 a1 y124 (y124.length : Int) 0) = some r := by first | (rw [hy124]; with_reducible exact H) | (have H2_ := (Option.bind_some _ _).symm.trans H; rw [hy124]; with_reducible exact H2_) | (have H2_ := (Option.bind_some _ _).symm.trans H; with_reducible exact H2_) | with_reducible exact H | (rw [hy124]; exact H) | exact H
     have Ny124 := Aside0.mk hy124
     clear hy124
     have H' := Aside0.mk H
     clear H
     go_wp2_with (first | ((with_reducible refine gate_dst (N := 34) rfl ?_); refine Kd.R_lit k27 _ 27 ?hg (N := 34) ?hd (xs := ([(⟨15, 18⟩ : S27), (⟨16, 17⟩ : S27), (⟨19, 20⟩ : S27)] : List (S27))) (inner := [.int .i64 15, .int .i64 18, .int .i64 16, .int .i64 17, .int .i64 19, .int .i64 20]) (ok := fun _ => True) (okp := fun _ => True) ?hr ?hp (fun _ hk => hk) trivial (Below.refl _ _) (Nat.le_refl _) (by simp) ?_; (case hd => rfl); (case hg => rfl); (case hr => first | (go_simp; done) | (go_simp; rfl)); (case hp => exact (Reps.c2 (show Kd.M k27 _ _ _ (⟨15, 18⟩ : S27) [.int .i64 15, .int .i64 18] from (k27_mkM _ _ _ (⟨15, 18⟩ : S27) )) (Reps.c2 (show Kd.M k27 _ _ _ (⟨16, 17⟩ : S27) [.int .i64 16, .int .i64 17] from (k27_mkM _ _ _ (⟨16, 17⟩ : S27) )) (Reps.c2 (show Kd.M k27 _ _ _ (⟨19, 20⟩ : S27) [.int .i64 19, .int .i64 20] from (k27_mkM _ _ _ (⟨19, 20⟩ : S27) )) (Reps.none _ _))))); intro v125 w19 ho20 hb hg_ hnew_; clear hg_ hnew_; (first | rw [← Ny124.out] at ho20 | (simp only [Int.reduceToNat] at ho20; rw [← Ny124.out] at ho20)); have n0_ := Aside0.mk (Kd.R_below (rq HO_15.out) hb); have n1_ := Aside0.mk (Kd.R_lower ho20 (below_size (bq HB.out))); have n2_ := Aside0.mk (below_step (bq HB.out) hb); clear HO_15; clear HB; have HO_15 := n0_; have HO126 := n1_; have HB := n2_; clear n0_ n1_ n2_; clear hb ho20; obtain ⟨Ao21, co21, eo21⟩ := Kd.R_slice HO126.out; subst eo21))
     go_loopg [37] k1 (fun kq v37 w' => ∃ (x37_2 : Int), v37 = .int .i64 x37_2 ∧ Aside0 (rollbacknetlaw04_EvalLaws.l1 kq a0 a1 y124 (y124.length : Int) x37_2 = some r) ∧ Aside0 (kq ≤ k1) ∧ Aside0 (Kd.R k27 27 w' w.heap.size (fun _ => True) (.slice Ao21 y124.length co21) y124) ∧ Aside0 (Below w.heap.size w w'))
     case atStart => exact ⟨(0), (by first | rfl | (simp; done) | (simp [*]; done)), H', ⟨Nat.le_refl _⟩, ⟨rq HO126.out⟩, ⟨bq HB.out⟩⟩
     case round =>
      clear H'
      try clear c1
      try clear p1
      try clear q1
      try clear hx1
      try clear c2
      try clear p2
      try clear c4
      try clear c6
      try clear p6
      try clear c8
      try clear c9
      try clear c9b0
      try clear c10
      try clear c10b0
      try clear c11
      try clear c11b0
      try clear p12
      try clear q12
      try clear hx12
      try clear c14
      try clear c14b0
      try clear c14b1
      try clear hx121_0
      try clear p121
      try clear p2
      try clear q121
      obtain ⟨x37_2, rfl, HA, HK2, HO_35, HB⟩ := hrel
      cases gk with
      | zero => exact absurd HA.out (by simp [rollbacknetlaw04_EvalLaws.l1])
      | succ k2 =>
       have H := HA.out
       clear HA
       simp only [rollbacknetlaw04_EvalLaws.l1] at H
       by_cases c22 : x37_2 < (y124.length : Int)
       ·rw [if_pos c22] at H
        have c22b0 : decide (x37_2 < (y124.length : Int)) = true := decide_eq_true c22
        clear c22
        by_cases c23 : 0 ≤ x37_2
        ·rw [if_pos c23] at H
         have c23b0 : decide (0 ≤ x37_2) = true := decide_eq_true c23
         clear c23
         by_cases c24 : x37_2 < (y124.length : Int)
         ·rw [if_pos c24] at H
          have c24b0 : decide (x37_2 < (y124.length : Int)) = true := decide_eq_true c24
          clear c24
          replace H := Option.bind_eq_some_iff.mp H
          obtain ⟨t129, A250, H⟩ := H
          replace H : ((eval_Apply.f ((rd_T27 y124 x37_2).f1) a0 a1).bind fun t130 => (if (wrap64 (t129 + t130)) = 1 then (rollbacknetlaw04_EvalLaws.l1 k2 a0 a1 y124 (y124.length : Int) (wrap64 (x37_2 + 1))) else (some false))) = some r := H
          have A25 := Aside0.mk A250
          clear A250
          replace H := Option.bind_eq_some_iff.mp H
          obtain ⟨t130, A260, H⟩ := H
          replace H : (if (wrap64 (t129 + t130)) = 1 then (rollbacknetlaw04_EvalLaws.l1 k2 a0 a1 y124 (y124.length : Int) (wrap64 (x37_2 + 1))) else (some false)) = some r := H
          have A26 := Aside0.mk A260
          clear A260
          by_cases c27 : (wrap64 (t129 + t130)) = 1
          ·rw [if_pos c27] at H
           have c27b0 : ((wrap64 (t129 + t130)) == 1) = true := beq_iff_eq.mpr c27
           have c27b1 : ((wrap64 (t129 + t130)) != 1) = false := bne_eq_false_iff_eq.mpr c27
           clear c27
           have H' := Aside0.mk H
           clear H
           have p127 : 0 ≤ (x37_2 : Int) := of_decide_eq_true (by first | (with_reducible assumption) | assumption)
           have q127 : x37_2 < (y124.length : Int) := of_decide_eq_true (by first | (with_reducible assumption) | assumption)
           obtain ⟨ad127, e127, hx127_0, hx127_1⟩ := at_T27 (Kd.R_reads' HO_35.out).2.2 x37_2 p127 q127
           cases e127
           replace p127 := eq_true p127
           replace q127 := eq_true q127
           try go_wp2_with (first | ((with_reducible refine gate_dst (N := 9) rfl ?_); refine box_event ?hg (N := 9) ?hd (cs := #[.int .i64 0, .int .i64 0]) (t := 27) ?hr ?_; (case hd => rfl); (case hg => rfl); (case hr => first | (go_simp; done) | (go_simp; rfl)); intro gb128 hg w28 hbox hb; have n0_ := Aside0.mk (Kd.R_below (Kd.R_elderB (rq HO_35.out) gb128 (Nat.le_of_eq hg.symm)) hb); have n1_ := Aside0.mk (below_step (bq HB.out) hb); have n2_ := Aside0.mk (hbox); have n3_ := Aside0.mk ((by rw [hg]; exact (below_size (bq HB.out)) : w.heap.size ≤ gb128)); have n4_ := Aside0.mk ((by rw [hg]; exact (below_size (bq HB.out)) : w.heap.size ≤ gb128)); clear HO_35; clear HB; have HO_35 := n0_; have HB := n1_; have BK128 := n2_; have GW128 := n3_; have GE128 := n4_; clear n0_ n1_ n2_ n3_ n4_; clear hb hbox hg; have hcz29_0 : w28.cell? ⟨gb128, 0, none⟩ = some (.int .i64 0) := (blk_cell BK128.out 0).trans rfl; have hcz29_1 : w28.cell? ⟨gb128, 1, none⟩ = some (.int .i64 0) := (blk_cell BK128.out 1).trans rfl; have hfz29_0 := blk_frozen BK128.out 0; have hfz29_1 := blk_frozen BK128.out 1))
           have n0_ : Aside0 (Kd.R k27 27 ((w28.setCell ⟨gb128, 0, none⟩ (.int .i64 ((rd_T27 y124 x37_2).f0))).setCell ⟨gb128, 1, none⟩ (.int .i64 ((rd_T27 y124 x37_2).f1))) w.heap.size (fun k_ => k_ ≠ gb128) (.slice (some ad127) y124.length co21) y124) := ⟨by (with_reducible repeat (first | apply Kd.R_alloc | apply Kd.R_drewN | apply Kd.R_drew)); exact Kd.R_mono (Kd.R_far (p := ⟨gb128, 1, none⟩) (Kd.R_far (p := ⟨gb128, 0, none⟩) (Kd.R_mono HO_35.out (fun k_ hk => (⟨hk, hk.2⟩ : _ ∧ k_ ≠ gb128))) (fun _ hk => hk.2) (.int .i64 ((rd_T27 y124 x37_2).f0))) (fun _ hk => hk.2) (.int .i64 ((rd_T27 y124 x37_2).f1))) (fun _ hk => hk.1.2)⟩
           have n1_ : Aside0 (((w28.setCell ⟨gb128, 0, none⟩ (.int .i64 ((rd_T27 y124 x37_2).f0))).setCell ⟨gb128, 1, none⟩ (.int .i64 ((rd_T27 y124 x37_2).f1))).heap[gb128]? = some (.cells #[.int .i64 ((rd_T27 y124 x37_2).f0), .int .i64 ((rd_T27 y124 x37_2).f1)] 27 (0, 0))) := ⟨by (with_reducible repeat (first | refine blk_drewN ?_ _ | refine blk_drew ?_ | refine blk_alloc ?_ _)); refine blk_put (cs := #[.int .i64 ((rd_T27 y124 x37_2).f0), .int .i64 0]) ?_ 1 _ rfl; (with_reducible repeat (first | refine blk_drewN ?_ _ | refine blk_drew ?_ | refine blk_alloc ?_ _)); refine blk_put (cs := #[.int .i64 0, .int .i64 0]) ?_ 0 _ rfl; (with_reducible repeat (first | refine blk_drewN ?_ _ | refine blk_drew ?_ | refine blk_alloc ?_ _)); exact BK128.out⟩
           have n2_ : Aside0 (Below w.heap.size w ((w28.setCell ⟨gb128, 0, none⟩ (.int .i64 ((rd_T27 y124 x37_2).f0))).setCell ⟨gb128, 1, none⟩ (.int .i64 ((rd_T27 y124 x37_2).f1)))) := ⟨bq1 HB.out GE128.out⟩
           (try clear HO_35)
           (try clear BK128)
           (try clear HB)
           generalize ((w28.setCell ⟨gb128, 0, none⟩ (.int .i64 ((rd_T27 y124 x37_2).f0))).setCell ⟨gb128, 1, none⟩ (.int .i64 ((rd_T27 y124 x37_2).f1))) = w30 at n0_ n1_ n2_ ⊢
           have HO_35 := n0_
           have BK128 := n1_
           have HB := n2_
           clear n0_ n1_ n2_
           have n0_ := Aside0.mk (Kd.R_drew HO_35.out)
           have n1_ := Aside0.mk (blk_drew BK128.out)
           have n2_ := Aside0.mk (below_drew1 HB.out)
           clear HO_35
           clear BK128
           clear HB
           have HO_35 := n0_
           have BK128 := n1_
           have HB := n2_
           clear n0_ n1_ n2_
           refine start_ (n := 12) (S := fun w' => w'.cell? ⟨gb128, 0, none⟩ = some (.int .i64 ((rd_T27 y124 x37_2).f0)) ∧ w'.cell? ⟨gb128, 1, none⟩ = some (.int .i64 ((rd_T27 y124 x37_2).f1))) (ds := []) #[false, false, false, false, false, false, false, false, false, false, false, false] (by kernel_rfl) rfl rfl ⟨(blk_cell BK128.out 0).trans rfl, (blk_cell BK128.out 1).trans rfl⟩ (fun hHeld => ?_); refine with_tabW rollbacknetlaw04_EvalLaws.tab13 rollbacknetlaw04_EvalLaws.bits13 (fun HT_ HW_ => ?_)
           generalize w30.drew = w31 at HO_35 BK128 HB hHeld ⊢
           refine pur HT_.out 0 (some 41) (bm 12 1) ?_
           refine pur HT_.out 2 (some 43) (bm 12 5) ?_
           refine pur HT_.out 3 (some 44) (bm 12 13) ?_
           refine pur HT_.out 5 (some 46) (bm 12 45) ?_
           refine pur HT_.out 7 (some 48) (bm 12 173) ?_
           refine pur HT_.out 8 (some 49) (bm 12 429) ?_
           refine take_ (i := 1) (N := some 42) (v := ?_) (a' := ?_) #[true, true, true, true, false, true, false, true, true, false, false, false] rfl rfl (take_ofW HT_.out HW_.out (by kernel_rfl)) (fun _ _ _ h => h) (Or.inl ⟨by rfl, ?_⟩) hHeld ?_ ?_
           rotate_left
           ·rintro w' ⟨s0, s1⟩
            go_simp
            with_reducible rfl
           rotate_left
           ·simp only [Act.put, List.setIfInBounds_toArray, List.set_cons_zero, List.set_cons_succ, i64_w, i32_w]
            rfl
           refine take_ (i := 6) (N := some 47) (v := ?_) (a' := ?_) #[true, true, true, true, false, true, true, true, true, false, false, false] rfl rfl (take_ofW HT_.out HW_.out (by kernel_rfl)) (fun _ _ _ h => h) (Or.inl ⟨by rfl, ?_⟩) hHeld ?_ ?_
           rotate_left
           ·rintro w' ⟨s0, s1⟩
            go_simp
            with_reducible rfl
           rotate_left
           ·simp only [Act.put, List.setIfInBounds_toArray, List.set_cons_zero, List.set_cons_succ, i64_w, i32_w]
            rfl
           refine one_ (i := 4) (N := some 45) #[true, true, true, true, true, true, true, true, true, false, false, false] rfl rfl (one_of HT_.out (by kernel_rfl)) (by decide) (fun K hK => ?_)
           refine goes_ Try.func8 (by kernel_rfl) rfl #[.int .i64 ((rd_T27 y124 x37_2).f0), .int .i64 a0, .int .i64 a1] (by first | rfl | (refine wanted_on rfl rfl rfl ?_; first | assumption | (simp [*]; done))) rfl rfl (by (try simp only [List.map_toArray, List.map_cons, List.map_nil]); first | done | rfl | (simp only [List.length_drop, List.length_take]; rfl)) ?_
           with_reducible refine (eval_Apply.calls ((rd_T27 y124 x37_2).f0) a0 a1 t129 _ A25.out).mono ?_
           rintro e w32 ⟨rfl, hb⟩
           refine ⟨_, rfl, ?_⟩
           have n0_ := Aside0.mk (Kd.R_below (rq HO_35.out) hb)
           have n1_ := Aside0.mk (blk_below (g := gb128) (o := .cells #[.int .i64 ((rd_T27 y124 x37_2).f0), .int .i64 ((rd_T27 y124 x37_2).f1)] 27 (0, 0)) (kq BK128.out) hb)
           have n2_ := Aside0.mk (below_step (bq1 HB.out GE128.out) hb)
           clear HO_35
           clear BK128
           clear HB
           have HO_35 := n0_
           have BK128 := n1_
           have HB := n2_
           clear n0_ n1_ n2_
           (try clear hb)
           (try clear hb2)
           (try clear hk)
           (try clear hi)
           refine hK.out _ _ ⟨(blk_cell BK128.out 0).trans rfl, (blk_cell BK128.out 1).trans rfl⟩ (fun hHeld => ?_)
           clear hK K
           refine norm_ (a' := ?_) ?_ ?_
           rotate_left
           ·show Act.put _ (some 45) _ = _
            simp only [Act.put, List.setIfInBounds_toArray, List.set_cons_zero, List.set_cons_succ, i64_w, i32_w]
            rfl
           refine one_ (i := 9) (N := some 50) #[true, true, true, true, true, true, true, true, true, true, false, false] rfl rfl (one_of HT_.out (by kernel_rfl)) (by decide) (fun K hK => ?_)
           refine goes_ Try.func8 (by kernel_rfl) rfl #[.int .i64 ((rd_T27 y124 x37_2).f1), .int .i64 a0, .int .i64 a1] (by first | rfl | (refine wanted_on rfl rfl rfl ?_; first | assumption | (simp [*]; done))) rfl rfl (by (try simp only [List.map_toArray, List.map_cons, List.map_nil]); first | done | rfl | (simp only [List.length_drop, List.length_take]; rfl)) ?_
           with_reducible refine (eval_Apply.calls ((rd_T27 y124 x37_2).f1) a0 a1 t130 _ A26.out).mono ?_
           rintro e w33 ⟨rfl, hb⟩
           refine ⟨_, rfl, ?_⟩
           have n0_ := Aside0.mk (Kd.R_below (rq HO_35.out) hb)
           have n1_ := Aside0.mk (blk_below (g := gb128) (o := .cells #[.int .i64 ((rd_T27 y124 x37_2).f0), .int .i64 ((rd_T27 y124 x37_2).f1)] 27 (0, 0)) (kq BK128.out) hb)
           have n2_ := Aside0.mk (below_step (bq1 HB.out GE128.out) hb)
           clear HO_35
           clear BK128
           clear HB
           have HO_35 := n0_
           have BK128 := n1_
           have HB := n2_
           clear n0_ n1_ n2_
           (try clear hb)
           (try clear hb2)
           (try clear hk)
           (try clear hi)
           refine hK.out _ _ ⟨(blk_cell BK128.out 0).trans rfl, (blk_cell BK128.out 1).trans rfl⟩ (fun hHeld => ?_)
           clear hK K
           refine norm_ (a' := ?_) ?_ ?_
           rotate_left
           ·show Act.put _ (some 50) _ = _
            simp only [Act.put, List.setIfInBounds_toArray, List.set_cons_zero, List.set_cons_succ, i64_w, i32_w]
            rfl
           refine pur HT_.out 10 (some 51) (bm 12 2047) ?_
           refine pur HT_.out 11 (some 52) (bm 12 4095) ?_
           refine done_ (done_of HT_.out (by kernel_rfl)) ?_
           try go_wp2
           go_roundg k2
           case measure => have := HK1.out; have := HK2.out; omega
           case rel => exact ⟨(wrap64 (x37_2 + 1)), (by first | rfl | (simp; done) | (simp [*]; done)), H', ⟨by have := HK1.out; have := HK2.out; omega⟩, ⟨by (with_reducible repeat (first | apply Kd.R_alloc | apply Kd.R_drewN | apply Kd.R_drew)); exact Kd.R_mono HO_35.out (fun _ hk => trivial)⟩, ⟨bq1 HB.out GE128.out⟩⟩
          ·rw [if_neg c27] at H
           have c27b0 : ((wrap64 (t129 + t130)) == 1) = false := beq_eq_false_iff_ne.mpr c27
           have c27b1 : ((wrap64 (t129 + t130)) != 1) = true := bne_iff_ne.mpr c27
           obtain rfl := Option.some.inj H
           have p127 : 0 ≤ (x37_2 : Int) := of_decide_eq_true (by first | (with_reducible assumption) | assumption)
           have q127 : x37_2 < (y124.length : Int) := of_decide_eq_true (by first | (with_reducible assumption) | assumption)
           obtain ⟨ad127, e127, hx127_0, hx127_1⟩ := at_T27 (Kd.R_reads' HO_35.out).2.2 x37_2 p127 q127
           cases e127
           replace p127 := eq_true p127
           replace q127 := eq_true q127
           try go_wp2_with (first | ((with_reducible refine gate_dst (N := 9) rfl ?_); refine box_event ?hg (N := 9) ?hd (cs := #[.int .i64 0, .int .i64 0]) (t := 27) ?hr ?_; (case hd => rfl); (case hg => rfl); (case hr => first | (go_simp; done) | (go_simp; rfl)); intro gb128 hg w34 hbox hb; have n0_ := Aside0.mk (Kd.R_below (Kd.R_elderB (rq HO_35.out) gb128 (Nat.le_of_eq hg.symm)) hb); have n1_ := Aside0.mk (below_step (bq HB.out) hb); have n2_ := Aside0.mk (hbox); have n3_ := Aside0.mk ((by rw [hg]; exact (below_size (bq HB.out)) : w.heap.size ≤ gb128)); have n4_ := Aside0.mk ((by rw [hg]; exact (below_size (bq HB.out)) : w.heap.size ≤ gb128)); clear HO_35; clear HB; have HO_35 := n0_; have HB := n1_; have BK128 := n2_; have GW128 := n3_; have GE128 := n4_; clear n0_ n1_ n2_ n3_ n4_; clear hb hbox hg; have hcz35_0 : w34.cell? ⟨gb128, 0, none⟩ = some (.int .i64 0) := (blk_cell BK128.out 0).trans rfl; have hcz35_1 : w34.cell? ⟨gb128, 1, none⟩ = some (.int .i64 0) := (blk_cell BK128.out 1).trans rfl; have hfz35_0 := blk_frozen BK128.out 0; have hfz35_1 := blk_frozen BK128.out 1))
           have n0_ : Aside0 (Kd.R k27 27 ((w34.setCell ⟨gb128, 0, none⟩ (.int .i64 ((rd_T27 y124 x37_2).f0))).setCell ⟨gb128, 1, none⟩ (.int .i64 ((rd_T27 y124 x37_2).f1))) w.heap.size (fun k_ => k_ ≠ gb128) (.slice (some ad127) y124.length co21) y124) := ⟨by (with_reducible repeat (first | apply Kd.R_alloc | apply Kd.R_drewN | apply Kd.R_drew)); exact Kd.R_mono (Kd.R_far (p := ⟨gb128, 1, none⟩) (Kd.R_far (p := ⟨gb128, 0, none⟩) (Kd.R_mono HO_35.out (fun k_ hk => (⟨hk, hk.2⟩ : _ ∧ k_ ≠ gb128))) (fun _ hk => hk.2) (.int .i64 ((rd_T27 y124 x37_2).f0))) (fun _ hk => hk.2) (.int .i64 ((rd_T27 y124 x37_2).f1))) (fun _ hk => hk.1.2)⟩
           have n1_ : Aside0 (((w34.setCell ⟨gb128, 0, none⟩ (.int .i64 ((rd_T27 y124 x37_2).f0))).setCell ⟨gb128, 1, none⟩ (.int .i64 ((rd_T27 y124 x37_2).f1))).heap[gb128]? = some (.cells #[.int .i64 ((rd_T27 y124 x37_2).f0), .int .i64 ((rd_T27 y124 x37_2).f1)] 27 (0, 0))) := ⟨by (with_reducible repeat (first | refine blk_drewN ?_ _ | refine blk_drew ?_ | refine blk_alloc ?_ _)); refine blk_put (cs := #[.int .i64 ((rd_T27 y124 x37_2).f0), .int .i64 0]) ?_ 1 _ rfl; (with_reducible repeat (first | refine blk_drewN ?_ _ | refine blk_drew ?_ | refine blk_alloc ?_ _)); refine blk_put (cs := #[.int .i64 0, .int .i64 0]) ?_ 0 _ rfl; (with_reducible repeat (first | refine blk_drewN ?_ _ | refine blk_drew ?_ | refine blk_alloc ?_ _)); exact BK128.out⟩
           have n2_ : Aside0 (Below w.heap.size w ((w34.setCell ⟨gb128, 0, none⟩ (.int .i64 ((rd_T27 y124 x37_2).f0))).setCell ⟨gb128, 1, none⟩ (.int .i64 ((rd_T27 y124 x37_2).f1)))) := ⟨bq1 HB.out GE128.out⟩
           (try clear HO_35)
           (try clear BK128)
           (try clear HB)
           generalize ((w34.setCell ⟨gb128, 0, none⟩ (.int .i64 ((rd_T27 y124 x37_2).f0))).setCell ⟨gb128, 1, none⟩ (.int .i64 ((rd_T27 y124 x37_2).f1))) = w36 at n0_ n1_ n2_ ⊢
           have HO_35 := n0_
           have BK128 := n1_
           have HB := n2_
           clear n0_ n1_ n2_
           have n0_ := Aside0.mk (Kd.R_drew HO_35.out)
           have n1_ := Aside0.mk (blk_drew BK128.out)
           have n2_ := Aside0.mk (below_drew1 HB.out)
           clear HO_35
           clear BK128
           clear HB
           have HO_35 := n0_
           have BK128 := n1_
           have HB := n2_
           clear n0_ n1_ n2_
           refine start_ (n := 12) (S := fun w' => w'.cell? ⟨gb128, 0, none⟩ = some (.int .i64 ((rd_T27 y124 x37_2).f0)) ∧ w'.cell? ⟨gb128, 1, none⟩ = some (.int .i64 ((rd_T27 y124 x37_2).f1))) (ds := []) #[false, false, false, false, false, false, false, false, false, false, false, false] (by kernel_rfl) rfl rfl ⟨(blk_cell BK128.out 0).trans rfl, (blk_cell BK128.out 1).trans rfl⟩ (fun hHeld => ?_); refine with_tabW rollbacknetlaw04_EvalLaws.tab13 rollbacknetlaw04_EvalLaws.bits13 (fun HT_ HW_ => ?_)
           generalize w36.drew = w37 at HO_35 BK128 HB hHeld ⊢
           refine pur HT_.out 0 (some 41) (bm 12 1) ?_
           refine pur HT_.out 2 (some 43) (bm 12 5) ?_
           refine pur HT_.out 3 (some 44) (bm 12 13) ?_
           refine pur HT_.out 5 (some 46) (bm 12 45) ?_
           refine pur HT_.out 7 (some 48) (bm 12 173) ?_
           refine pur HT_.out 8 (some 49) (bm 12 429) ?_
           refine take_ (i := 1) (N := some 42) (v := ?_) (a' := ?_) #[true, true, true, true, false, true, false, true, true, false, false, false] rfl rfl (take_ofW HT_.out HW_.out (by kernel_rfl)) (fun _ _ _ h => h) (Or.inl ⟨by rfl, ?_⟩) hHeld ?_ ?_
           rotate_left
           ·rintro w' ⟨s0, s1⟩
            go_simp
            with_reducible rfl
           rotate_left
           ·simp only [Act.put, List.setIfInBounds_toArray, List.set_cons_zero, List.set_cons_succ, i64_w, i32_w]
            rfl
           refine take_ (i := 6) (N := some 47) (v := ?_) (a' := ?_) #[true, true, true, true, false, true, true, true, true, false, false, false] rfl rfl (take_ofW HT_.out HW_.out (by kernel_rfl)) (fun _ _ _ h => h) (Or.inl ⟨by rfl, ?_⟩) hHeld ?_ ?_
           rotate_left
           ·rintro w' ⟨s0, s1⟩
            go_simp
            with_reducible rfl
           rotate_left
           ·simp only [Act.put, List.setIfInBounds_toArray, List.set_cons_zero, List.set_cons_succ, i64_w, i32_w]
            rfl
           refine one_ (i := 4) (N := some 45) #[true, true, true, true, true, true, true, true, true, false, false, false] rfl rfl (one_of HT_.out (by kernel_rfl)) (by decide) (fun K hK => ?_)
           refine goes_ Try.func8 (by kernel_rfl) rfl #[.int .i64 ((rd_T27 y124 x37_2).f0), .int .i64 a0, .int .i64 a1] (by first | rfl | (refine wanted_on rfl rfl rfl ?_; first | assumption | (simp [*]; done))) rfl rfl (by (try simp only [List.map_toArray, List.map_cons, List.map_nil]); first | done | rfl | (simp only [List.length_drop, List.length_take]; rfl)) ?_
           with_reducible refine (eval_Apply.calls ((rd_T27 y124 x37_2).f0) a0 a1 t129 _ A25.out).mono ?_
           rintro e w38 ⟨rfl, hb⟩
           refine ⟨_, rfl, ?_⟩
           have n0_ := Aside0.mk (Kd.R_below (rq HO_35.out) hb)
           have n1_ := Aside0.mk (blk_below (g := gb128) (o := .cells #[.int .i64 ((rd_T27 y124 x37_2).f0), .int .i64 ((rd_T27 y124 x37_2).f1)] 27 (0, 0)) (kq BK128.out) hb)
           have n2_ := Aside0.mk (below_step (bq1 HB.out GE128.out) hb)
           clear HO_35
           clear BK128
           clear HB
           have HO_35 := n0_
           have BK128 := n1_
           have HB := n2_
           clear n0_ n1_ n2_
           (try clear hb)
           (try clear hb2)
           (try clear hk)
           (try clear hi)
           refine hK.out _ _ ⟨(blk_cell BK128.out 0).trans rfl, (blk_cell BK128.out 1).trans rfl⟩ (fun hHeld => ?_)
           clear hK K
           refine norm_ (a' := ?_) ?_ ?_
           rotate_left
           ·show Act.put _ (some 45) _ = _
            simp only [Act.put, List.setIfInBounds_toArray, List.set_cons_zero, List.set_cons_succ, i64_w, i32_w]
            rfl
           refine one_ (i := 9) (N := some 50) #[true, true, true, true, true, true, true, true, true, true, false, false] rfl rfl (one_of HT_.out (by kernel_rfl)) (by decide) (fun K hK => ?_)
           refine goes_ Try.func8 (by kernel_rfl) rfl #[.int .i64 ((rd_T27 y124 x37_2).f1), .int .i64 a0, .int .i64 a1] (by first | rfl | (refine wanted_on rfl rfl rfl ?_; first | assumption | (simp [*]; done))) rfl rfl (by (try simp only [List.map_toArray, List.map_cons, List.map_nil]); first | done | rfl | (simp only [List.length_drop, List.length_take]; rfl)) ?_
           with_reducible refine (eval_Apply.calls ((rd_T27 y124 x37_2).f1) a0 a1 t130 _ A26.out).mono ?_
           rintro e w39 ⟨rfl, hb⟩
           refine ⟨_, rfl, ?_⟩
           have n0_ := Aside0.mk (Kd.R_below (rq HO_35.out) hb)
           have n1_ := Aside0.mk (blk_below (g := gb128) (o := .cells #[.int .i64 ((rd_T27 y124 x37_2).f0), .int .i64 ((rd_T27 y124 x37_2).f1)] 27 (0, 0)) (kq BK128.out) hb)
           have n2_ := Aside0.mk (below_step (bq1 HB.out GE128.out) hb)
           clear HO_35
           clear BK128
           clear HB
           have HO_35 := n0_
           have BK128 := n1_
           have HB := n2_
           clear n0_ n1_ n2_
           (try clear hb)
           (try clear hb2)
           (try clear hk)
           (try clear hi)
           refine hK.out _ _ ⟨(blk_cell BK128.out 0).trans rfl, (blk_cell BK128.out 1).trans rfl⟩ (fun hHeld => ?_)
           clear hK K
           refine norm_ (a' := ?_) ?_ ?_
           rotate_left
           ·show Act.put _ (some 50) _ = _
            simp only [Act.put, List.setIfInBounds_toArray, List.set_cons_zero, List.set_cons_succ, i64_w, i32_w]
            rfl
           refine pur HT_.out 10 (some 51) (bm 12 2047) ?_
           refine pur HT_.out 11 (some 52) (bm 12 4095) ?_
           refine done_ (done_of HT_.out (by kernel_rfl)) ?_
           try go_wp2
           go_ret
           exact ⟨by first | rfl | (simp [errW_none, errW_some] <;> rfl) | (simp [*, errW_none, errW_some] <;> rfl), bq1 HB.out GE128.out⟩
         ·rw [if_neg c24] at H
          exact absurd H (by simp)
        ·rw [if_neg c23] at H
         exact absurd H (by simp)
       ·rw [if_neg c22] at H
        have c22b0 : decide (x37_2 < (y124.length : Int)) = false := decide_eq_false c22
        clear c22
        replace H := Option.bind_eq_some_iff.mp H
        obtain ⟨t131, A400, H⟩ := H
        replace H : ((eval_Apply.f 14 a0 a1).bind fun t132 => (if a1 = 0 then (if t131 = 0 then (rollbacknetlaw04_EvalLaws.j2 k2 a0 a1 (t132 != 0)) else (rollbacknetlaw04_EvalLaws.j2 k2 a0 a1 true)) else (if (wrap64 ((wrap64 (t131 * a1)) + t132)) = a0 then (rollbacknetlaw04_EvalLaws.j2 k2 a0 a1 false) else (rollbacknetlaw04_EvalLaws.j2 k2 a0 a1 true)))) = some r := H
        have A40 := Aside0.mk A400
        clear A400
        replace H := Option.bind_eq_some_iff.mp H
        obtain ⟨t132, A410, H⟩ := H
        replace H : (if a1 = 0 then (if t131 = 0 then (rollbacknetlaw04_EvalLaws.j2 k2 a0 a1 (t132 != 0)) else (rollbacknetlaw04_EvalLaws.j2 k2 a0 a1 true)) else (if (wrap64 ((wrap64 (t131 * a1)) + t132)) = a0 then (rollbacknetlaw04_EvalLaws.j2 k2 a0 a1 false) else (rollbacknetlaw04_EvalLaws.j2 k2 a0 a1 true))) = some r := H
        have A41 := Aside0.mk A410
        clear A410
        have HC42 := Aside0.mk H
        clear H
        go_upto_region 17 with (first | ((with_reducible refine gate_callee (f := 8) rfl ?_); refine goesL_ (some 56) rfl rfl Try.func8 (by kernel_rfl) rfl #[.int .i64 13, .int .i64 a0, .int .i64 a1] rfl (by (try simp only [List.map_toArray, List.map_cons, List.map_nil]); first | done | rfl | (simp only [List.length_drop, List.length_take]; rfl)) ?_; (with_reducible refine (eval_Apply.calls 13 a0 a1 t131 _ A40.out).mono ?_); rintro e w43 ⟨rfl, hb⟩; refine ⟨_, rfl, ?_⟩; have n0_ := Aside0.mk (Kd.R_below (rq HO_35.out) hb); have n1_ := Aside0.mk (below_step (bq HB.out) hb); clear HO_35; clear HB; have HO_35 := n0_; have HB := n1_; clear n0_ n1_; (try clear hb); (try clear hb2); (try clear hk); (try clear hi)) | ((with_reducible refine gate_callee (f := 8) rfl ?_); refine goesL_ (some 59) rfl rfl Try.func8 (by kernel_rfl) rfl #[.int .i64 14, .int .i64 a0, .int .i64 a1] rfl (by (try simp only [List.map_toArray, List.map_cons, List.map_nil]); first | done | rfl | (simp only [List.length_drop, List.length_take]; rfl)) ?_; (with_reducible refine (eval_Apply.calls 14 a0 a1 t132 _ A41.out).mono ?_); rintro e w44 ⟨rfl, hb⟩; refine ⟨_, rfl, ?_⟩; have n0_ := Aside0.mk (Kd.R_below (rq HO_35.out) hb); have n1_ := Aside0.mk (below_step (bq HB.out) hb); clear HO_35; clear HB; have HO_35 := n0_; have HB := n1_; clear n0_ n1_; (try clear hb); (try clear hb2); (try clear hk); (try clear hi)))
        (try simp only [Act.put, List.setIfInBounds_toArray, List.set_cons_zero, List.set_cons_succ])
        go_cut [82] (fun v82 wc => ∃ (kq : Nat) (x82_41 : Bool), v82 = .bool x82_41 ∧ Aside0 (rollbacknetlaw04_EvalLaws.j2 kq a0 a1 x82_41 = some r) ∧ Aside0 (kq ≤ k2) ∧ Aside0 (Below w.heap.size w wc))
        case first =>
         have H := HC42.out
         clear HC42
         by_cases c45 : a1 = 0
         ·rw [if_pos c45] at H
          have c45b0 : (a1 == 0) = true := beq_iff_eq.mpr c45
          have c45b1 : (a1 != 0) = false := bne_eq_false_iff_eq.mpr c45
          clear c45
          (first | rw [c45b0] | (simp only [i64_w, i32_w]; rw [c45b0]) | skip)
          by_cases c46 : t131 = 0
          ·rw [if_pos c46] at H
           have c46b0 : (t131 == 0) = true := beq_iff_eq.mpr c46
           have c46b1 : (t131 != 0) = false := bne_eq_false_iff_eq.mpr c46
           clear c46
           have H' := Aside0.mk H
           clear H
           go_wp2
           go_meet
           case rel => exact ⟨_, ((t132 != 0)), (by first | rfl | (simp; done) | (simp [*]; done)), H', ⟨by have := HK1.out; have := HK2.out; first | omega | exact Nat.le_refl _⟩, ⟨bq HB.out⟩⟩
          ·rw [if_neg c46] at H
           have c46b0 : (t131 == 0) = false := beq_eq_false_iff_ne.mpr c46
           have c46b1 : (t131 != 0) = true := bne_iff_ne.mpr c46
           have H' := Aside0.mk H
           clear H
           go_wp2
           go_meet
           case rel => exact ⟨_, (true), (by first | rfl | (simp; done) | (simp [*]; done)), H', ⟨by have := HK1.out; have := HK2.out; first | omega | exact Nat.le_refl _⟩, ⟨bq HB.out⟩⟩
         ·rw [if_neg c45] at H
          have c45b0 : (a1 == 0) = false := beq_eq_false_iff_ne.mpr c45
          have c45b1 : (a1 != 0) = true := bne_iff_ne.mpr c45
          (first | rw [c45b0] | (simp only [i64_w, i32_w]; rw [c45b0]) | skip)
          by_cases c47 : (wrap64 ((wrap64 (t131 * a1)) + t132)) = a0
          ·rw [if_pos c47] at H
           have c47b0 : ((wrap64 ((wrap64 (t131 * a1)) + t132)) == a0) = true := beq_iff_eq.mpr c47
           have c47b1 : ((wrap64 ((wrap64 (t131 * a1)) + t132)) != a0) = false := bne_eq_false_iff_eq.mpr c47
           clear c47
           have H' := Aside0.mk H
           clear H
           go_wp2
           go_meet
           case rel => exact ⟨_, (false), (by first | rfl | (simp; done) | (simp [*]; done)), H', ⟨by have := HK1.out; have := HK2.out; first | omega | exact Nat.le_refl _⟩, ⟨bq HB.out⟩⟩
          ·rw [if_neg c47] at H
           have c47b0 : ((wrap64 ((wrap64 (t131 * a1)) + t132)) == a0) = false := beq_eq_false_iff_ne.mpr c47
           have c47b1 : ((wrap64 ((wrap64 (t131 * a1)) + t132)) != a0) = true := bne_iff_ne.mpr c47
           have H' := Aside0.mk H
           clear H
           go_wp2
           go_meet
           case rel => exact ⟨_, (true), (by first | rfl | (simp; done) | (simp [*]; done)), H', ⟨by have := HK1.out; have := HK2.out; first | omega | exact Nat.le_refl _⟩, ⟨bq HB.out⟩⟩
        case rest =>
         clear HC42
         try clear c1
         try clear p1
         try clear q1
         try clear hx1
         try clear c2
         try clear p2
         try clear c4
         try clear c6
         try clear p6
         try clear c8
         try clear c9
         try clear c9b0
         try clear c10
         try clear c10b0
         try clear c11
         try clear c11b0
         try clear p12
         try clear q12
         try clear hx12
         try clear c14
         try clear c14b0
         try clear c14b1
         try clear c22
         try clear c22b0
         try clear c23
         try clear c23b0
         try clear c24
         try clear c24b0
         try clear c27
         try clear c27b0
         try clear c27b1
         try clear c45
         try clear c45b0
         try clear c45b1
         try clear c46
         try clear c46b0
         try clear c46b1
         try clear c47
         try clear c47b0
         try clear c47b1
         try clear hcz29_0
         try clear hcz29_1
         try clear hcz35_0
         try clear hcz35_1
         try clear hfz29_0
         try clear hfz29_1
         try clear hfz35_0
         try clear hfz35_1
         try clear hx121_0
         try clear hx127_0
         try clear hx127_1
         try clear p1
         try clear p12
         try clear p121
         try clear p127
         try clear p2
         try clear p6
         try clear q1
         try clear q12
         try clear q121
         try clear q127
         obtain ⟨kq, x82_41, rfl, HA, HJ41, HB⟩ := hcut
         cases kq with
         | zero => exact absurd HA.out (by simp [rollbacknetlaw04_EvalLaws.j2])
         | succ kj41 =>
          have H := HA.out
          clear HA
          simp only [rollbacknetlaw04_EvalLaws.j2] at H
          by_cases c48 : x82_41 = true
          ·subst c48
           have H1 : (some false) = some r := by rw [if_pos rfl] at H; exact H
           clear H
           have H := H1
           clear H1
           obtain rfl := Option.some.inj H
           go_wp2
           go_ret
           exact ⟨by first | rfl | (simp [errW_none, errW_some] <;> rfl) | (simp [*, errW_none, errW_some] <;> rfl), bq HB.out⟩
          ·replace c48 := Bool.eq_false_iff.mpr c48
           subst c48
           have H1 : ((eval_Apply.f 10 a0 a1).bind fun t133 => ((eval_Apply.f 11 t133 a1).bind fun t134 => (if t134 = a0 then ((eval_Apply.f 21 a0 a1).bind fun t135 => ((rollbacknetlaw04_EvalLaws_1.f t135).bind fun t136 => ((rollbacknetlaw04_EvalLaws_1.f a0).bind fun t137 => ((rollbacknetlaw04_EvalLaws_1.f a1).bind fun t138 => ((eval_Apply.f 22 t137 t138).bind fun t139 => (if t136 = t139 then ((eval_Apply.f 8 a0 a1).bind fun t140 => ((eval_Apply.f 8 t140 a0).bind fun t141 => (if t141 = a0 then ((eval_Apply.f 15 a0 a1).bind fun t142 => ((eval_Apply.f 17 a1 a0).bind fun t143 => (some (t142 == t143)))) else (some false)))) else (some false))))))) else (some false)))) = some r := by rw [if_neg (show ¬ (false = true) by decide)] at H; exact H
           clear H
           have H := H1
           clear H1
           replace H := Option.bind_eq_some_iff.mp H
           obtain ⟨t133, A490, H⟩ := H
           replace H : ((eval_Apply.f 11 t133 a1).bind fun t134 => (if t134 = a0 then ((eval_Apply.f 21 a0 a1).bind fun t135 => ((rollbacknetlaw04_EvalLaws_1.f t135).bind fun t136 => ((rollbacknetlaw04_EvalLaws_1.f a0).bind fun t137 => ((rollbacknetlaw04_EvalLaws_1.f a1).bind fun t138 => ((eval_Apply.f 22 t137 t138).bind fun t139 => (if t136 = t139 then ((eval_Apply.f 8 a0 a1).bind fun t140 => ((eval_Apply.f 8 t140 a0).bind fun t141 => (if t141 = a0 then ((eval_Apply.f 15 a0 a1).bind fun t142 => ((eval_Apply.f 17 a1 a0).bind fun t143 => (some (t142 == t143)))) else (some false)))) else (some false))))))) else (some false))) = some r := H
           have A49 := Aside0.mk A490
           clear A490
           replace H := Option.bind_eq_some_iff.mp H
           obtain ⟨t134, A500, H⟩ := H
           replace H : (if t134 = a0 then ((eval_Apply.f 21 a0 a1).bind fun t135 => ((rollbacknetlaw04_EvalLaws_1.f t135).bind fun t136 => ((rollbacknetlaw04_EvalLaws_1.f a0).bind fun t137 => ((rollbacknetlaw04_EvalLaws_1.f a1).bind fun t138 => ((eval_Apply.f 22 t137 t138).bind fun t139 => (if t136 = t139 then ((eval_Apply.f 8 a0 a1).bind fun t140 => ((eval_Apply.f 8 t140 a0).bind fun t141 => (if t141 = a0 then ((eval_Apply.f 15 a0 a1).bind fun t142 => ((eval_Apply.f 17 a1 a0).bind fun t143 => (some (t142 == t143)))) else (some false)))) else (some false))))))) else (some false)) = some r := H
           have A50 := Aside0.mk A500
           clear A500
           by_cases c51 : t134 = a0
           ·rw [if_pos c51] at H
            have c51b0 : (t134 == a0) = true := beq_iff_eq.mpr c51
            have c51b1 : (t134 != a0) = false := bne_eq_false_iff_eq.mpr c51
            clear c51
            replace H := Option.bind_eq_some_iff.mp H
            obtain ⟨t135, A520, H⟩ := H
            replace H : ((rollbacknetlaw04_EvalLaws_1.f t135).bind fun t136 => ((rollbacknetlaw04_EvalLaws_1.f a0).bind fun t137 => ((rollbacknetlaw04_EvalLaws_1.f a1).bind fun t138 => ((eval_Apply.f 22 t137 t138).bind fun t139 => (if t136 = t139 then ((eval_Apply.f 8 a0 a1).bind fun t140 => ((eval_Apply.f 8 t140 a0).bind fun t141 => (if t141 = a0 then ((eval_Apply.f 15 a0 a1).bind fun t142 => ((eval_Apply.f 17 a1 a0).bind fun t143 => (some (t142 == t143)))) else (some false)))) else (some false)))))) = some r := H
            have A52 := Aside0.mk A520
            clear A520
            replace H := Option.bind_eq_some_iff.mp H
            obtain ⟨t136, A530, H⟩ := H
            replace H : ((rollbacknetlaw04_EvalLaws_1.f a0).bind fun t137 => ((rollbacknetlaw04_EvalLaws_1.f a1).bind fun t138 => ((eval_Apply.f 22 t137 t138).bind fun t139 => (if t136 = t139 then ((eval_Apply.f 8 a0 a1).bind fun t140 => ((eval_Apply.f 8 t140 a0).bind fun t141 => (if t141 = a0 then ((eval_Apply.f 15 a0 a1).bind fun t142 => ((eval_Apply.f 17 a1 a0).bind fun t143 => (some (t142 == t143)))) else (some false)))) else (some false))))) = some r := H
            have A53 := Aside0.mk A530
            clear A530
            replace H := Option.bind_eq_some_iff.mp H
            obtain ⟨t137, A540, H⟩ := H
            replace H : ((rollbacknetlaw04_EvalLaws_1.f a1).bind fun t138 => ((eval_Apply.f 22 t137 t138).bind fun t139 => (if t136 = t139 then ((eval_Apply.f 8 a0 a1).bind fun t140 => ((eval_Apply.f 8 t140 a0).bind fun t141 => (if t141 = a0 then ((eval_Apply.f 15 a0 a1).bind fun t142 => ((eval_Apply.f 17 a1 a0).bind fun t143 => (some (t142 == t143)))) else (some false)))) else (some false)))) = some r := H
            have A54 := Aside0.mk A540
            clear A540
            replace H := Option.bind_eq_some_iff.mp H
            obtain ⟨t138, A550, H⟩ := H
            replace H : ((eval_Apply.f 22 t137 t138).bind fun t139 => (if t136 = t139 then ((eval_Apply.f 8 a0 a1).bind fun t140 => ((eval_Apply.f 8 t140 a0).bind fun t141 => (if t141 = a0 then ((eval_Apply.f 15 a0 a1).bind fun t142 => ((eval_Apply.f 17 a1 a0).bind fun t143 => (some (t142 == t143)))) else (some false)))) else (some false))) = some r := H
            have A55 := Aside0.mk A550
            clear A550
            replace H := Option.bind_eq_some_iff.mp H
            obtain ⟨t139, A560, H⟩ := H
            replace H : (if t136 = t139 then ((eval_Apply.f 8 a0 a1).bind fun t140 => ((eval_Apply.f 8 t140 a0).bind fun t141 => (if t141 = a0 then ((eval_Apply.f 15 a0 a1).bind fun t142 => ((eval_Apply.f 17 a1 a0).bind fun t143 => (some (t142 == t143)))) else (some false)))) else (some false)) = some r := H
            have A56 := Aside0.mk A560
            clear A560
            by_cases c57 : t136 = t139
            ·rw [if_pos c57] at H
             have c57b0 : (t136 == t139) = true := beq_iff_eq.mpr c57
             have c57b1 : (t136 != t139) = false := bne_eq_false_iff_eq.mpr c57
             clear c57
             replace H := Option.bind_eq_some_iff.mp H
             obtain ⟨t140, A580, H⟩ := H
             replace H : ((eval_Apply.f 8 t140 a0).bind fun t141 => (if t141 = a0 then ((eval_Apply.f 15 a0 a1).bind fun t142 => ((eval_Apply.f 17 a1 a0).bind fun t143 => (some (t142 == t143)))) else (some false))) = some r := H
             have A58 := Aside0.mk A580
             clear A580
             replace H := Option.bind_eq_some_iff.mp H
             obtain ⟨t141, A590, H⟩ := H
             replace H : (if t141 = a0 then ((eval_Apply.f 15 a0 a1).bind fun t142 => ((eval_Apply.f 17 a1 a0).bind fun t143 => (some (t142 == t143)))) else (some false)) = some r := H
             have A59 := Aside0.mk A590
             clear A590
             by_cases c60 : t141 = a0
             ·rw [if_pos c60] at H
              have c60b0 : (t141 == a0) = true := beq_iff_eq.mpr c60
              have c60b1 : (t141 != a0) = false := bne_eq_false_iff_eq.mpr c60
              clear c60
              replace H := Option.bind_eq_some_iff.mp H
              obtain ⟨t142, A610, H⟩ := H
              replace H : ((eval_Apply.f 17 a1 a0).bind fun t143 => (some (t142 == t143))) = some r := H
              have A61 := Aside0.mk A610
              clear A610
              replace H := Option.bind_eq_some_iff.mp H
              obtain ⟨t143, A620, H⟩ := H
              replace H : (some (t142 == t143)) = some r := H
              have A62 := Aside0.mk A620
              clear A620
              obtain rfl := Option.some.inj H
              go_wp2_with (first | ((with_reducible refine gate_callee (f := 8) rfl ?_); refine goesL_ (some 85) rfl rfl Try.func8 (by kernel_rfl) rfl #[.int .i64 10, .int .i64 a0, .int .i64 a1] rfl (by (try simp only [List.map_toArray, List.map_cons, List.map_nil]); first | done | rfl | (simp only [List.length_drop, List.length_take]; rfl)) ?_; (with_reducible refine (eval_Apply.calls 10 a0 a1 t133 _ A49.out).mono ?_); rintro e w63 ⟨rfl, hb⟩; refine ⟨_, rfl, ?_⟩; have n0_ := Aside0.mk (below_step (bq HB.out) hb); clear HB; have HB := n0_; clear n0_; (try clear hb); (try clear hb2); (try clear hk); (try clear hi)) | ((with_reducible refine gate_callee (f := 8) rfl ?_); refine goesL_ (some 87) rfl rfl Try.func8 (by kernel_rfl) rfl #[.int .i64 11, .int .i64 t133, .int .i64 a1] rfl (by (try simp only [List.map_toArray, List.map_cons, List.map_nil]); first | done | rfl | (simp only [List.length_drop, List.length_take]; rfl)) ?_; (with_reducible refine (eval_Apply.calls 11 t133 a1 t134 _ A50.out).mono ?_); rintro e w64 ⟨rfl, hb⟩; refine ⟨_, rfl, ?_⟩; have n0_ := Aside0.mk (below_step (bq HB.out) hb); clear HB; have HB := n0_; clear n0_; (try clear hb); (try clear hb2); (try clear hk); (try clear hi)) | (go_at_call 8; (with_reducible refine (eval_Apply.calls 21 a0 a1 t135 _ A52.out).mono ?_); rintro e w65 ⟨rfl, hb⟩; have n0_ := Aside0.mk (below_step (bq HB.out) hb); clear HB; have HB := n0_; clear n0_; (try clear hb); (try clear hb2); (try clear hk); (try clear hi)) | (go_at_call 10; (with_reducible refine (rollbacknetlaw04_EvalLaws_1.calls t135 t136 _ A53.out).mono ?_); rintro e w66 ⟨rfl, hb⟩; have n0_ := Aside0.mk (below_step (bq HB.out) hb); clear HB; have HB := n0_; clear n0_; (try clear hb); (try clear hb2); (try clear hk); (try clear hi)) | (go_at_call 10; (with_reducible refine (rollbacknetlaw04_EvalLaws_1.calls a0 t137 _ A54.out).mono ?_); rintro e w67 ⟨rfl, hb⟩; have n0_ := Aside0.mk (below_step (bq HB.out) hb); clear HB; have HB := n0_; clear n0_; (try clear hb); (try clear hb2); (try clear hk); (try clear hi)) | (go_at_call 10; (with_reducible refine (rollbacknetlaw04_EvalLaws_1.calls a1 t138 _ A55.out).mono ?_); rintro e w68 ⟨rfl, hb⟩; have n0_ := Aside0.mk (below_step (bq HB.out) hb); clear HB; have HB := n0_; clear n0_; (try clear hb); (try clear hb2); (try clear hk); (try clear hi)) | (go_at_call 8; (with_reducible refine (eval_Apply.calls 22 t137 t138 t139 _ A56.out).mono ?_); rintro e w69 ⟨rfl, hb⟩; have n0_ := Aside0.mk (below_step (bq HB.out) hb); clear HB; have HB := n0_; clear n0_; (try clear hb); (try clear hb2); (try clear hk); (try clear hi)) | (go_at_call 8; (with_reducible refine (eval_Apply.calls 8 a0 a1 t140 _ A58.out).mono ?_); rintro e w70 ⟨rfl, hb⟩; have n0_ := Aside0.mk (below_step (bq HB.out) hb); clear HB; have HB := n0_; clear n0_; (try clear hb); (try clear hb2); (try clear hk); (try clear hi)) | (go_at_call 8; (with_reducible refine (eval_Apply.calls 8 t140 a0 t141 _ A59.out).mono ?_); rintro e w71 ⟨rfl, hb⟩; have n0_ := Aside0.mk (below_step (bq HB.out) hb); clear HB; have HB := n0_; clear n0_; (try clear hb); (try clear hb2); (try clear hk); (try clear hi)) | (go_at_call 8; (with_reducible refine (eval_Apply.calls 15 a0 a1 t142 _ A61.out).mono ?_); rintro e w72 ⟨rfl, hb⟩; have n0_ := Aside0.mk (below_step (bq HB.out) hb); clear HB; have HB := n0_; clear n0_; (try clear hb); (try clear hb2); (try clear hk); (try clear hi)) | (go_at_call 8; (with_reducible refine (eval_Apply.calls 17 a1 a0 t143 _ A62.out).mono ?_); rintro e w73 ⟨rfl, hb⟩; have n0_ := Aside0.mk (below_step (bq HB.out) hb); clear HB; have HB := n0_; clear n0_; (try clear hb); (try clear hb2); (try clear hk); (try clear hi)))
              go_ret
              exact ⟨by first | rfl | (simp [errW_none, errW_some] <;> rfl) | (simp [*, errW_none, errW_some] <;> rfl), bq HB.out⟩
             ·rw [if_neg c60] at H
              have c60b0 : (t141 == a0) = false := beq_eq_false_iff_ne.mpr c60
              have c60b1 : (t141 != a0) = true := bne_iff_ne.mpr c60
              obtain rfl := Option.some.inj H
              go_wp2_with (first | ((with_reducible refine gate_callee (f := 8) rfl ?_); refine goesL_ (some 85) rfl rfl Try.func8 (by kernel_rfl) rfl #[.int .i64 10, .int .i64 a0, .int .i64 a1] rfl (by (try simp only [List.map_toArray, List.map_cons, List.map_nil]); first | done | rfl | (simp only [List.length_drop, List.length_take]; rfl)) ?_; (with_reducible refine (eval_Apply.calls 10 a0 a1 t133 _ A49.out).mono ?_); rintro e w74 ⟨rfl, hb⟩; refine ⟨_, rfl, ?_⟩; have n0_ := Aside0.mk (below_step (bq HB.out) hb); clear HB; have HB := n0_; clear n0_; (try clear hb); (try clear hb2); (try clear hk); (try clear hi)) | ((with_reducible refine gate_callee (f := 8) rfl ?_); refine goesL_ (some 87) rfl rfl Try.func8 (by kernel_rfl) rfl #[.int .i64 11, .int .i64 t133, .int .i64 a1] rfl (by (try simp only [List.map_toArray, List.map_cons, List.map_nil]); first | done | rfl | (simp only [List.length_drop, List.length_take]; rfl)) ?_; (with_reducible refine (eval_Apply.calls 11 t133 a1 t134 _ A50.out).mono ?_); rintro e w75 ⟨rfl, hb⟩; refine ⟨_, rfl, ?_⟩; have n0_ := Aside0.mk (below_step (bq HB.out) hb); clear HB; have HB := n0_; clear n0_; (try clear hb); (try clear hb2); (try clear hk); (try clear hi)) | (go_at_call 8; (with_reducible refine (eval_Apply.calls 21 a0 a1 t135 _ A52.out).mono ?_); rintro e w76 ⟨rfl, hb⟩; have n0_ := Aside0.mk (below_step (bq HB.out) hb); clear HB; have HB := n0_; clear n0_; (try clear hb); (try clear hb2); (try clear hk); (try clear hi)) | (go_at_call 10; (with_reducible refine (rollbacknetlaw04_EvalLaws_1.calls t135 t136 _ A53.out).mono ?_); rintro e w77 ⟨rfl, hb⟩; have n0_ := Aside0.mk (below_step (bq HB.out) hb); clear HB; have HB := n0_; clear n0_; (try clear hb); (try clear hb2); (try clear hk); (try clear hi)) | (go_at_call 10; (with_reducible refine (rollbacknetlaw04_EvalLaws_1.calls a0 t137 _ A54.out).mono ?_); rintro e w78 ⟨rfl, hb⟩; have n0_ := Aside0.mk (below_step (bq HB.out) hb); clear HB; have HB := n0_; clear n0_; (try clear hb); (try clear hb2); (try clear hk); (try clear hi)) | (go_at_call 10; (with_reducible refine (rollbacknetlaw04_EvalLaws_1.calls a1 t138 _ A55.out).mono ?_); rintro e w79 ⟨rfl, hb⟩; have n0_ := Aside0.mk (below_step (bq HB.out) hb); clear HB; have HB := n0_; clear n0_; (try clear hb); (try clear hb2); (try clear hk); (try clear hi)) | (go_at_call 8; (with_reducible refine (eval_Apply.calls 22 t137 t138 t139 _ A56.out).mono ?_); rintro e w80 ⟨rfl, hb⟩; have n0_ := Aside0.mk (below_step (bq HB.out) hb); clear HB; have HB := n0_; clear n0_; (try clear hb); (try clear hb2); (try clear hk); (try clear hi)) | (go_at_call 8; (with_reducible refine (eval_Apply.calls 8 a0 a1 t140 _ A58.out).mono ?_); rintro e w81 ⟨rfl, hb⟩; have n0_ := Aside0.mk (below_step (bq HB.out) hb); clear HB; have HB := n0_; clear n0_; (try clear hb); (try clear hb2); (try clear hk); (try clear hi)) | (go_at_call 8; (with_reducible refine (eval_Apply.calls 8 t140 a0 t141 _ A59.out).mono ?_); rintro e w82 ⟨rfl, hb⟩; have n0_ := Aside0.mk (below_step (bq HB.out) hb); clear HB; have HB := n0_; clear n0_; (try clear hb); (try clear hb2); (try clear hk); (try clear hi)))
              go_ret
              exact ⟨by first | rfl | (simp [errW_none, errW_some] <;> rfl) | (simp [*, errW_none, errW_some] <;> rfl), bq HB.out⟩
            ·rw [if_neg c57] at H
             have c57b0 : (t136 == t139) = false := beq_eq_false_iff_ne.mpr c57
             have c57b1 : (t136 != t139) = true := bne_iff_ne.mpr c57
             obtain rfl := Option.some.inj H
             go_wp2_with (first | ((with_reducible refine gate_callee (f := 8) rfl ?_); refine goesL_ (some 85) rfl rfl Try.func8 (by kernel_rfl) rfl #[.int .i64 10, .int .i64 a0, .int .i64 a1] rfl (by (try simp only [List.map_toArray, List.map_cons, List.map_nil]); first | done | rfl | (simp only [List.length_drop, List.length_take]; rfl)) ?_; (with_reducible refine (eval_Apply.calls 10 a0 a1 t133 _ A49.out).mono ?_); rintro e w83 ⟨rfl, hb⟩; refine ⟨_, rfl, ?_⟩; have n0_ := Aside0.mk (below_step (bq HB.out) hb); clear HB; have HB := n0_; clear n0_; (try clear hb); (try clear hb2); (try clear hk); (try clear hi)) | ((with_reducible refine gate_callee (f := 8) rfl ?_); refine goesL_ (some 87) rfl rfl Try.func8 (by kernel_rfl) rfl #[.int .i64 11, .int .i64 t133, .int .i64 a1] rfl (by (try simp only [List.map_toArray, List.map_cons, List.map_nil]); first | done | rfl | (simp only [List.length_drop, List.length_take]; rfl)) ?_; (with_reducible refine (eval_Apply.calls 11 t133 a1 t134 _ A50.out).mono ?_); rintro e w84 ⟨rfl, hb⟩; refine ⟨_, rfl, ?_⟩; have n0_ := Aside0.mk (below_step (bq HB.out) hb); clear HB; have HB := n0_; clear n0_; (try clear hb); (try clear hb2); (try clear hk); (try clear hi)) | (go_at_call 8; (with_reducible refine (eval_Apply.calls 21 a0 a1 t135 _ A52.out).mono ?_); rintro e w85 ⟨rfl, hb⟩; have n0_ := Aside0.mk (below_step (bq HB.out) hb); clear HB; have HB := n0_; clear n0_; (try clear hb); (try clear hb2); (try clear hk); (try clear hi)) | (go_at_call 10; (with_reducible refine (rollbacknetlaw04_EvalLaws_1.calls t135 t136 _ A53.out).mono ?_); rintro e w86 ⟨rfl, hb⟩; have n0_ := Aside0.mk (below_step (bq HB.out) hb); clear HB; have HB := n0_; clear n0_; (try clear hb); (try clear hb2); (try clear hk); (try clear hi)) | (go_at_call 10; (with_reducible refine (rollbacknetlaw04_EvalLaws_1.calls a0 t137 _ A54.out).mono ?_); rintro e w87 ⟨rfl, hb⟩; have n0_ := Aside0.mk (below_step (bq HB.out) hb); clear HB; have HB := n0_; clear n0_; (try clear hb); (try clear hb2); (try clear hk); (try clear hi)) | (go_at_call 10; (with_reducible refine (rollbacknetlaw04_EvalLaws_1.calls a1 t138 _ A55.out).mono ?_); rintro e w88 ⟨rfl, hb⟩; have n0_ := Aside0.mk (below_step (bq HB.out) hb); clear HB; have HB := n0_; clear n0_; (try clear hb); (try clear hb2); (try clear hk); (try clear hi)) | (go_at_call 8; (with_reducible refine (eval_Apply.calls 22 t137 t138 t139 _ A56.out).mono ?_); rintro e w89 ⟨rfl, hb⟩; have n0_ := Aside0.mk (below_step (bq HB.out) hb); clear HB; have HB := n0_; clear n0_; (try clear hb); (try clear hb2); (try clear hk); (try clear hi)))
             go_ret
             exact ⟨by first | rfl | (simp [errW_none, errW_some] <;> rfl) | (simp [*, errW_none, errW_some] <;> rfl), bq HB.out⟩
           ·rw [if_neg c51] at H
            have c51b0 : (t134 == a0) = false := beq_eq_false_iff_ne.mpr c51
            have c51b1 : (t134 != a0) = true := bne_iff_ne.mpr c51
            obtain rfl := Option.some.inj H
            go_wp2_with (first | ((with_reducible refine gate_callee (f := 8) rfl ?_); refine goesL_ (some 85) rfl rfl Try.func8 (by kernel_rfl) rfl #[.int .i64 10, .int .i64 a0, .int .i64 a1] rfl (by (try simp only [List.map_toArray, List.map_cons, List.map_nil]); first | done | rfl | (simp only [List.length_drop, List.length_take]; rfl)) ?_; (with_reducible refine (eval_Apply.calls 10 a0 a1 t133 _ A49.out).mono ?_); rintro e w90 ⟨rfl, hb⟩; refine ⟨_, rfl, ?_⟩; have n0_ := Aside0.mk (below_step (bq HB.out) hb); clear HB; have HB := n0_; clear n0_; (try clear hb); (try clear hb2); (try clear hk); (try clear hi)) | ((with_reducible refine gate_callee (f := 8) rfl ?_); refine goesL_ (some 87) rfl rfl Try.func8 (by kernel_rfl) rfl #[.int .i64 11, .int .i64 t133, .int .i64 a1] rfl (by (try simp only [List.map_toArray, List.map_cons, List.map_nil]); first | done | rfl | (simp only [List.length_drop, List.length_take]; rfl)) ?_; (with_reducible refine (eval_Apply.calls 11 t133 a1 t134 _ A50.out).mono ?_); rintro e w91 ⟨rfl, hb⟩; refine ⟨_, rfl, ?_⟩; have n0_ := Aside0.mk (below_step (bq HB.out) hb); clear HB; have HB := n0_; clear n0_; (try clear hb); (try clear hb2); (try clear hk); (try clear hi)))
            go_ret
            exact ⟨by first | rfl | (simp [errW_none, errW_some] <;> rfl) | (simp [*, errW_none, errW_some] <;> rfl), bq HB.out⟩
 ·replace c4 := Bool.eq_false_iff.mpr c4
  subst c4
  have H1 : (some false) = some r := by rw [if_neg (show ¬ (false = true) by decide)] at H; exact H
  clear H
  have H := H1
  clear H1
  obtain rfl := Option.some.inj H
  go_enter Try.func4, Try.ntmps4
  go_wp2_with (first | ((with_reducible refine gate_callee (f := 6) rfl ?_); refine goesL_ (some 13) rfl rfl Try.func6 (by kernel_rfl) rfl #[] rfl (by (try simp only [List.map_toArray, List.map_cons, List.map_nil]); first | done | rfl | (simp only [List.length_drop, List.length_take]; rfl)) ?_; (with_reducible refine (rollbacknetlaw04_awake.calls k  false _ A3.out).mono ?_); rintro e w92 ⟨rfl, hb⟩; refine ⟨_, rfl, ?_⟩; have n0_ := Aside0.mk (below_step (bq HB.out) hb); clear HB; have HB := n0_; clear n0_; (try clear hb); (try clear hb2); (try clear hk); (try clear hi)))
  go_ret
  exact ⟨by first | rfl | (simp [errW_none, errW_some] <;> rfl) | (simp [*, errW_none, errW_some] <;> rfl), bq HB.out⟩

/-- THE ONE PURE STATEMENT of rollbacknetlaw04_EvalLaws. -/
def rollbacknetlaw04_EvalLaws.Pure : Prop := ∀ (p0 : Int) (p1 : Int), (okInt .i64) p0 → (okInt .i64) p1 → ∃ k, rollbacknetlaw04_EvalLaws.f k p0 p1 = some true

end Go.Proofs.Ytpklmllikcdacaa.PT04
