-- Written by a program of this session (hprint.py) out of the translation and of hand-proved parts. Lean checks it.
import Derived.Test.YtdobkcphmpbhlaaPGLx0
import Derived.Test.YtdobkcphmpbhlaaPGLx3
import Derived.Test.YtdobkcphmpbhlaaPGLx4
namespace Go.Proofs.Ytdobkcphmpbhlaa.PGL
open Go.RowKit Go.Proofs.YtdobkcphmpbhlaaW.PrintWords Go.Proofs.YtdobkcphmpbhlaaW.PrintLast Go.Proofs.YtdobkcphmpbhlaaW.PrintMore
attribute [local go_sem] max2_int min2_int max_two min_two max_three min_three max_four min_four   -- for this text's walks alone
set_option linter.unusedVariables false
set_option linter.unusedSimpArgs false

/-! ### rollbacknetlaw27_awake: function 4 -/
def rollbacknetlaw27_awake.f (k : Nat)  : Option (Bool) := (some (([(⟨2, 0, 0, (⟨0, 0⟩ : S24), 0, 0⟩ : S26), (⟨2, 0, 0, (⟨0, 0⟩ : S24), 0, 1⟩ : S26), (⟨3, 0, 0, (⟨0, 0⟩ : S24), 0, 0⟩ : S26)] : List (S26)) : List (S26))).bind fun y108 => ((determinant_Lineage.f k 1 y108).bind fun t111 => (if (t111.length : Int) = 3 then (if 2 < (t111.length : Int) then (if ((rd_T28 t111 2).f1) = 3 then (if 0 < (t111.length : Int) then ((determinant_Restorable.f 1 y108 (([0, 2] : List Int)) (([(⟨(rd_T28 t111 0).f0, (rd_T28 t111 0).f1, (⟨(rd_T28 t111 0).f2.f0, (rd_T28 t111 0).f2.f1, (rd_T28 t111 0).f2.f2, (⟨(rd_T28 t111 0).f2.f3.f0, (rd_T28 t111 0).f2.f3.f1⟩ : S24), (rd_T28 t111 0).f2.f4, (rd_T28 t111 0).f2.f5⟩ : S26)⟩ : S28), (⟨(rd_T28 t111 2).f0, (rd_T28 t111 2).f1, (⟨(rd_T28 t111 2).f2.f0, (rd_T28 t111 2).f2.f1, (rd_T28 t111 2).f2.f2, (⟨(rd_T28 t111 2).f2.f3.f0, (rd_T28 t111 2).f2.f3.f1⟩ : S24), (rd_T28 t111 2).f2.f4, (rd_T28 t111 2).f2.f5⟩ : S26)⟩ : S28)] : List (S28)))).bind fun t123 => ((rollbacknetref23_SameInts.f k t123 (([0, 1, 2, 3] : List Int))).bind fun t129 => (if t129 = true then (if 1 ≤ (t111.length : Int) then ((determinant_Restorable.f 1 y108 (([0, 2] : List Int)) (t111.take 1)).bind fun t137 => ((rollbacknetref23_SameInts.f k t137 (([0, 1, 2] : List Int))).bind fun t143 => (some t143))) else (none)) else (some false)))) else (none)) else (some false)) else (none)) else (some false)))
theorem rollbacknetlaw27_awake.mono : ∀ k, LeO (rollbacknetlaw27_awake.f k ) (rollbacknetlaw27_awake.f (k + 1) ) := by
 intro  k
 unfold rollbacknetlaw27_awake.f
 repeat' first
   | (with_reducible exact determinant_Lineage.mono _ _ _)
   | (with_reducible exact rollbacknetref23_SameInts.mono _ _ _)
   | (with_reducible exact LeO.refl _)
   | (with_reducible exact LeO.none _)
   | (with_reducible refine LeO.ite ?_ ?_)
   | (with_reducible refine LeO.bind ?_ (fun _ => ?_))
   | exact determinant_Lineage.mono _ _ _
   | exact rollbacknetref23_SameInts.mono _ _ _
   | exact LeO.none _
   | refine LeO.ite ?_ ?_
   | refine LeO.bind ?_ (fun _ => ?_)
def rollbacknetlaw27_awake.T3 : Bool × List (List Nat × List Nat) := (true, [([], []), ([0], [0]), ([1], [1]), ([2], [2]), ([3], [3]), ([4, 3], [3, 4]), ([5, 3], [3, 5]), ([6, 3], [3, 6]), ([7, 3], [3, 7]), ([3, 8], [3, 8]), ([9, 3], [9]), ([10], [10]), ([10], [10]), ([10], [10]), ([13, 10], [10, 13]), ([14, 10], [10, 14]), ([10], [10]), ([16, 10], [10, 16]), ([17, 10], [10, 17]), ([15, 18, 10], [10, 15, 18]), ([11, 12, 19, 10, 10], [10, 11, 12, 19]), ([10], [10]), ([20, 21, 20, 10], [10, 20, 21]), ([10, 22], [10, 22]), ([23, 22], [23]), ([24], [24]), ([24], [24]), ([24], [24]), ([27, 24], [24, 27]), ([25, 26, 28, 24, 24], [24, 25, 26, 28]), ([24], [24]), ([29, 30, 29, 24], [24, 29, 30]), ([24, 31], [24, 31]), ([32, 31, 0, 1, 2, 3, 4, 5, 6, 7, 8, 9, 10, 11, 12, 13, 14, 15, 16, 17, 18, 19, 20, 21, 22, 23, 24, 25, 26, 27, 28, 29, 30, 31, 32], [32])])
def rollbacknetlaw27_awake.B3 : List Nat := [0, 1, 3, 7, 15, 31, 63, 127, 255, 511, 1023, 2047, 2047, 2047, 10239, 26623, 2047, 67583, 198655, 518143, 1048575, 2047, 4194303, 8388607, 16777215, 33554431, 33554431, 33554431, 167772159, 536870911, 33554431, 2147483647, 4294967295, 8589934591]
theorem rollbacknetlaw27_awake.tab3 : rtab .any (opsOf Try.f4 3) = rollbacknetlaw27_awake.T3 := by kernel_rfl
theorem rollbacknetlaw27_awake.bits3 : waitsOk rollbacknetlaw27_awake.T3.2 rollbacknetlaw27_awake.B3 = true := by kernel_rfl
theorem rollbacknetlaw27_awake.only {k : Nat} {r : Bool} (h : rollbacknetlaw27_awake.f k = some r) : r = true := by
 obtain ⟨K1, e1⟩ : Ev rollbacknetlaw27_awake.f true := Ev.of rollbacknetlaw27_awake.mono (k := 12) (by kernel_rfl)
 obtain ⟨K2, e2⟩ : Ev rollbacknetlaw27_awake.f r := Ev.of rollbacknetlaw27_awake.mono h
 have h1 := e1 (max K1 K2) (Nat.le_max_left _ _)
 rw [e2 (max K1 K2) (Nat.le_max_right _ _)] at h1
 exact Option.some.inj h1
set_option maxHeartbeats 8000000 in
set_option maxRecDepth 100000 in
theorem rollbacknetlaw27_awake.calls (k : Nat)  (r : Bool) (w : World) (h : rollbacknetlaw27_awake.f k  = some r) :
  Calls Try.prog 4 #[] w fun e w' => e = .returned (.bool r) ∧ Below w.heap.size w w' := by
 have HRT := Aside0.mk (rollbacknetlaw27_awake.only h)
 have hu26 := Try.underlying26
 have hu28 := Try.underlying28
 have HB := Aside0.mk (Below.refl w.heap.size w)
 have H : ((some (([(⟨2, 0, 0, (⟨0, 0⟩ : S24), 0, 0⟩ : S26), (⟨2, 0, 0, (⟨0, 0⟩ : S24), 0, 1⟩ : S26), (⟨3, 0, 0, (⟨0, 0⟩ : S24), 0, 0⟩ : S26)] : List (S26)) : List (S26))).bind fun y108 => ((determinant_Lineage.f k 1 y108).bind fun t111 => (if (t111.length : Int) = 3 then (if 2 < (t111.length : Int) then (if ((rd_T28 t111 2).f1) = 3 then (if 0 < (t111.length : Int) then ((determinant_Restorable.f 1 y108 (([0, 2] : List Int)) (([(⟨(rd_T28 t111 0).f0, (rd_T28 t111 0).f1, (⟨(rd_T28 t111 0).f2.f0, (rd_T28 t111 0).f2.f1, (rd_T28 t111 0).f2.f2, (⟨(rd_T28 t111 0).f2.f3.f0, (rd_T28 t111 0).f2.f3.f1⟩ : S24), (rd_T28 t111 0).f2.f4, (rd_T28 t111 0).f2.f5⟩ : S26)⟩ : S28), (⟨(rd_T28 t111 2).f0, (rd_T28 t111 2).f1, (⟨(rd_T28 t111 2).f2.f0, (rd_T28 t111 2).f2.f1, (rd_T28 t111 2).f2.f2, (⟨(rd_T28 t111 2).f2.f3.f0, (rd_T28 t111 2).f2.f3.f1⟩ : S24), (rd_T28 t111 2).f2.f4, (rd_T28 t111 2).f2.f5⟩ : S26)⟩ : S28)] : List (S28)))).bind fun t123 => ((rollbacknetref23_SameInts.f k t123 (([0, 1, 2, 3] : List Int))).bind fun t129 => (if t129 = true then (if 1 ≤ (t111.length : Int) then ((determinant_Restorable.f 1 y108 (([0, 2] : List Int)) (t111.take 1)).bind fun t137 => ((rollbacknetref23_SameInts.f k t137 (([0, 1, 2] : List Int))).bind fun t143 => (some t143))) else (none)) else (some false)))) else (none)) else (some false)) else (none)) else (some false)))) = some r := h
 clear h
 obtain ⟨y108, hy108⟩ : ∃ y_ : List (S26), y_ = (([(⟨2, 0, 0, (⟨0, 0⟩ : S24), 0, 0⟩ : S26), (⟨2, 0, 0, (⟨0, 0⟩ : S24), 0, 1⟩ : S26), (⟨3, 0, 0, (⟨0, 0⟩ : S24), 0, 0⟩ : S26)] : List (S26))) := ⟨_, rfl⟩
 replace H : ((determinant_Lineage.f k 1 y108).bind fun t111 => (if (t111.length : Int) = 3 then (if 2 < (t111.length : Int) then (if ((rd_T28 t111 2).f1) = 3 then (if 0 < (t111.length : Int) then ((determinant_Restorable.f 1 y108 (([0, 2] : List Int)) (([(⟨(rd_T28 t111 0).f0, (rd_T28 t111 0).f1, (⟨(rd_T28 t111 0).f2.f0, (rd_T28 t111 0).f2.f1, (rd_T28 t111 0).f2.f2, (⟨(rd_T28 t111 0).f2.f3.f0, (rd_T28 t111 0).f2.f3.f1⟩ : S24), (rd_T28 t111 0).f2.f4, (rd_T28 t111 0).f2.f5⟩ : S26)⟩ : S28), (⟨(rd_T28 t111 2).f0, (rd_T28 t111 2).f1, (⟨(rd_T28 t111 2).f2.f0, (rd_T28 t111 2).f2.f1, (rd_T28 t111 2).f2.f2, (⟨(rd_T28 t111 2).f2.f3.f0, (rd_T28 t111 2).f2.f3.f1⟩ : S24), (rd_T28 t111 2).f2.f4, (rd_T28 t111 2).f2.f5⟩ : S26)⟩ : S28)] : List (S28)))).bind fun t123 => ((rollbacknetref23_SameInts.f k t123 (([0, 1, 2, 3] : List Int))).bind fun t129 => (if t129 = true then (if 1 ≤ (t111.length : Int) then ((determinant_Restorable.f 1 y108 (([0, 2] : List Int)) (t111.take 1)).bind fun t137 => ((rollbacknetref23_SameInts.f k t137 (([0, 1, 2] : List Int))).bind fun t143 => (some t143))) else (none)) else (some false)))) else (none)) else (some false)) else (none)) else (some false))) = some r := by first | (rw [hy108]; with_reducible exact H) | (have H2_ := (Option.bind_some _ _).symm.trans H; rw [hy108]; with_reducible exact H2_) | (have H2_ := (Option.bind_some _ _).symm.trans H; with_reducible exact H2_) | with_reducible exact H | (rw [hy108]; exact H) | exact H
 have Ny108 := Aside0.mk hy108
 clear hy108
 obtain ⟨t111, A1, H⟩ := bnd H
 by_cases c2 : (t111.length : Int) = 3
 ·(
 rw [if_pos c2] at H
 have c2b0 : ((t111.length : Int) == 3) = true := beq_iff_eq.mpr c2
 have c2b1 : ((t111.length : Int) != 3) = false := bne_eq_false_iff_eq.mpr c2
 clear c2
 by_cases c3 : 2 < (t111.length : Int)
 ·(
 rw [if_pos c3] at H
 have c3b0 : decide (2 < (t111.length : Int)) = true := decide_eq_true c3
 have c3b1 : decide (2 < t111.length) = true := decide_eq_true (by omega)
 clear c3
 by_cases c4 : ((rd_T28 t111 2).f1) = 3
 ·(
 rw [if_pos c4] at H
 have c4b0 : (((rd_T28 t111 2).f1) == 3) = true := beq_iff_eq.mpr c4
 have c4b1 : (((rd_T28 t111 2).f1) != 3) = false := bne_eq_false_iff_eq.mpr c4
 clear c4
 obtain ⟨y115, hy115⟩ : ∃ y_ : List Int, y_ = (([0, 2] : List Int)) := ⟨_, rfl⟩
 replace H : (if 0 < (t111.length : Int) then ((determinant_Restorable.f 1 y108 y115 (([(⟨(rd_T28 t111 0).f0, (rd_T28 t111 0).f1, (⟨(rd_T28 t111 0).f2.f0, (rd_T28 t111 0).f2.f1, (rd_T28 t111 0).f2.f2, (⟨(rd_T28 t111 0).f2.f3.f0, (rd_T28 t111 0).f2.f3.f1⟩ : S24), (rd_T28 t111 0).f2.f4, (rd_T28 t111 0).f2.f5⟩ : S26)⟩ : S28), (⟨(rd_T28 t111 2).f0, (rd_T28 t111 2).f1, (⟨(rd_T28 t111 2).f2.f0, (rd_T28 t111 2).f2.f1, (rd_T28 t111 2).f2.f2, (⟨(rd_T28 t111 2).f2.f3.f0, (rd_T28 t111 2).f2.f3.f1⟩ : S24), (rd_T28 t111 2).f2.f4, (rd_T28 t111 2).f2.f5⟩ : S26)⟩ : S28)] : List (S28)))).bind fun t123 => ((rollbacknetref23_SameInts.f k t123 (([0, 1, 2, 3] : List Int))).bind fun t129 => (if t129 = true then (if 1 ≤ (t111.length : Int) then ((determinant_Restorable.f 1 y108 (([0, 2] : List Int)) (t111.take 1)).bind fun t137 => ((rollbacknetref23_SameInts.f k t137 (([0, 1, 2] : List Int))).bind fun t143 => (some t143))) else (none)) else (some false)))) else (none)) = some r := by first | (rw [hy115]; with_reducible exact H) | (have H2_ := (Option.bind_some _ _).symm.trans H; rw [hy115]; with_reducible exact H2_) | (have H2_ := (Option.bind_some _ _).symm.trans H; with_reducible exact H2_) | with_reducible exact H | (rw [hy115]; exact H) | exact H
 have Ny115 := Aside0.mk hy115
 clear hy115
 by_cases c5 : 0 < (t111.length : Int)
 ·(
 rw [if_pos c5] at H
 have c5b0 : decide (0 < (t111.length : Int)) = true := decide_eq_true c5
 have c5b1 : decide (0 < t111.length) = true := decide_eq_true (by omega)
 clear c5
 obtain ⟨y120, hy120⟩ : ∃ y_ : List (S28), y_ = (([(⟨(rd_T28 t111 0).f0, (rd_T28 t111 0).f1, (⟨(rd_T28 t111 0).f2.f0, (rd_T28 t111 0).f2.f1, (rd_T28 t111 0).f2.f2, (⟨(rd_T28 t111 0).f2.f3.f0, (rd_T28 t111 0).f2.f3.f1⟩ : S24), (rd_T28 t111 0).f2.f4, (rd_T28 t111 0).f2.f5⟩ : S26)⟩ : S28), (⟨(rd_T28 t111 2).f0, (rd_T28 t111 2).f1, (⟨(rd_T28 t111 2).f2.f0, (rd_T28 t111 2).f2.f1, (rd_T28 t111 2).f2.f2, (⟨(rd_T28 t111 2).f2.f3.f0, (rd_T28 t111 2).f2.f3.f1⟩ : S24), (rd_T28 t111 2).f2.f4, (rd_T28 t111 2).f2.f5⟩ : S26)⟩ : S28)] : List (S28))) := ⟨_, rfl⟩
 replace H : ((determinant_Restorable.f 1 y108 y115 y120).bind fun t123 => ((rollbacknetref23_SameInts.f k t123 (([0, 1, 2, 3] : List Int))).bind fun t129 => (if t129 = true then (if 1 ≤ (t111.length : Int) then ((determinant_Restorable.f 1 y108 (([0, 2] : List Int)) (t111.take 1)).bind fun t137 => ((rollbacknetref23_SameInts.f k t137 (([0, 1, 2] : List Int))).bind fun t143 => (some t143))) else (none)) else (some false)))) = some r := by first | (rw [hy120]; with_reducible exact H) | (have H2_ := (Option.bind_some _ _).symm.trans H; rw [hy120]; with_reducible exact H2_) | (have H2_ := (Option.bind_some _ _).symm.trans H; with_reducible exact H2_) | with_reducible exact H | (rw [hy120]; exact H) | exact H
 have Ny120 := Aside0.mk hy120
 clear hy120
 obtain ⟨t123, A6, H⟩ := bnd H
 obtain ⟨y126, hy126⟩ : ∃ y_ : List Int, y_ = (([0, 1, 2, 3] : List Int)) := ⟨_, rfl⟩
 replace H : ((rollbacknetref23_SameInts.f k t123 y126).bind fun t129 => (if t129 = true then (if 1 ≤ (t111.length : Int) then ((determinant_Restorable.f 1 y108 (([0, 2] : List Int)) (t111.take 1)).bind fun t137 => ((rollbacknetref23_SameInts.f k t137 (([0, 1, 2] : List Int))).bind fun t143 => (some t143))) else (none)) else (some false))) = some r := by first | (rw [hy126]; with_reducible exact H) | (have H2_ := (Option.bind_some _ _).symm.trans H; rw [hy126]; with_reducible exact H2_) | (have H2_ := (Option.bind_some _ _).symm.trans H; with_reducible exact H2_) | with_reducible exact H | (rw [hy126]; exact H) | exact H
 have Ny126 := Aside0.mk hy126
 clear hy126
 obtain ⟨t129, A7, H⟩ := bnd H
 by_cases c8 : t129 = true
 ·(
 subst c8
 replace H := ifp H
 obtain ⟨y130, hy130⟩ : ∃ y_ : List Int, y_ = (([0, 2] : List Int)) := ⟨_, rfl⟩
 replace H : (if 1 ≤ (t111.length : Int) then ((determinant_Restorable.f 1 y108 y130 (t111.take 1)).bind fun t137 => ((rollbacknetref23_SameInts.f k t137 (([0, 1, 2] : List Int))).bind fun t143 => (some t143))) else (none)) = some r := by first | (rw [hy130]; with_reducible exact H) | (have H2_ := (Option.bind_some _ _).symm.trans H; rw [hy130]; with_reducible exact H2_) | (have H2_ := (Option.bind_some _ _).symm.trans H; with_reducible exact H2_) | with_reducible exact H | (rw [hy130]; exact H) | exact H
 have Ny130 := Aside0.mk hy130
 clear hy130
 by_cases c9 : 1 ≤ (t111.length : Int)
 ·(
 rw [if_pos c9] at H
 have c9b0 := eq_true c9
 have c9b1 : decide (1 ≤ (t111.length : Int)) = true := decide_eq_true c9
 clear c9
 obtain ⟨y133, hy133⟩ : ∃ y_ : List (S28), y_ = (t111.take 1) := ⟨_, rfl⟩
 replace H : ((determinant_Restorable.f 1 y108 y130 y133).bind fun t137 => ((rollbacknetref23_SameInts.f k t137 (([0, 1, 2] : List Int))).bind fun t143 => (some t143))) = some r := by first | (rw [hy133]; with_reducible exact H) | (have H2_ := (Option.bind_some _ _).symm.trans H; rw [hy133]; with_reducible exact H2_) | (have H2_ := (Option.bind_some _ _).symm.trans H; with_reducible exact H2_) | with_reducible exact H | (rw [hy133]; exact H) | exact H
 have Ny133 := Aside0.mk hy133
 clear hy133
 obtain ⟨t137, A10, H⟩ := bnd H
 obtain ⟨y140, hy140⟩ : ∃ y_ : List Int, y_ = (([0, 1, 2] : List Int)) := ⟨_, rfl⟩
 replace H : ((rollbacknetref23_SameInts.f k t137 y140).bind fun t143 => (some t143)) = some r := by first | (rw [hy140]; with_reducible exact H) | (have H2_ := (Option.bind_some _ _).symm.trans H; rw [hy140]; with_reducible exact H2_) | (have H2_ := (Option.bind_some _ _).symm.trans H; with_reducible exact H2_) | with_reducible exact H | (rw [hy140]; exact H) | exact H
 have Ny140 := Aside0.mk hy140
 clear hy140
 obtain ⟨t143, A11, H⟩ := bnd H
 obtain rfl := Option.some.inj H
 go_enter Try.func4, Try.ntmps4
 try go_wp2_with (first | ((with_reducible refine gate_dst (N := 6) rfl ?_); (try (refine gate_guard (by rfl) ?_; dsimp only)); refine Kd.R_lit k26 _ 26 ?hg (N := 6) ?hd (xs := ([(⟨2, 0, 0, (⟨0, 0⟩ : S24), 0, 0⟩ : S26), (⟨2, 0, 0, (⟨0, 0⟩ : S24), 0, 1⟩ : S26), (⟨3, 0, 0, (⟨0, 0⟩ : S24), 0, 0⟩ : S26)] : List (S26))) (inner := [.int .i64 2, .int .i64 0, .int .i64 0, .int .i64 0, .int .i64 0, .int .i64 0, .int .i64 0, .int .i64 2, .int .i64 0, .int .i64 0, .int .i64 0, .int .i64 0, .int .i64 0, .int .i64 1, .int .i64 3, .int .i64 0, .int .i64 0, .int .i64 0, .int .i64 0, .int .i64 0, .int .i64 0]) (ok := fun _ => True) (okp := fun _ => True) ?hr ?hp (fun _ hk => hk) trivial (Below.refl _ _) (Nat.le_refl _) (by simp) ?_; (case hd => rfl); (case hg => rfl); (case hr => first | (go_simp; done) | (go_simp; rfl)); (case hp => exact (Reps.c7 (show Kd.M k26 _ _ _ (⟨2, 0, 0, (⟨0, 0⟩ : S24), 0, 0⟩ : S26) [.int .i64 2, .int .i64 0, .int .i64 0, .int .i64 0, .int .i64 0, .int .i64 0, .int .i64 0] from (k26_mkM _ _ _ (⟨2, 0, 0, (⟨0, 0⟩ : S24), 0, 0⟩ : S26) )) (Reps.c7 (show Kd.M k26 _ _ _ (⟨2, 0, 0, (⟨0, 0⟩ : S24), 0, 1⟩ : S26) [.int .i64 2, .int .i64 0, .int .i64 0, .int .i64 0, .int .i64 0, .int .i64 0, .int .i64 1] from (k26_mkM _ _ _ (⟨2, 0, 0, (⟨0, 0⟩ : S24), 0, 1⟩ : S26) )) (Reps.c7 (show Kd.M k26 _ _ _ (⟨3, 0, 0, (⟨0, 0⟩ : S24), 0, 0⟩ : S26) [.int .i64 3, .int .i64 0, .int .i64 0, .int .i64 0, .int .i64 0, .int .i64 0, .int .i64 0] from (k26_mkM _ _ _ (⟨3, 0, 0, (⟨0, 0⟩ : S24), 0, 0⟩ : S26) )) (Reps.none _ _))))); intro v109 w12 ho13 hb hg_ hnew_; clear hg_ hnew_; (first | rw [← Ny108.out] at ho13 | (simp only [Int.reduceToNat] at ho13; rw [← Ny108.out] at ho13)); have n0_ := Aside0.mk (Kd.R_lower ho13 (below_size (bq HB.out))); have n1_ := Aside0.mk (below_step (bq HB.out) hb); clear HB; have HO110 := n0_; have HB := n1_; clear n0_ n1_; clear hb ho13; obtain ⟨Ao14, co14, eo14⟩ := Kd.R_slice HO110.out; subst eo14) | ((with_reducible refine gate_callee (f := 19) rfl ?_); refine gl (some 8) Try.func19 #[.int .i64 1, .slice Ao14 y108.length co14] ?_; (with_reducible refine (determinant_Lineage.calls k 1 _ _ y108 t111 _ ?side1 ?side2 A1.out).mono ?_); (case side1 => exact crd (Kd.R_reads' HO110.out).2.2); (case side2 => exact (Kd.R_reads' HO110.out).2.1); rintro e w15 ⟨v112, rfl, ho0, hb⟩; refine ⟨_, rfl, ?_⟩; have n0_ := Aside0.mk (Kd.R_below (rq HO110.out) hb); have n1_ := Aside0.mk (Kd.R_lower ho0 (below_size (bq HB.out))); have n2_ := Aside0.mk (below_step (bq HB.out) hb); clear HO110; clear HB; have HO110 := n0_; have HO113 := n1_; have HB := n2_; clear n0_ n1_ n2_; (try clear hb); (try clear hb2); (try clear hk); (try clear hi); (try clear ho0)))
 have n0_ := Aside0.mk (Kd.R_drew HO110.out)
 have n1_ := Aside0.mk (Kd.R_drew HO113.out)
 have n2_ := Aside0.mk (below_drew1 HB.out)
 clear HO110
 clear HO113
 clear HB
 have HO110 := n0_
 have HO113 := n1_
 have HB := n2_
 clear n0_ n1_ n2_
 obtain ⟨Ao17, co17, eo17⟩ := Kd.R_slice HO113.out
 (first | subst eo17 | (injection eo17 with f1_ f2_ f3_; have f4_ := f1_.symm; have f5_ := f3_.symm; clear f1_ f2_ f3_; subst f4_; subst f5_))
 have p114 : 0 ≤ (2 : Int) := (by omega)
 have q114 : 2 < (t111.length : Int) := of_decide_eq_true (by first | (with_reducible assumption) | assumption)
 obtain ⟨ad114, e114, hx114_0, hx114_1, hx114_2, hx114_3, hx114_4, hx114_5, hx114_6, hx114_7, hx114_8⟩ := at_T28 (Kd.R_reads' HO113.out).2.2 2 p114 q114
 cases e114
 (try simp only [show (2 : Int).toNat = 2 from rfl, Nat.reduceMul, Nat.reduceEqDiff, Go.Addr.add, ↓reduceIte] at hx114_0 hx114_1 hx114_2 hx114_3 hx114_4 hx114_5 hx114_6 hx114_7 hx114_8)
 have qi114 : (2 < t111.length) = True := eq_true (by omega)
 (try rw [show ((2 : Int)).toNat = 2 from rfl] at hx114_0)
 (try rw [show 2 * 9 = 18 from rfl] at hx114_0)
 (try rw [show ((2 : Int)).toNat = 2 from rfl] at hx114_1)
 (try rw [show 2 * 9 = 18 from rfl] at hx114_1)
 (try rw [show ((2 : Int)).toNat = 2 from rfl] at hx114_2)
 (try rw [show 2 * 9 = 18 from rfl] at hx114_2)
 (try rw [show ((2 : Int)).toNat = 2 from rfl] at hx114_3)
 (try rw [show 2 * 9 = 18 from rfl] at hx114_3)
 (try rw [show ((2 : Int)).toNat = 2 from rfl] at hx114_4)
 (try rw [show 2 * 9 = 18 from rfl] at hx114_4)
 (try rw [show ((2 : Int)).toNat = 2 from rfl] at hx114_5)
 (try rw [show 2 * 9 = 18 from rfl] at hx114_5)
 (try rw [show ((2 : Int)).toNat = 2 from rfl] at hx114_6)
 (try rw [show 2 * 9 = 18 from rfl] at hx114_6)
 (try rw [show ((2 : Int)).toNat = 2 from rfl] at hx114_7)
 (try rw [show 2 * 9 = 18 from rfl] at hx114_7)
 (try rw [show ((2 : Int)).toNat = 2 from rfl] at hx114_8)
 (try rw [show 2 * 9 = 18 from rfl] at hx114_8)
 replace p114 := eq_true p114
 replace q114 := eq_true q114
 have p118 : 0 ≤ (0 : Int) := (by omega)
 have q118 : 0 < (t111.length : Int) := of_decide_eq_true (by first | (with_reducible assumption) | assumption)
 obtain ⟨ad118, e118, hx118_0, hx118_1, hx118_2, hx118_3, hx118_4, hx118_5, hx118_6, hx118_7, hx118_8⟩ := at_T28 (Kd.R_reads' HO113.out).2.2 0 p118 q118
 obtain rfl : ad114 = ad118 := (by injection e118)
 have qi118 : (0 < t111.length) = True := eq_true (by omega)
 (try rw [show ((0 : Int)).toNat = 0 from rfl] at hx118_0)
 (try rw [show 0 * 9 = 0 from rfl] at hx118_0)
 (try rw [Addr.add_zero'] at hx118_0)
 (try rw [show ((0 : Int)).toNat = 0 from rfl] at hx118_1)
 (try rw [show 0 * 9 = 0 from rfl] at hx118_1)
 (try rw [Addr.add_zero'] at hx118_1)
 (try rw [show ((0 : Int)).toNat = 0 from rfl] at hx118_2)
 (try rw [show 0 * 9 = 0 from rfl] at hx118_2)
 (try rw [Addr.add_zero'] at hx118_2)
 (try rw [show ((0 : Int)).toNat = 0 from rfl] at hx118_3)
 (try rw [show 0 * 9 = 0 from rfl] at hx118_3)
 (try rw [Addr.add_zero'] at hx118_3)
 (try rw [show ((0 : Int)).toNat = 0 from rfl] at hx118_4)
 (try rw [show 0 * 9 = 0 from rfl] at hx118_4)
 (try rw [Addr.add_zero'] at hx118_4)
 (try rw [show ((0 : Int)).toNat = 0 from rfl] at hx118_5)
 (try rw [show 0 * 9 = 0 from rfl] at hx118_5)
 (try rw [Addr.add_zero'] at hx118_5)
 (try rw [show ((0 : Int)).toNat = 0 from rfl] at hx118_6)
 (try rw [show 0 * 9 = 0 from rfl] at hx118_6)
 (try rw [Addr.add_zero'] at hx118_6)
 (try rw [show ((0 : Int)).toNat = 0 from rfl] at hx118_7)
 (try rw [show 0 * 9 = 0 from rfl] at hx118_7)
 (try rw [Addr.add_zero'] at hx118_7)
 (try rw [show ((0 : Int)).toNat = 0 from rfl] at hx118_8)
 (try rw [show 0 * 9 = 0 from rfl] at hx118_8)
 (try rw [Addr.add_zero'] at hx118_8)
 replace p118 := eq_true p118
 replace q118 := eq_true q118
 have p119 : 0 ≤ (2 : Int) := (by omega)
 have q119 : 2 < (t111.length : Int) := of_decide_eq_true (by first | (with_reducible assumption) | assumption)
 obtain ⟨ad119, e119, hx119_0, hx119_1, hx119_2, hx119_3, hx119_4, hx119_5, hx119_6, hx119_7, hx119_8⟩ := at_T28 (Kd.R_reads' HO113.out).2.2 2 p119 q119
 obtain rfl : ad114 = ad119 := (by injection e119)
 (try simp only [show (2 : Int).toNat = 2 from rfl, Nat.reduceMul, Nat.reduceEqDiff, Go.Addr.add, ↓reduceIte] at hx119_0 hx119_1 hx119_2 hx119_3 hx119_4 hx119_5 hx119_6 hx119_7 hx119_8)
 have qi119 : (2 < t111.length) = True := eq_true (by omega)
 (try rw [show ((2 : Int)).toNat = 2 from rfl] at hx119_0)
 (try rw [show 2 * 9 = 18 from rfl] at hx119_0)
 (try rw [show ((2 : Int)).toNat = 2 from rfl] at hx119_1)
 (try rw [show 2 * 9 = 18 from rfl] at hx119_1)
 (try rw [show ((2 : Int)).toNat = 2 from rfl] at hx119_2)
 (try rw [show 2 * 9 = 18 from rfl] at hx119_2)
 (try rw [show ((2 : Int)).toNat = 2 from rfl] at hx119_3)
 (try rw [show 2 * 9 = 18 from rfl] at hx119_3)
 (try rw [show ((2 : Int)).toNat = 2 from rfl] at hx119_4)
 (try rw [show 2 * 9 = 18 from rfl] at hx119_4)
 (try rw [show ((2 : Int)).toNat = 2 from rfl] at hx119_5)
 (try rw [show 2 * 9 = 18 from rfl] at hx119_5)
 (try rw [show ((2 : Int)).toNat = 2 from rfl] at hx119_6)
 (try rw [show 2 * 9 = 18 from rfl] at hx119_6)
 (try rw [show ((2 : Int)).toNat = 2 from rfl] at hx119_7)
 (try rw [show 2 * 9 = 18 from rfl] at hx119_7)
 (try rw [show ((2 : Int)).toNat = 2 from rfl] at hx119_8)
 (try rw [show 2 * 9 = 18 from rfl] at hx119_8)
 replace p119 := eq_true p119
 replace q119 := eq_true q119
 have q18 : (1 : Int) ≤ ((t111.length : Int) : Int) := of_decide_eq_true (by first | (with_reducible assumption) | assumption)
 obtain ⟨i018, hi018, _, hsz18, _⟩ := info_parts info28
 have hroom18 : t111.length ≤ co17 := (Kd.R_reads' HO113.out).2.1
 have hC18 : Kd.C k28 _ (some ad114) t111.length t111 := (Kd.R_reads' HO113.out).2.2
 have hcut18 := cut_to (P := Try.prog) 22 28 .i64 Try.underlying22 hi018 (some ad114) t111.length co17 1 (by omega) q18 hroom18
 have hr18 := Kd.C_take (m := 1) hC18 (by omega)
 have hy18 : y133.length = (1 : Int).toNat := (by rw [Ny133.out, List.length_take]; omega)
 rw [← Ny133.out] at hr18
 rw [← hy18] at hcut18
 have HR136 := Aside0.mk hr18
 have HC136 := Aside0.mk (show y133.length ≤ co17 from by omega)
 clear hr18 hC18 hroom18 hi018 hsz18
 have KY18 := Aside0.mk hy18
 clear hy18
 have KL18 := Aside0.mk (show 1 ≤ t111.length from by omega)
 replace q18 := eq_true q18
 refine start_ (n := 34) (S := fun w' => True) (ds := []) #[false, false, false, false, false, false, false, false, false, false, false, false, false, false, false, false, false, false, false, false, false, false, false, false, false, false, false, false, false, false, false, false, false, false] (by kernel_rfl) rfl rfl trivial (fun hHeld => ?_); refine with_tabW rollbacknetlaw27_awake.tab3 rollbacknetlaw27_awake.bits3 (fun HT_ HW_ => ?_)
 generalize w15.drew = w16 at HO110 HO113 HB HR136 hx114_0 hx114_1 hx114_2 hx114_3 hx114_4 hx114_5 hx114_6 hx114_7 hx114_8 hx118_0 hx118_1 hx118_2 hx118_3 hx118_4 hx118_5 hx118_6 hx118_7 hx118_8 hx119_0 hx119_1 hx119_2 hx119_3 hx119_4 hx119_5 hx119_6 hx119_7 hx119_8 hHeld ⊢
 refine pur HT_.out 0 (some 9) (bm 34 1) ?_
 refine inv_at [1, 2, 3, 4, 5, 6, 7, 8, 9, 10, 11, 12, 13, 14, 15, 16, 17, 18, 19, 20, 21, 22, 23, 24, 25, 26, 27, 28, 29, 30, 31, 32, 33] (fun a0_ b a w' => ∃ (v116 : Value) (v121 : Value) (v124 : Value) (v127 : Value) (v131 : Value) (v138 : Value) (v141 : Value), a = putSel a0_ b [(1, 10, .int .i64 (t111.length : Int)), (2, 11, .bool ((t111.length : Int) == 3)), (3, 12, .bool ((t111.length : Int) == 3)), (4, 13, .slice (some ad114) t111.length co17), (5, 14, .pointer (some (ad114.add 18))), (6, 15, .pointer (some ⟨(ad114.add 18).block, (ad114.add 18).off + 1, none⟩)), (7, 16, .int .i64 ((rd_T28 t111 2).f1)), (8, 17, .bool (((rd_T28 t111 2).f1) == 3)), (9, 18, .bool (((rd_T28 t111 2).f1) == 3)), (10, 19, .bool (((rd_T28 t111 2).f1) == 3)), (11, 20, .slice Ao14 y108.length co14), (12, 21, v116), (13, 22, .slice (some ad114) t111.length co17), (14, 23, .pointer (some ad114)), (15, 24, .agg #[.int .i64 ((rd_T28 t111 0).f0), .int .i64 ((rd_T28 t111 0).f1), .int .i64 ((rd_T28 t111 0).f2.f0), .int .i64 ((rd_T28 t111 0).f2.f1), .int .i64 ((rd_T28 t111 0).f2.f2), .int .i64 ((rd_T28 t111 0).f2.f3.f0), .int .i64 ((rd_T28 t111 0).f2.f3.f1), .int .i64 ((rd_T28 t111 0).f2.f4), .int .i64 ((rd_T28 t111 0).f2.f5)]), (16, 25, .slice (some ad114) t111.length co17), (17, 26, .pointer (some (ad114.add 18))), (18, 27, .agg #[.int .i64 ((rd_T28 t111 2).f0), .int .i64 ((rd_T28 t111 2).f1), .int .i64 ((rd_T28 t111 2).f2.f0), .int .i64 ((rd_T28 t111 2).f2.f1), .int .i64 ((rd_T28 t111 2).f2.f2), .int .i64 ((rd_T28 t111 2).f2.f3.f0), .int .i64 ((rd_T28 t111 2).f2.f3.f1), .int .i64 ((rd_T28 t111 2).f2.f4), .int .i64 ((rd_T28 t111 2).f2.f5)]), (19, 28, v121), (20, 29, v124), (21, 30, v127), (22, 31, .bool true), (23, 32, .bool true), (24, 33, .bool true), (25, 34, .slice Ao14 y108.length co14), (26, 35, v131), (27, 36, .slice (some ad114) t111.length co17), (28, 37, .slice (some ad114) y133.length co17), (29, 38, v138), (30, 39, v141), (31, 40, .bool t143), (32, 41, .bool t143), (33, 0, .bool t143)] ∧ (Kd.R k26 26 w' w.heap.size (fun _ => True) (.slice Ao14 y108.length co14) y108) ∧ (Kd.R k28 28 w' w.heap.size (fun _ => True) (.slice (some ad114) t111.length co17) t111) ∧ (Below w.heap.size w w') ∧ (b 12 = true → Kd.R (Kd.int .i64) 3 w' w.heap.size (fun _ => True) v116 y115) ∧ (b 19 = true → Kd.R k28 28 w' w.heap.size (fun k_ => some k_ ≠ (.slice (some ad114) t111.length co17 : Value).ownBlock) v121 y120) ∧ (b 20 = true → Kd.R (Kd.int .i64) 3 w' w.heap.size (fun _ => True) v124 t123) ∧ (b 21 = true → Kd.R (Kd.int .i64) 3 w' w.heap.size (fun _ => True) v127 y126) ∧ (b 26 = true → Kd.R (Kd.int .i64) 3 w' w.heap.size (fun _ => True) v131 y130) ∧ (b 29 = true → Kd.R (Kd.int .i64) 3 w' w.heap.size (fun _ => True) v138 t137) ∧ (b 30 = true → Kd.R (Kd.int .i64) 3 w' w.heap.size (fun _ => True) v141 y140)) HT_.out HW_.out (by kernel_rfl) (by kernel_rfl) ?_ ?_ ?_
 ·exact ⟨.bool false, .bool false, .bool false, .bool false, .bool false, .bool false, .bool false, by simp only [putSel, Bool.false_eq_true, if_false], HO110.out, HO113.out, HB.out, fun h_ => absurd h_ (by decide), fun h_ => absurd h_ (by decide), fun h_ => absurd h_ (by decide), fun h_ => absurd h_ (by decide), fun h_ => absurd h_ (by decide), fun h_ => absurd h_ (by decide), fun h_ => absurd h_ (by decide)⟩
 ·(
 skip
 clear HB HO110 HO113
 refine steps_cons ?_ ?_
 ·(
 rintro b a w' ⟨v116, v121, v124, v127, v131, v138, v141, ha, Q_HO110, Q_HO113, Q_HB, Q_HO117, Q_HO122, Q_HO125, Q_HO128, Q_HO132, Q_HO139, Q_HO142⟩ hb_ hon hoff
 refine ⟨_, rfl, fun K hK => ?_⟩
 have e9 : a.tmps[9]? = some (.slice (some ad114) t111.length co17) := by rw [ha]; exact (putSel_off rfl).trans rfl
 replace ha := Aside0.mk ha
 have HO110 := Aside0.mk Q_HO110
 have HO113 := Aside0.mk Q_HO113
 have HB := Aside0.mk Q_HB
 refine value_ (w1 := w') (v := .int .i64 (t111.length : Int)) (by rfl) rfl ?_ ?_
 ·(
 go_simp
 (try simp only [i64_w])
 try rfl)
 refine hK.out _ _ ⟨v116, v121, v124, v127, v131, v138, v141, (by rw [ha.out]; exact putSel_upk 0 hb_ rfl rfl rfl), Q_HO110, Q_HO113, Q_HB, off_ (hoff 12 (by kernel_rfl)), off_ (hoff 19 (by kernel_rfl)), off_ (hoff 20 (by kernel_rfl)), off_ (hoff 21 (by kernel_rfl)), off_ (hoff 26 (by kernel_rfl)), off_ (hoff 29 (by kernel_rfl)), off_ (hoff 30 (by kernel_rfl))⟩)
 refine steps_cons ?_ ?_
 ·(
 rintro b a w' ⟨v116, v121, v124, v127, v131, v138, v141, ha, Q_HO110, Q_HO113, Q_HB, Q_HO117, Q_HO122, Q_HO125, Q_HO128, Q_HO132, Q_HO139, Q_HO142⟩ hb_ hon hoff
 refine ⟨_, rfl, fun K hK => ?_⟩
 have e10 : a.tmps[10]? = some (.int .i64 (t111.length : Int)) := by rw [ha]; exact putSel_on (e := (1, 10, .int .i64 (t111.length : Int))) 0 rfl rfl (hon 1 (by kernel_rfl)) rfl
 replace ha := Aside0.mk ha
 have HO110 := Aside0.mk Q_HO110
 have HO113 := Aside0.mk Q_HO113
 have HB := Aside0.mk Q_HB
 refine value_ (w1 := w') (v := .bool ((t111.length : Int) == 3)) (by rfl) rfl ?_ ?_
 ·(
 go_simp
 (try simp only [i64_w])
 try rfl)
 refine hK.out _ _ ⟨v116, v121, v124, v127, v131, v138, v141, (by rw [ha.out]; exact putSel_upk 1 hb_ rfl rfl rfl), Q_HO110, Q_HO113, Q_HB, off_ (hoff 12 (by kernel_rfl)), off_ (hoff 19 (by kernel_rfl)), off_ (hoff 20 (by kernel_rfl)), off_ (hoff 21 (by kernel_rfl)), off_ (hoff 26 (by kernel_rfl)), off_ (hoff 29 (by kernel_rfl)), off_ (hoff 30 (by kernel_rfl))⟩)
 refine steps_cons ?_ ?_
 ·(
 rintro b a w' ⟨v116, v121, v124, v127, v131, v138, v141, ha, Q_HO110, Q_HO113, Q_HB, Q_HO117, Q_HO122, Q_HO125, Q_HO128, Q_HO132, Q_HO139, Q_HO142⟩ hb_ hon hoff
 refine ⟨_, rfl, fun K hK => ?_⟩
 have e11 : a.tmps[11]? = some (.bool ((t111.length : Int) == 3)) := by rw [ha]; exact putSel_on (e := (2, 11, .bool ((t111.length : Int) == 3))) 1 rfl rfl (hon 2 (by kernel_rfl)) rfl
 replace ha := Aside0.mk ha
 have HO110 := Aside0.mk Q_HO110
 have HO113 := Aside0.mk Q_HO113
 have HB := Aside0.mk Q_HB
 refine value_ (w1 := w') (v := .bool ((t111.length : Int) == 3)) (by rfl) rfl ?_ ?_
 ·(
 go_simp
 (try simp only [i64_w])
 try rfl)
 refine hK.out _ _ ⟨v116, v121, v124, v127, v131, v138, v141, (by rw [ha.out]; exact putSel_upk 2 hb_ rfl rfl rfl), Q_HO110, Q_HO113, Q_HB, off_ (hoff 12 (by kernel_rfl)), off_ (hoff 19 (by kernel_rfl)), off_ (hoff 20 (by kernel_rfl)), off_ (hoff 21 (by kernel_rfl)), off_ (hoff 26 (by kernel_rfl)), off_ (hoff 29 (by kernel_rfl)), off_ (hoff 30 (by kernel_rfl))⟩)
 refine steps_cons ?_ ?_
 ·(
 rintro b a w' ⟨v116, v121, v124, v127, v131, v138, v141, ha, Q_HO110, Q_HO113, Q_HB, Q_HO117, Q_HO122, Q_HO125, Q_HO128, Q_HO132, Q_HO139, Q_HO142⟩ hb_ hon hoff
 refine ⟨_, rfl, fun K hK => ?_⟩
 have e2 : a.tmps[2]? = some (.slice (some ad114) t111.length co17) := by rw [ha]; exact (putSel_off rfl).trans rfl
 have e12 : a.tmps[12]? = some (.bool ((t111.length : Int) == 3)) := by rw [ha]; exact putSel_on (e := (3, 12, .bool ((t111.length : Int) == 3))) 2 rfl rfl (hon 3 (by kernel_rfl)) rfl
 replace ha := Aside0.mk ha
 have HO110 := Aside0.mk Q_HO110
 have HO113 := Aside0.mk Q_HO113
 have HB := Aside0.mk Q_HB
 refine value_ (w1 := w') (v := .slice (some ad114) t111.length co17) (wanted_on rfl rfl rfl (e12.trans (by first | rfl | (simp [*]; done)))) rfl ?_ ?_
 ·(
 go_simp
 (try simp only [i64_w])
 try rfl)
 refine hK.out _ _ ⟨v116, v121, v124, v127, v131, v138, v141, (by rw [ha.out]; exact putSel_upk 3 hb_ rfl rfl rfl), Q_HO110, Q_HO113, Q_HB, off_ (hoff 12 (by kernel_rfl)), off_ (hoff 19 (by kernel_rfl)), off_ (hoff 20 (by kernel_rfl)), off_ (hoff 21 (by kernel_rfl)), off_ (hoff 26 (by kernel_rfl)), off_ (hoff 29 (by kernel_rfl)), off_ (hoff 30 (by kernel_rfl))⟩)
 refine steps_cons ?_ ?_
 ·(
 rintro b a w' ⟨v116, v121, v124, v127, v131, v138, v141, ha, Q_HO110, Q_HO113, Q_HB, Q_HO117, Q_HO122, Q_HO125, Q_HO128, Q_HO132, Q_HO139, Q_HO142⟩ hb_ hon hoff
 refine ⟨_, rfl, fun K hK => ?_⟩
 have e13 : a.tmps[13]? = some (.slice (some ad114) t111.length co17) := by rw [ha]; exact putSel_on (e := (4, 13, .slice (some ad114) t111.length co17)) 3 rfl rfl (hon 4 (by kernel_rfl)) rfl
 have e12 : a.tmps[12]? = some (.bool ((t111.length : Int) == 3)) := by rw [ha]; exact putSel_on (e := (3, 12, .bool ((t111.length : Int) == 3))) 2 rfl rfl (hon 3 (by kernel_rfl)) rfl
 replace ha := Aside0.mk ha
 have HO110 := Aside0.mk Q_HO110
 have HO113 := Aside0.mk Q_HO113
 have HB := Aside0.mk Q_HB
 refine value_ (w1 := w') (v := .pointer (some (ad114.add 18))) (wanted_on rfl rfl rfl (e12.trans (by first | rfl | (simp [*]; done)))) rfl ?_ ?_
 ·(
 go_simp
 (try simp only [i64_w])
 try rfl)
 refine hK.out _ _ ⟨v116, v121, v124, v127, v131, v138, v141, (by rw [ha.out]; exact putSel_upk 4 hb_ rfl rfl rfl), Q_HO110, Q_HO113, Q_HB, off_ (hoff 12 (by kernel_rfl)), off_ (hoff 19 (by kernel_rfl)), off_ (hoff 20 (by kernel_rfl)), off_ (hoff 21 (by kernel_rfl)), off_ (hoff 26 (by kernel_rfl)), off_ (hoff 29 (by kernel_rfl)), off_ (hoff 30 (by kernel_rfl))⟩)
 refine steps_cons ?_ ?_
 ·(
 rintro b a w' ⟨v116, v121, v124, v127, v131, v138, v141, ha, Q_HO110, Q_HO113, Q_HB, Q_HO117, Q_HO122, Q_HO125, Q_HO128, Q_HO132, Q_HO139, Q_HO142⟩ hb_ hon hoff
 refine ⟨_, rfl, fun K hK => ?_⟩
 have e14 : a.tmps[14]? = some (.pointer (some (ad114.add 18))) := by rw [ha]; exact putSel_on (e := (5, 14, .pointer (some (ad114.add 18)))) 4 rfl rfl (hon 5 (by kernel_rfl)) rfl
 have e12 : a.tmps[12]? = some (.bool ((t111.length : Int) == 3)) := by rw [ha]; exact putSel_on (e := (3, 12, .bool ((t111.length : Int) == 3))) 2 rfl rfl (hon 3 (by kernel_rfl)) rfl
 replace ha := Aside0.mk ha
 have HO110 := Aside0.mk Q_HO110
 have HO113 := Aside0.mk Q_HO113
 have HB := Aside0.mk Q_HB
 refine value_ (w1 := w') (v := .pointer (some ⟨(ad114.add 18).block, (ad114.add 18).off + 1, none⟩)) (wanted_on rfl rfl rfl (e12.trans (by first | rfl | (simp [*]; done)))) rfl ?_ ?_
 ·(
 go_simp
 (try simp only [i64_w])
 try rfl)
 refine hK.out _ _ ⟨v116, v121, v124, v127, v131, v138, v141, (by rw [ha.out]; exact putSel_upk 5 hb_ rfl rfl rfl), Q_HO110, Q_HO113, Q_HB, off_ (hoff 12 (by kernel_rfl)), off_ (hoff 19 (by kernel_rfl)), off_ (hoff 20 (by kernel_rfl)), off_ (hoff 21 (by kernel_rfl)), off_ (hoff 26 (by kernel_rfl)), off_ (hoff 29 (by kernel_rfl)), off_ (hoff 30 (by kernel_rfl))⟩)
 refine steps_cons ?_ ?_
 ·(
 rintro b a w' ⟨v116, v121, v124, v127, v131, v138, v141, ha, Q_HO110, Q_HO113, Q_HB, Q_HO117, Q_HO122, Q_HO125, Q_HO128, Q_HO132, Q_HO139, Q_HO142⟩ hb_ hon hoff
 refine ⟨_, rfl, fun K hK => ?_⟩
 have e15 : a.tmps[15]? = some (.pointer (some ⟨(ad114.add 18).block, (ad114.add 18).off + 1, none⟩)) := by rw [ha]; exact putSel_on (e := (6, 15, .pointer (some ⟨(ad114.add 18).block, (ad114.add 18).off + 1, none⟩))) 5 rfl rfl (hon 6 (by kernel_rfl)) rfl
 have e12 : a.tmps[12]? = some (.bool ((t111.length : Int) == 3)) := by rw [ha]; exact putSel_on (e := (3, 12, .bool ((t111.length : Int) == 3))) 2 rfl rfl (hon 3 (by kernel_rfl)) rfl
 replace ha := Aside0.mk ha
 have HO110 := Aside0.mk Q_HO110
 have HO113 := Aside0.mk Q_HO113
 have HB := Aside0.mk Q_HB
 obtain ⟨ad114_z, e114_z, hx114_0_z, hx114_1_z, hx114_2_z, hx114_3_z, hx114_4_z, hx114_5_z, hx114_6_z, hx114_7_z, hx114_8_z⟩ := at_T28 (Kd.R_reads' HO113.out).2.2 2 (of_eq_true p114) (of_eq_true q114)
 cases e114_z
 have hs0_ : w'.cell? ⟨ad114.block, ad114.off + 18, none⟩ = some (.int .i64 ((rd_T28 t111 2).f0)) := (by first | exact hx114_0_z | (have h_ := hx114_0_z; (try simp only [Int.reduceToNat, Nat.zero_mul, Nat.reduceMul, Nat.reduceEqDiff, Go.Addr.add, ↓reduceIte, Addr.add_zero'] at h_); exact h_))
 have hs1_ : w'.cell? ⟨ad114.block, ad114.off + 18 + 1, none⟩ = some (.int .i64 ((rd_T28 t111 2).f1)) := (by first | exact hx114_1_z | (have h_ := hx114_1_z; (try simp only [Int.reduceToNat, Nat.zero_mul, Nat.reduceMul, Nat.reduceEqDiff, Go.Addr.add, ↓reduceIte, Addr.add_zero'] at h_); exact h_))
 have hs2_ : w'.cell? ⟨ad114.block, ad114.off + 18 + 2, none⟩ = some (.int .i64 ((rd_T28 t111 2).f2.f0)) := (by first | exact hx114_2_z | (have h_ := hx114_2_z; (try simp only [Int.reduceToNat, Nat.zero_mul, Nat.reduceMul, Nat.reduceEqDiff, Go.Addr.add, ↓reduceIte, Addr.add_zero'] at h_); exact h_))
 have hs3_ : w'.cell? ⟨ad114.block, ad114.off + 18 + 3, none⟩ = some (.int .i64 ((rd_T28 t111 2).f2.f1)) := (by first | exact hx114_3_z | (have h_ := hx114_3_z; (try simp only [Int.reduceToNat, Nat.zero_mul, Nat.reduceMul, Nat.reduceEqDiff, Go.Addr.add, ↓reduceIte, Addr.add_zero'] at h_); exact h_))
 have hs4_ : w'.cell? ⟨ad114.block, ad114.off + 18 + 4, none⟩ = some (.int .i64 ((rd_T28 t111 2).f2.f2)) := (by first | exact hx114_4_z | (have h_ := hx114_4_z; (try simp only [Int.reduceToNat, Nat.zero_mul, Nat.reduceMul, Nat.reduceEqDiff, Go.Addr.add, ↓reduceIte, Addr.add_zero'] at h_); exact h_))
 have hs5_ : w'.cell? ⟨ad114.block, ad114.off + 18 + 5, none⟩ = some (.int .i64 ((rd_T28 t111 2).f2.f3.f0)) := (by first | exact hx114_5_z | (have h_ := hx114_5_z; (try simp only [Int.reduceToNat, Nat.zero_mul, Nat.reduceMul, Nat.reduceEqDiff, Go.Addr.add, ↓reduceIte, Addr.add_zero'] at h_); exact h_))
 have hs6_ : w'.cell? ⟨ad114.block, ad114.off + 18 + 6, none⟩ = some (.int .i64 ((rd_T28 t111 2).f2.f3.f1)) := (by first | exact hx114_6_z | (have h_ := hx114_6_z; (try simp only [Int.reduceToNat, Nat.zero_mul, Nat.reduceMul, Nat.reduceEqDiff, Go.Addr.add, ↓reduceIte, Addr.add_zero'] at h_); exact h_))
 have hs7_ : w'.cell? ⟨ad114.block, ad114.off + 18 + 7, none⟩ = some (.int .i64 ((rd_T28 t111 2).f2.f4)) := (by first | exact hx114_7_z | (have h_ := hx114_7_z; (try simp only [Int.reduceToNat, Nat.zero_mul, Nat.reduceMul, Nat.reduceEqDiff, Go.Addr.add, ↓reduceIte, Addr.add_zero'] at h_); exact h_))
 have hs8_ : w'.cell? ⟨ad114.block, ad114.off + 18 + 8, none⟩ = some (.int .i64 ((rd_T28 t111 2).f2.f5)) := (by first | exact hx114_8_z | (have h_ := hx114_8_z; (try simp only [Int.reduceToNat, Nat.zero_mul, Nat.reduceMul, Nat.reduceEqDiff, Go.Addr.add, ↓reduceIte, Addr.add_zero'] at h_); exact h_))
 refine value_ (w1 := w') (v := .int .i64 ((rd_T28 t111 2).f1)) (wanted_on rfl rfl rfl (e12.trans (by first | rfl | (simp [*]; done)))) rfl ?_ ?_
 ·(
 go_simp
 (try simp only [i64_w])
 try rfl)
 refine hK.out _ _ ⟨v116, v121, v124, v127, v131, v138, v141, (by rw [ha.out]; exact putSel_upk 6 hb_ rfl rfl rfl), Q_HO110, Q_HO113, Q_HB, off_ (hoff 12 (by kernel_rfl)), off_ (hoff 19 (by kernel_rfl)), off_ (hoff 20 (by kernel_rfl)), off_ (hoff 21 (by kernel_rfl)), off_ (hoff 26 (by kernel_rfl)), off_ (hoff 29 (by kernel_rfl)), off_ (hoff 30 (by kernel_rfl))⟩)
 refine steps_cons ?_ ?_
 ·(
 rintro b a w' ⟨v116, v121, v124, v127, v131, v138, v141, ha, Q_HO110, Q_HO113, Q_HB, Q_HO117, Q_HO122, Q_HO125, Q_HO128, Q_HO132, Q_HO139, Q_HO142⟩ hb_ hon hoff
 refine ⟨_, rfl, fun K hK => ?_⟩
 have e16 : a.tmps[16]? = some (.int .i64 ((rd_T28 t111 2).f1)) := by rw [ha]; exact putSel_on (e := (7, 16, .int .i64 ((rd_T28 t111 2).f1))) 6 rfl rfl (hon 7 (by kernel_rfl)) rfl
 have e12 : a.tmps[12]? = some (.bool ((t111.length : Int) == 3)) := by rw [ha]; exact putSel_on (e := (3, 12, .bool ((t111.length : Int) == 3))) 2 rfl rfl (hon 3 (by kernel_rfl)) rfl
 replace ha := Aside0.mk ha
 have HO110 := Aside0.mk Q_HO110
 have HO113 := Aside0.mk Q_HO113
 have HB := Aside0.mk Q_HB
 refine value_ (w1 := w') (v := .bool (((rd_T28 t111 2).f1) == 3)) (wanted_on rfl rfl rfl (e12.trans (by first | rfl | (simp [*]; done)))) rfl ?_ ?_
 ·(
 go_simp
 (try simp only [i64_w])
 try rfl)
 refine hK.out _ _ ⟨v116, v121, v124, v127, v131, v138, v141, (by rw [ha.out]; exact putSel_upk 7 hb_ rfl rfl rfl), Q_HO110, Q_HO113, Q_HB, off_ (hoff 12 (by kernel_rfl)), off_ (hoff 19 (by kernel_rfl)), off_ (hoff 20 (by kernel_rfl)), off_ (hoff 21 (by kernel_rfl)), off_ (hoff 26 (by kernel_rfl)), off_ (hoff 29 (by kernel_rfl)), off_ (hoff 30 (by kernel_rfl))⟩)
 refine steps_cons ?_ ?_
 ·(
 rintro b a w' ⟨v116, v121, v124, v127, v131, v138, v141, ha, Q_HO110, Q_HO113, Q_HB, Q_HO117, Q_HO122, Q_HO125, Q_HO128, Q_HO132, Q_HO139, Q_HO142⟩ hb_ hon hoff
 refine ⟨_, rfl, fun K hK => ?_⟩
 have e12 : a.tmps[12]? = some (.bool ((t111.length : Int) == 3)) := by rw [ha]; exact putSel_on (e := (3, 12, .bool ((t111.length : Int) == 3))) 2 rfl rfl (hon 3 (by kernel_rfl)) rfl
 have e17 : a.tmps[17]? = some (.bool (((rd_T28 t111 2).f1) == 3)) := by rw [ha]; exact putSel_on (e := (8, 17, .bool (((rd_T28 t111 2).f1) == 3))) 7 rfl rfl (hon 8 (by kernel_rfl)) rfl
 replace ha := Aside0.mk ha
 have HO110 := Aside0.mk Q_HO110
 have HO113 := Aside0.mk Q_HO113
 have HB := Aside0.mk Q_HB
 refine value_ (w1 := w') (v := .bool (((rd_T28 t111 2).f1) == 3)) (by rfl) rfl ?_ ?_
 ·(
 go_simp
 (try simp only [i64_w])
 try rfl)
 refine hK.out _ _ ⟨v116, v121, v124, v127, v131, v138, v141, (by rw [ha.out]; exact putSel_upk 8 hb_ rfl rfl rfl), Q_HO110, Q_HO113, Q_HB, off_ (hoff 12 (by kernel_rfl)), off_ (hoff 19 (by kernel_rfl)), off_ (hoff 20 (by kernel_rfl)), off_ (hoff 21 (by kernel_rfl)), off_ (hoff 26 (by kernel_rfl)), off_ (hoff 29 (by kernel_rfl)), off_ (hoff 30 (by kernel_rfl))⟩)
 refine steps_cons ?_ ?_
 ·(
 rintro b a w' ⟨v116, v121, v124, v127, v131, v138, v141, ha, Q_HO110, Q_HO113, Q_HB, Q_HO117, Q_HO122, Q_HO125, Q_HO128, Q_HO132, Q_HO139, Q_HO142⟩ hb_ hon hoff
 refine ⟨_, rfl, fun K hK => ?_⟩
 have e18 : a.tmps[18]? = some (.bool (((rd_T28 t111 2).f1) == 3)) := by rw [ha]; exact putSel_on (e := (9, 18, .bool (((rd_T28 t111 2).f1) == 3))) 8 rfl rfl (hon 9 (by kernel_rfl)) rfl
 replace ha := Aside0.mk ha
 have HO110 := Aside0.mk Q_HO110
 have HO113 := Aside0.mk Q_HO113
 have HB := Aside0.mk Q_HB
 refine value_ (w1 := w') (v := .bool (((rd_T28 t111 2).f1) == 3)) (by rfl) rfl ?_ ?_
 ·(
 go_simp
 (try simp only [i64_w])
 try rfl)
 refine hK.out _ _ ⟨v116, v121, v124, v127, v131, v138, v141, (by rw [ha.out]; exact putSel_upk 9 hb_ rfl rfl rfl), Q_HO110, Q_HO113, Q_HB, off_ (hoff 12 (by kernel_rfl)), off_ (hoff 19 (by kernel_rfl)), off_ (hoff 20 (by kernel_rfl)), off_ (hoff 21 (by kernel_rfl)), off_ (hoff 26 (by kernel_rfl)), off_ (hoff 29 (by kernel_rfl)), off_ (hoff 30 (by kernel_rfl))⟩)
 refine steps_cons ?_ ?_
 ·(
 rintro b a w' ⟨v116, v121, v124, v127, v131, v138, v141, ha, Q_HO110, Q_HO113, Q_HB, Q_HO117, Q_HO122, Q_HO125, Q_HO128, Q_HO132, Q_HO139, Q_HO142⟩ hb_ hon hoff
 refine ⟨_, rfl, fun K hK => ?_⟩
 have e1 : a.tmps[1]? = some (.slice Ao14 y108.length co14) := by rw [ha]; exact (putSel_off rfl).trans rfl
 have e19 : a.tmps[19]? = some (.bool (((rd_T28 t111 2).f1) == 3)) := by rw [ha]; exact putSel_on (e := (10, 19, .bool (((rd_T28 t111 2).f1) == 3))) 9 rfl rfl (hon 10 (by kernel_rfl)) rfl
 replace ha := Aside0.mk ha
 have HO110 := Aside0.mk Q_HO110
 have HO113 := Aside0.mk Q_HO113
 have HB := Aside0.mk Q_HB
 refine value_ (w1 := w') (v := .slice Ao14 y108.length co14) (wanted_on rfl rfl rfl (e19.trans (by first | rfl | (simp [*]; done)))) rfl ?_ ?_
 ·(
 go_simp
 (try simp only [i64_w])
 try rfl)
 refine hK.out _ _ ⟨v116, v121, v124, v127, v131, v138, v141, (by rw [ha.out]; exact putSel_upk 10 hb_ rfl rfl rfl), Q_HO110, Q_HO113, Q_HB, Q_HO117, Q_HO122, off_ (hoff 20 (by kernel_rfl)), Q_HO128, off_ (hoff 26 (by kernel_rfl)), off_ (hoff 29 (by kernel_rfl)), off_ (hoff 30 (by kernel_rfl))⟩)
 refine steps_cons ?_ ?_
 ·(
 rintro b a w' ⟨v116, v121, v124, v127, v131, v138, v141, ha, Q_HO110, Q_HO113, Q_HB, Q_HO117, Q_HO122, Q_HO125, Q_HO128, Q_HO132, Q_HO139, Q_HO142⟩ hb_ hon hoff
 refine ⟨_, rfl, fun K hK => ?_⟩
 have e19 : a.tmps[19]? = some (.bool (((rd_T28 t111 2).f1) == 3)) := by rw [ha]; exact putSel_on (e := (10, 19, .bool (((rd_T28 t111 2).f1) == 3))) 9 rfl rfl (hon 10 (by kernel_rfl)) rfl
 replace ha := Aside0.mk ha
 have HO110 := Aside0.mk Q_HO110
 have HO113 := Aside0.mk Q_HO113
 have HB := Aside0.mk Q_HB
 refine Kd.R_lit_step (Kd.int .i64) _ 3 ?hg (N := 21) ?hd (xs := ([0, 2] : List Int)) (inner := [.int .i64 0, .int .i64 2]) (ok := fun _ => True) (okp := fun _ => True) ?hr ?hp (fun _ hk => hk) trivial (Below.refl _ _) (Nat.le_refl _) (by simp) ?_; (case hd => rfl); (case hg => first | rfl | (refine wanted_on rfl rfl rfl ?_; first | assumption | (simp [*]; done))); (case hr => first | (go_simp; done) | (go_simp; rfl)); (case hp => exact (Reps.one (show Kd.M (Kd.int .i64) _ _ _ 0 [.int .i64 0] from rfl) (Reps.one (show Kd.M (Kd.int .i64) _ _ _ 2 [.int .i64 2] from rfl) (Reps.none _ _))))
 intro v116 w19 ho20 hb hg_ hnew_
 clear hg_ hnew_
 (first | rw [← Ny115.out] at ho20 | (simp only [Int.reduceToNat] at ho20; rw [← Ny115.out] at ho20))
 have n0_ := Aside0.mk (Kd.R_below (rq HO110.out) hb)
 have n1_ := Aside0.mk (Kd.R_below (rq HO113.out) hb)
 have n2_ := Aside0.mk (Kd.R_lower ho20 (below_size (bq HB.out)))
 have n3_ := Aside0.mk (below_step (bq HB.out) hb)
 have z_HO122 := fun (h0_ : b 19 = true) => (show Kd.R k28 28 w19 w.heap.size (fun k_ => some k_ ≠ (.slice (some ad114) t111.length co17 : Value).ownBlock) v121 y120 from by first | exact (Kd.R_below (by (with_reducible repeat (first | apply Kd.R_alloc | apply Kd.R_drewN | apply Kd.R_drew)); exact (Q_HO122 h0_)) hb) | exact Kd.R_mono (Kd.R_below (by (with_reducible repeat (first | apply Kd.R_alloc | apply Kd.R_drewN | apply Kd.R_drew)); exact (Q_HO122 h0_)) hb) (fun _ h_ => by first | trivial | exact h_ | exact h_.1))
 have z_HO128 := fun (h0_ : b 21 = true) => (show Kd.R (Kd.int .i64) 3 w19 w.heap.size (fun _ => True) v127 y126 from by first | exact (Kd.R_elder' (by (with_reducible repeat (first | apply Kd.R_alloc | apply Kd.R_drewN | apply Kd.R_drew)); exact (Q_HO128 h0_)) (Kd.R_base ho20) hb) | exact Kd.R_mono (Kd.R_elder' (by (with_reducible repeat (first | apply Kd.R_alloc | apply Kd.R_drewN | apply Kd.R_drew)); exact (Q_HO128 h0_)) (Kd.R_base ho20) hb) (fun _ h_ => by first | trivial | exact h_ | exact h_.1))
 clear HO110
 clear HO113
 clear HB
 have HO110 := n0_
 have HO113 := n1_
 have HO117 := n2_
 have HB := n3_
 clear n0_ n1_ n2_ n3_
 clear hb ho20
 refine hK.out _ _ ⟨v116, v121, v124, v127, v131, v138, v141, (by rw [ha.out]; exact putSel_upk 11 hb_ rfl rfl rfl), (rq HO110.out), (rq HO113.out), (bq HB.out), fun _ => (rq HO117.out), z_HO122, off_ (hoff 20 (by kernel_rfl)), z_HO128, off_ (hoff 26 (by kernel_rfl)), off_ (hoff 29 (by kernel_rfl)), off_ (hoff 30 (by kernel_rfl))⟩)
 refine steps_cons ?_ ?_
 ·(
 rintro b a w' ⟨v116, v121, v124, v127, v131, v138, v141, ha, Q_HO110, Q_HO113, Q_HB, Q_HO117, Q_HO122, Q_HO125, Q_HO128, Q_HO132, Q_HO139, Q_HO142⟩ hb_ hon hoff
 refine ⟨_, rfl, fun K hK => ?_⟩
 have e2 : a.tmps[2]? = some (.slice (some ad114) t111.length co17) := by rw [ha]; exact (putSel_off rfl).trans rfl
 have e19 : a.tmps[19]? = some (.bool (((rd_T28 t111 2).f1) == 3)) := by rw [ha]; exact putSel_on (e := (10, 19, .bool (((rd_T28 t111 2).f1) == 3))) 9 rfl rfl (hon 10 (by kernel_rfl)) rfl
 replace ha := Aside0.mk ha
 have HO110 := Aside0.mk Q_HO110
 have HO113 := Aside0.mk Q_HO113
 have HB := Aside0.mk Q_HB
 refine value_ (w1 := w') (v := .slice (some ad114) t111.length co17) (wanted_on rfl rfl rfl (e19.trans (by first | rfl | (simp [*]; done)))) rfl ?_ ?_
 ·(
 go_simp
 (try simp only [i64_w])
 try rfl)
 refine hK.out _ _ ⟨v116, v121, v124, v127, v131, v138, v141, (by rw [ha.out]; exact putSel_upk 12 hb_ rfl rfl rfl), Q_HO110, Q_HO113, Q_HB, Q_HO117, off_ (hoff 19 (by kernel_rfl)), off_ (hoff 20 (by kernel_rfl)), Q_HO128, off_ (hoff 26 (by kernel_rfl)), off_ (hoff 29 (by kernel_rfl)), off_ (hoff 30 (by kernel_rfl))⟩)
 refine steps_cons ?_ ?_
 ·(
 rintro b a w' ⟨v116, v121, v124, v127, v131, v138, v141, ha, Q_HO110, Q_HO113, Q_HB, Q_HO117, Q_HO122, Q_HO125, Q_HO128, Q_HO132, Q_HO139, Q_HO142⟩ hb_ hon hoff
 refine ⟨_, rfl, fun K hK => ?_⟩
 have e22 : a.tmps[22]? = some (.slice (some ad114) t111.length co17) := by rw [ha]; exact putSel_on (e := (13, 22, .slice (some ad114) t111.length co17)) 12 rfl rfl (hon 13 (by kernel_rfl)) rfl
 have e19 : a.tmps[19]? = some (.bool (((rd_T28 t111 2).f1) == 3)) := by rw [ha]; exact putSel_on (e := (10, 19, .bool (((rd_T28 t111 2).f1) == 3))) 9 rfl rfl (hon 10 (by kernel_rfl)) rfl
 replace ha := Aside0.mk ha
 have HO110 := Aside0.mk Q_HO110
 have HO113 := Aside0.mk Q_HO113
 have HB := Aside0.mk Q_HB
 refine value_ (w1 := w') (v := .pointer (some ad114)) (wanted_on rfl rfl rfl (e19.trans (by first | rfl | (simp [*]; done)))) rfl ?_ ?_
 ·(
 go_simp
 (try simp only [i64_w])
 try rfl)
 refine hK.out _ _ ⟨v116, v121, v124, v127, v131, v138, v141, (by rw [ha.out]; exact putSel_upk 13 hb_ rfl rfl rfl), Q_HO110, Q_HO113, Q_HB, Q_HO117, off_ (hoff 19 (by kernel_rfl)), off_ (hoff 20 (by kernel_rfl)), Q_HO128, off_ (hoff 26 (by kernel_rfl)), off_ (hoff 29 (by kernel_rfl)), off_ (hoff 30 (by kernel_rfl))⟩)
 refine steps_cons ?_ ?_
 ·(
 rintro b a w' ⟨v116, v121, v124, v127, v131, v138, v141, ha, Q_HO110, Q_HO113, Q_HB, Q_HO117, Q_HO122, Q_HO125, Q_HO128, Q_HO132, Q_HO139, Q_HO142⟩ hb_ hon hoff
 refine ⟨_, rfl, fun K hK => ?_⟩
 have e23 : a.tmps[23]? = some (.pointer (some ad114)) := by rw [ha]; exact putSel_on (e := (14, 23, .pointer (some ad114))) 13 rfl rfl (hon 14 (by kernel_rfl)) rfl
 have e19 : a.tmps[19]? = some (.bool (((rd_T28 t111 2).f1) == 3)) := by rw [ha]; exact putSel_on (e := (10, 19, .bool (((rd_T28 t111 2).f1) == 3))) 9 rfl rfl (hon 10 (by kernel_rfl)) rfl
 replace ha := Aside0.mk ha
 have HO110 := Aside0.mk Q_HO110
 have HO113 := Aside0.mk Q_HO113
 have HB := Aside0.mk Q_HB
 obtain ⟨ad118_z, e118_z, hx118_0_z, hx118_1_z, hx118_2_z, hx118_3_z, hx118_4_z, hx118_5_z, hx118_6_z, hx118_7_z, hx118_8_z⟩ := at_T28 (Kd.R_reads' HO113.out).2.2 0 (of_eq_true p118) (of_eq_true q118)
 cases e118_z
 have hs9_ : w'.cell? ad114 = some (.int .i64 ((rd_T28 t111 0).f0)) := (by first | exact hx118_0_z | (have h_ := hx118_0_z; (try simp only [Int.reduceToNat, Nat.zero_mul, Nat.reduceMul, Nat.reduceEqDiff, Go.Addr.add, ↓reduceIte, Addr.add_zero'] at h_); exact h_))
 have hs10_ : w'.cell? ⟨ad114.block, ad114.off + 1, none⟩ = some (.int .i64 ((rd_T28 t111 0).f1)) := (by first | exact hx118_1_z | (have h_ := hx118_1_z; (try simp only [Int.reduceToNat, Nat.zero_mul, Nat.reduceMul, Nat.reduceEqDiff, Go.Addr.add, ↓reduceIte, Addr.add_zero'] at h_); exact h_))
 have hs11_ : w'.cell? ⟨ad114.block, ad114.off + 2, none⟩ = some (.int .i64 ((rd_T28 t111 0).f2.f0)) := (by first | exact hx118_2_z | (have h_ := hx118_2_z; (try simp only [Int.reduceToNat, Nat.zero_mul, Nat.reduceMul, Nat.reduceEqDiff, Go.Addr.add, ↓reduceIte, Addr.add_zero'] at h_); exact h_))
 have hs12_ : w'.cell? ⟨ad114.block, ad114.off + 3, none⟩ = some (.int .i64 ((rd_T28 t111 0).f2.f1)) := (by first | exact hx118_3_z | (have h_ := hx118_3_z; (try simp only [Int.reduceToNat, Nat.zero_mul, Nat.reduceMul, Nat.reduceEqDiff, Go.Addr.add, ↓reduceIte, Addr.add_zero'] at h_); exact h_))
 have hs13_ : w'.cell? ⟨ad114.block, ad114.off + 4, none⟩ = some (.int .i64 ((rd_T28 t111 0).f2.f2)) := (by first | exact hx118_4_z | (have h_ := hx118_4_z; (try simp only [Int.reduceToNat, Nat.zero_mul, Nat.reduceMul, Nat.reduceEqDiff, Go.Addr.add, ↓reduceIte, Addr.add_zero'] at h_); exact h_))
 have hs14_ : w'.cell? ⟨ad114.block, ad114.off + 5, none⟩ = some (.int .i64 ((rd_T28 t111 0).f2.f3.f0)) := (by first | exact hx118_5_z | (have h_ := hx118_5_z; (try simp only [Int.reduceToNat, Nat.zero_mul, Nat.reduceMul, Nat.reduceEqDiff, Go.Addr.add, ↓reduceIte, Addr.add_zero'] at h_); exact h_))
 have hs15_ : w'.cell? ⟨ad114.block, ad114.off + 6, none⟩ = some (.int .i64 ((rd_T28 t111 0).f2.f3.f1)) := (by first | exact hx118_6_z | (have h_ := hx118_6_z; (try simp only [Int.reduceToNat, Nat.zero_mul, Nat.reduceMul, Nat.reduceEqDiff, Go.Addr.add, ↓reduceIte, Addr.add_zero'] at h_); exact h_))
 have hs16_ : w'.cell? ⟨ad114.block, ad114.off + 7, none⟩ = some (.int .i64 ((rd_T28 t111 0).f2.f4)) := (by first | exact hx118_7_z | (have h_ := hx118_7_z; (try simp only [Int.reduceToNat, Nat.zero_mul, Nat.reduceMul, Nat.reduceEqDiff, Go.Addr.add, ↓reduceIte, Addr.add_zero'] at h_); exact h_))
 have hs17_ : w'.cell? ⟨ad114.block, ad114.off + 8, none⟩ = some (.int .i64 ((rd_T28 t111 0).f2.f5)) := (by first | exact hx118_8_z | (have h_ := hx118_8_z; (try simp only [Int.reduceToNat, Nat.zero_mul, Nat.reduceMul, Nat.reduceEqDiff, Go.Addr.add, ↓reduceIte, Addr.add_zero'] at h_); exact h_))
 refine value_ (w1 := w') (v := .agg #[.int .i64 ((rd_T28 t111 0).f0), .int .i64 ((rd_T28 t111 0).f1), .int .i64 ((rd_T28 t111 0).f2.f0), .int .i64 ((rd_T28 t111 0).f2.f1), .int .i64 ((rd_T28 t111 0).f2.f2), .int .i64 ((rd_T28 t111 0).f2.f3.f0), .int .i64 ((rd_T28 t111 0).f2.f3.f1), .int .i64 ((rd_T28 t111 0).f2.f4), .int .i64 ((rd_T28 t111 0).f2.f5)]) (wanted_on rfl rfl rfl (e19.trans (by first | rfl | (simp [*]; done)))) rfl ?_ ?_
 ·(
 go_simp
 (try simp only [i64_w])
 try rfl)
 refine hK.out _ _ ⟨v116, v121, v124, v127, v131, v138, v141, (by rw [ha.out]; exact putSel_upk 14 hb_ rfl rfl rfl), Q_HO110, Q_HO113, Q_HB, Q_HO117, off_ (hoff 19 (by kernel_rfl)), off_ (hoff 20 (by kernel_rfl)), Q_HO128, off_ (hoff 26 (by kernel_rfl)), off_ (hoff 29 (by kernel_rfl)), off_ (hoff 30 (by kernel_rfl))⟩)
 refine steps_cons ?_ ?_
 ·(
 rintro b a w' ⟨v116, v121, v124, v127, v131, v138, v141, ha, Q_HO110, Q_HO113, Q_HB, Q_HO117, Q_HO122, Q_HO125, Q_HO128, Q_HO132, Q_HO139, Q_HO142⟩ hb_ hon hoff
 refine ⟨_, rfl, fun K hK => ?_⟩
 have e2 : a.tmps[2]? = some (.slice (some ad114) t111.length co17) := by rw [ha]; exact (putSel_off rfl).trans rfl
 have e19 : a.tmps[19]? = some (.bool (((rd_T28 t111 2).f1) == 3)) := by rw [ha]; exact putSel_on (e := (10, 19, .bool (((rd_T28 t111 2).f1) == 3))) 9 rfl rfl (hon 10 (by kernel_rfl)) rfl
 replace ha := Aside0.mk ha
 have HO110 := Aside0.mk Q_HO110
 have HO113 := Aside0.mk Q_HO113
 have HB := Aside0.mk Q_HB
 refine value_ (w1 := w') (v := .slice (some ad114) t111.length co17) (wanted_on rfl rfl rfl (e19.trans (by first | rfl | (simp [*]; done)))) rfl ?_ ?_
 ·(
 go_simp
 (try simp only [i64_w])
 try rfl)
 refine hK.out _ _ ⟨v116, v121, v124, v127, v131, v138, v141, (by rw [ha.out]; exact putSel_upk 15 hb_ rfl rfl rfl), Q_HO110, Q_HO113, Q_HB, Q_HO117, off_ (hoff 19 (by kernel_rfl)), off_ (hoff 20 (by kernel_rfl)), Q_HO128, off_ (hoff 26 (by kernel_rfl)), off_ (hoff 29 (by kernel_rfl)), off_ (hoff 30 (by kernel_rfl))⟩)
 refine steps_cons ?_ ?_
 ·(
 rintro b a w' ⟨v116, v121, v124, v127, v131, v138, v141, ha, Q_HO110, Q_HO113, Q_HB, Q_HO117, Q_HO122, Q_HO125, Q_HO128, Q_HO132, Q_HO139, Q_HO142⟩ hb_ hon hoff
 refine ⟨_, rfl, fun K hK => ?_⟩
 have e25 : a.tmps[25]? = some (.slice (some ad114) t111.length co17) := by rw [ha]; exact putSel_on (e := (16, 25, .slice (some ad114) t111.length co17)) 15 rfl rfl (hon 16 (by kernel_rfl)) rfl
 have e19 : a.tmps[19]? = some (.bool (((rd_T28 t111 2).f1) == 3)) := by rw [ha]; exact putSel_on (e := (10, 19, .bool (((rd_T28 t111 2).f1) == 3))) 9 rfl rfl (hon 10 (by kernel_rfl)) rfl
 replace ha := Aside0.mk ha
 have HO110 := Aside0.mk Q_HO110
 have HO113 := Aside0.mk Q_HO113
 have HB := Aside0.mk Q_HB
 refine value_ (w1 := w') (v := .pointer (some (ad114.add 18))) (wanted_on rfl rfl rfl (e19.trans (by first | rfl | (simp [*]; done)))) rfl ?_ ?_
 ·(
 go_simp
 (try simp only [i64_w])
 try rfl)
 refine hK.out _ _ ⟨v116, v121, v124, v127, v131, v138, v141, (by rw [ha.out]; exact putSel_upk 16 hb_ rfl rfl rfl), Q_HO110, Q_HO113, Q_HB, Q_HO117, off_ (hoff 19 (by kernel_rfl)), off_ (hoff 20 (by kernel_rfl)), Q_HO128, off_ (hoff 26 (by kernel_rfl)), off_ (hoff 29 (by kernel_rfl)), off_ (hoff 30 (by kernel_rfl))⟩)
 refine steps_cons ?_ ?_
 ·(
 rintro b a w' ⟨v116, v121, v124, v127, v131, v138, v141, ha, Q_HO110, Q_HO113, Q_HB, Q_HO117, Q_HO122, Q_HO125, Q_HO128, Q_HO132, Q_HO139, Q_HO142⟩ hb_ hon hoff
 refine ⟨_, rfl, fun K hK => ?_⟩
 have e26 : a.tmps[26]? = some (.pointer (some (ad114.add 18))) := by rw [ha]; exact putSel_on (e := (17, 26, .pointer (some (ad114.add 18)))) 16 rfl rfl (hon 17 (by kernel_rfl)) rfl
 have e19 : a.tmps[19]? = some (.bool (((rd_T28 t111 2).f1) == 3)) := by rw [ha]; exact putSel_on (e := (10, 19, .bool (((rd_T28 t111 2).f1) == 3))) 9 rfl rfl (hon 10 (by kernel_rfl)) rfl
 replace ha := Aside0.mk ha
 have HO110 := Aside0.mk Q_HO110
 have HO113 := Aside0.mk Q_HO113
 have HB := Aside0.mk Q_HB
 obtain ⟨ad119_z, e119_z, hx119_0_z, hx119_1_z, hx119_2_z, hx119_3_z, hx119_4_z, hx119_5_z, hx119_6_z, hx119_7_z, hx119_8_z⟩ := at_T28 (Kd.R_reads' HO113.out).2.2 2 (of_eq_true p119) (of_eq_true q119)
 cases e119_z
 have hs18_ : w'.cell? ⟨ad114.block, ad114.off + 18, none⟩ = some (.int .i64 ((rd_T28 t111 2).f0)) := (by first | exact hx119_0_z | (have h_ := hx119_0_z; (try simp only [Int.reduceToNat, Nat.zero_mul, Nat.reduceMul, Nat.reduceEqDiff, Go.Addr.add, ↓reduceIte, Addr.add_zero'] at h_); exact h_))
 have hs19_ : w'.cell? ⟨ad114.block, ad114.off + 18 + 1, none⟩ = some (.int .i64 ((rd_T28 t111 2).f1)) := (by first | exact hx119_1_z | (have h_ := hx119_1_z; (try simp only [Int.reduceToNat, Nat.zero_mul, Nat.reduceMul, Nat.reduceEqDiff, Go.Addr.add, ↓reduceIte, Addr.add_zero'] at h_); exact h_))
 have hs20_ : w'.cell? ⟨ad114.block, ad114.off + 18 + 2, none⟩ = some (.int .i64 ((rd_T28 t111 2).f2.f0)) := (by first | exact hx119_2_z | (have h_ := hx119_2_z; (try simp only [Int.reduceToNat, Nat.zero_mul, Nat.reduceMul, Nat.reduceEqDiff, Go.Addr.add, ↓reduceIte, Addr.add_zero'] at h_); exact h_))
 have hs21_ : w'.cell? ⟨ad114.block, ad114.off + 18 + 3, none⟩ = some (.int .i64 ((rd_T28 t111 2).f2.f1)) := (by first | exact hx119_3_z | (have h_ := hx119_3_z; (try simp only [Int.reduceToNat, Nat.zero_mul, Nat.reduceMul, Nat.reduceEqDiff, Go.Addr.add, ↓reduceIte, Addr.add_zero'] at h_); exact h_))
 have hs22_ : w'.cell? ⟨ad114.block, ad114.off + 18 + 4, none⟩ = some (.int .i64 ((rd_T28 t111 2).f2.f2)) := (by first | exact hx119_4_z | (have h_ := hx119_4_z; (try simp only [Int.reduceToNat, Nat.zero_mul, Nat.reduceMul, Nat.reduceEqDiff, Go.Addr.add, ↓reduceIte, Addr.add_zero'] at h_); exact h_))
 have hs23_ : w'.cell? ⟨ad114.block, ad114.off + 18 + 5, none⟩ = some (.int .i64 ((rd_T28 t111 2).f2.f3.f0)) := (by first | exact hx119_5_z | (have h_ := hx119_5_z; (try simp only [Int.reduceToNat, Nat.zero_mul, Nat.reduceMul, Nat.reduceEqDiff, Go.Addr.add, ↓reduceIte, Addr.add_zero'] at h_); exact h_))
 have hs24_ : w'.cell? ⟨ad114.block, ad114.off + 18 + 6, none⟩ = some (.int .i64 ((rd_T28 t111 2).f2.f3.f1)) := (by first | exact hx119_6_z | (have h_ := hx119_6_z; (try simp only [Int.reduceToNat, Nat.zero_mul, Nat.reduceMul, Nat.reduceEqDiff, Go.Addr.add, ↓reduceIte, Addr.add_zero'] at h_); exact h_))
 have hs25_ : w'.cell? ⟨ad114.block, ad114.off + 18 + 7, none⟩ = some (.int .i64 ((rd_T28 t111 2).f2.f4)) := (by first | exact hx119_7_z | (have h_ := hx119_7_z; (try simp only [Int.reduceToNat, Nat.zero_mul, Nat.reduceMul, Nat.reduceEqDiff, Go.Addr.add, ↓reduceIte, Addr.add_zero'] at h_); exact h_))
 have hs26_ : w'.cell? ⟨ad114.block, ad114.off + 18 + 8, none⟩ = some (.int .i64 ((rd_T28 t111 2).f2.f5)) := (by first | exact hx119_8_z | (have h_ := hx119_8_z; (try simp only [Int.reduceToNat, Nat.zero_mul, Nat.reduceMul, Nat.reduceEqDiff, Go.Addr.add, ↓reduceIte, Addr.add_zero'] at h_); exact h_))
 refine value_ (w1 := w') (v := .agg #[.int .i64 ((rd_T28 t111 2).f0), .int .i64 ((rd_T28 t111 2).f1), .int .i64 ((rd_T28 t111 2).f2.f0), .int .i64 ((rd_T28 t111 2).f2.f1), .int .i64 ((rd_T28 t111 2).f2.f2), .int .i64 ((rd_T28 t111 2).f2.f3.f0), .int .i64 ((rd_T28 t111 2).f2.f3.f1), .int .i64 ((rd_T28 t111 2).f2.f4), .int .i64 ((rd_T28 t111 2).f2.f5)]) (wanted_on rfl rfl rfl (e19.trans (by first | rfl | (simp [*]; done)))) rfl ?_ ?_
 ·(
 go_simp
 (try simp only [i64_w])
 try rfl)
 refine hK.out _ _ ⟨v116, v121, v124, v127, v131, v138, v141, (by rw [ha.out]; exact putSel_upk 17 hb_ rfl rfl rfl), Q_HO110, Q_HO113, Q_HB, Q_HO117, off_ (hoff 19 (by kernel_rfl)), off_ (hoff 20 (by kernel_rfl)), Q_HO128, off_ (hoff 26 (by kernel_rfl)), off_ (hoff 29 (by kernel_rfl)), off_ (hoff 30 (by kernel_rfl))⟩)
 refine steps_cons ?_ ?_
 ·(
 rintro b a w' ⟨v116, v121, v124, v127, v131, v138, v141, ha, Q_HO110, Q_HO113, Q_HB, Q_HO117, Q_HO122, Q_HO125, Q_HO128, Q_HO132, Q_HO139, Q_HO142⟩ hb_ hon hoff
 refine ⟨_, rfl, fun K hK => ?_⟩
 have e24 : a.tmps[24]? = some (.agg #[.int .i64 ((rd_T28 t111 0).f0), .int .i64 ((rd_T28 t111 0).f1), .int .i64 ((rd_T28 t111 0).f2.f0), .int .i64 ((rd_T28 t111 0).f2.f1), .int .i64 ((rd_T28 t111 0).f2.f2), .int .i64 ((rd_T28 t111 0).f2.f3.f0), .int .i64 ((rd_T28 t111 0).f2.f3.f1), .int .i64 ((rd_T28 t111 0).f2.f4), .int .i64 ((rd_T28 t111 0).f2.f5)]) := by rw [ha]; exact putSel_on (e := (15, 24, .agg #[.int .i64 ((rd_T28 t111 0).f0), .int .i64 ((rd_T28 t111 0).f1), .int .i64 ((rd_T28 t111 0).f2.f0), .int .i64 ((rd_T28 t111 0).f2.f1), .int .i64 ((rd_T28 t111 0).f2.f2), .int .i64 ((rd_T28 t111 0).f2.f3.f0), .int .i64 ((rd_T28 t111 0).f2.f3.f1), .int .i64 ((rd_T28 t111 0).f2.f4), .int .i64 ((rd_T28 t111 0).f2.f5)])) 14 rfl rfl (hon 15 (by kernel_rfl)) rfl
 have e27 : a.tmps[27]? = some (.agg #[.int .i64 ((rd_T28 t111 2).f0), .int .i64 ((rd_T28 t111 2).f1), .int .i64 ((rd_T28 t111 2).f2.f0), .int .i64 ((rd_T28 t111 2).f2.f1), .int .i64 ((rd_T28 t111 2).f2.f2), .int .i64 ((rd_T28 t111 2).f2.f3.f0), .int .i64 ((rd_T28 t111 2).f2.f3.f1), .int .i64 ((rd_T28 t111 2).f2.f4), .int .i64 ((rd_T28 t111 2).f2.f5)]) := by rw [ha]; exact putSel_on (e := (18, 27, .agg #[.int .i64 ((rd_T28 t111 2).f0), .int .i64 ((rd_T28 t111 2).f1), .int .i64 ((rd_T28 t111 2).f2.f0), .int .i64 ((rd_T28 t111 2).f2.f1), .int .i64 ((rd_T28 t111 2).f2.f2), .int .i64 ((rd_T28 t111 2).f2.f3.f0), .int .i64 ((rd_T28 t111 2).f2.f3.f1), .int .i64 ((rd_T28 t111 2).f2.f4), .int .i64 ((rd_T28 t111 2).f2.f5)])) 17 rfl rfl (hon 18 (by kernel_rfl)) rfl
 have e19 : a.tmps[19]? = some (.bool (((rd_T28 t111 2).f1) == 3)) := by rw [ha]; exact putSel_on (e := (10, 19, .bool (((rd_T28 t111 2).f1) == 3))) 9 rfl rfl (hon 10 (by kernel_rfl)) rfl
 replace ha := Aside0.mk ha
 have HO110 := Aside0.mk Q_HO110
 have HO113 := Aside0.mk Q_HO113
 have HB := Aside0.mk Q_HB
 refine Kd.R_lit_step k28 _ 28 ?hg (N := 28) ?hd (xs := ([(⟨(rd_T28 t111 0).f0, (rd_T28 t111 0).f1, (⟨(rd_T28 t111 0).f2.f0, (rd_T28 t111 0).f2.f1, (rd_T28 t111 0).f2.f2, (⟨(rd_T28 t111 0).f2.f3.f0, (rd_T28 t111 0).f2.f3.f1⟩ : S24), (rd_T28 t111 0).f2.f4, (rd_T28 t111 0).f2.f5⟩ : S26)⟩ : S28), (⟨(rd_T28 t111 2).f0, (rd_T28 t111 2).f1, (⟨(rd_T28 t111 2).f2.f0, (rd_T28 t111 2).f2.f1, (rd_T28 t111 2).f2.f2, (⟨(rd_T28 t111 2).f2.f3.f0, (rd_T28 t111 2).f2.f3.f1⟩ : S24), (rd_T28 t111 2).f2.f4, (rd_T28 t111 2).f2.f5⟩ : S26)⟩ : S28)] : List (S28))) (inner := [.int .i64 ((rd_T28 t111 0).f0), .int .i64 ((rd_T28 t111 0).f1), .int .i64 ((rd_T28 t111 0).f2.f0), .int .i64 ((rd_T28 t111 0).f2.f1), .int .i64 ((rd_T28 t111 0).f2.f2), .int .i64 ((rd_T28 t111 0).f2.f3.f0), .int .i64 ((rd_T28 t111 0).f2.f3.f1), .int .i64 ((rd_T28 t111 0).f2.f4), .int .i64 ((rd_T28 t111 0).f2.f5), .int .i64 ((rd_T28 t111 2).f0), .int .i64 ((rd_T28 t111 2).f1), .int .i64 ((rd_T28 t111 2).f2.f0), .int .i64 ((rd_T28 t111 2).f2.f1), .int .i64 ((rd_T28 t111 2).f2.f2), .int .i64 ((rd_T28 t111 2).f2.f3.f0), .int .i64 ((rd_T28 t111 2).f2.f3.f1), .int .i64 ((rd_T28 t111 2).f2.f4), .int .i64 ((rd_T28 t111 2).f2.f5)]) (ok := fun _ => True) (okp := fun _ => True) ?hr ?hp (fun _ hk => hk) trivial (Below.refl _ _) (Nat.le_refl _) (by simp) ?_; (case hd => rfl); (case hg => first | rfl | (refine wanted_on rfl rfl rfl ?_; first | assumption | (simp [*]; done))); (case hr => first | (go_simp; done) | (go_simp; rfl)); (case hp => exact (Reps.c9 (show Kd.M k28 _ _ _ (⟨(rd_T28 t111 0).f0, (rd_T28 t111 0).f1, (⟨(rd_T28 t111 0).f2.f0, (rd_T28 t111 0).f2.f1, (rd_T28 t111 0).f2.f2, (⟨(rd_T28 t111 0).f2.f3.f0, (rd_T28 t111 0).f2.f3.f1⟩ : S24), (rd_T28 t111 0).f2.f4, (rd_T28 t111 0).f2.f5⟩ : S26)⟩ : S28) [.int .i64 ((rd_T28 t111 0).f0), .int .i64 ((rd_T28 t111 0).f1), .int .i64 ((rd_T28 t111 0).f2.f0), .int .i64 ((rd_T28 t111 0).f2.f1), .int .i64 ((rd_T28 t111 0).f2.f2), .int .i64 ((rd_T28 t111 0).f2.f3.f0), .int .i64 ((rd_T28 t111 0).f2.f3.f1), .int .i64 ((rd_T28 t111 0).f2.f4), .int .i64 ((rd_T28 t111 0).f2.f5)] from (k28_mkM _ _ _ (⟨(rd_T28 t111 0).f0, (rd_T28 t111 0).f1, (⟨(rd_T28 t111 0).f2.f0, (rd_T28 t111 0).f2.f1, (rd_T28 t111 0).f2.f2, (⟨(rd_T28 t111 0).f2.f3.f0, (rd_T28 t111 0).f2.f3.f1⟩ : S24), (rd_T28 t111 0).f2.f4, (rd_T28 t111 0).f2.f5⟩ : S26)⟩ : S28) )) (Reps.c9 (show Kd.M k28 _ _ _ (⟨(rd_T28 t111 2).f0, (rd_T28 t111 2).f1, (⟨(rd_T28 t111 2).f2.f0, (rd_T28 t111 2).f2.f1, (rd_T28 t111 2).f2.f2, (⟨(rd_T28 t111 2).f2.f3.f0, (rd_T28 t111 2).f2.f3.f1⟩ : S24), (rd_T28 t111 2).f2.f4, (rd_T28 t111 2).f2.f5⟩ : S26)⟩ : S28) [.int .i64 ((rd_T28 t111 2).f0), .int .i64 ((rd_T28 t111 2).f1), .int .i64 ((rd_T28 t111 2).f2.f0), .int .i64 ((rd_T28 t111 2).f2.f1), .int .i64 ((rd_T28 t111 2).f2.f2), .int .i64 ((rd_T28 t111 2).f2.f3.f0), .int .i64 ((rd_T28 t111 2).f2.f3.f1), .int .i64 ((rd_T28 t111 2).f2.f4), .int .i64 ((rd_T28 t111 2).f2.f5)] from (k28_mkM _ _ _ (⟨(rd_T28 t111 2).f0, (rd_T28 t111 2).f1, (⟨(rd_T28 t111 2).f2.f0, (rd_T28 t111 2).f2.f1, (rd_T28 t111 2).f2.f2, (⟨(rd_T28 t111 2).f2.f3.f0, (rd_T28 t111 2).f2.f3.f1⟩ : S24), (rd_T28 t111 2).f2.f4, (rd_T28 t111 2).f2.f5⟩ : S26)⟩ : S28) )) (Reps.none _ _))))
 intro v121 w19 ho20 hb hg_ hnew_
 clear hg_ hnew_
 (first | rw [← Ny120.out] at ho20 | (simp only [Int.reduceToNat] at ho20; rw [← Ny120.out] at ho20))
 have n0_ := Aside0.mk (Kd.R_below (rq HO110.out) hb)
 have n1_ := Aside0.mk (Kd.R_elder' (rq HO113.out) (Kd.R_base ho20) hb)
 have n2_ := Aside0.mk (Kd.R_lower (Kd.R_new' ho20 (Kd.R_lt (rq HO113.out))) (below_size (bq HB.out)))
 have n3_ := Aside0.mk (below_step (bq HB.out) hb)
 have z_HO117 := fun (h0_ : b 12 = true) => (show Kd.R (Kd.int .i64) 3 w19 w.heap.size (fun _ => True) v116 y115 from by first | exact (Kd.R_below (by (with_reducible repeat (first | apply Kd.R_alloc | apply Kd.R_drewN | apply Kd.R_drew)); exact (Q_HO117 h0_)) hb) | exact Kd.R_mono (Kd.R_below (by (with_reducible repeat (first | apply Kd.R_alloc | apply Kd.R_drewN | apply Kd.R_drew)); exact (Q_HO117 h0_)) hb) (fun _ h_ => by first | trivial | exact h_ | exact h_.1))
 have z_HO128 := fun (h0_ : b 21 = true) => (show Kd.R (Kd.int .i64) 3 w19 w.heap.size (fun _ => True) v127 y126 from by first | exact (Kd.R_below (by (with_reducible repeat (first | apply Kd.R_alloc | apply Kd.R_drewN | apply Kd.R_drew)); exact (Q_HO128 h0_)) hb) | exact Kd.R_mono (Kd.R_below (by (with_reducible repeat (first | apply Kd.R_alloc | apply Kd.R_drewN | apply Kd.R_drew)); exact (Q_HO128 h0_)) hb) (fun _ h_ => by first | trivial | exact h_ | exact h_.1))
 clear HO110
 clear HO113
 clear HB
 have HO110 := n0_
 have HO113 := n1_
 have HO122 := n2_
 have HB := n3_
 clear n0_ n1_ n2_ n3_
 clear hb ho20
 refine hK.out _ _ ⟨v116, v121, v124, v127, v131, v138, v141, (by rw [ha.out]; exact putSel_upk 18 hb_ rfl rfl rfl), (rq HO110.out), (by (with_reducible repeat (first | apply Kd.R_alloc | apply Kd.R_drewN | apply Kd.R_drew)); exact Kd.R_mono HO113.out (fun _ hk => by first | exact hk.2 | exact trivial)), (bq HB.out), z_HO117, fun _ => (by (with_reducible repeat (first | apply Kd.R_alloc | apply Kd.R_drewN | apply Kd.R_drew)); exact Kd.R_mono HO122.out (fun _ hk => by first | exact hk.2 | exact trivial)), off_ (hoff 20 (by kernel_rfl)), z_HO128, off_ (hoff 26 (by kernel_rfl)), off_ (hoff 29 (by kernel_rfl)), off_ (hoff 30 (by kernel_rfl))⟩)
 refine steps_cons ?_ ?_
 ·(
 rintro b a w' ⟨v116, v121, v124, v127, v131, v138, v141, ha, Q_HO110, Q_HO113, Q_HB, Q_HO117, Q_HO122, Q_HO125, Q_HO128, Q_HO132, Q_HO139, Q_HO142⟩ hb_ hon hoff
 refine ⟨_, rfl, fun K hK => ?_⟩
 have e20 : a.tmps[20]? = some (.slice Ao14 y108.length co14) := by rw [ha]; exact putSel_on (e := (11, 20, .slice Ao14 y108.length co14)) 10 rfl rfl (hon 11 (by kernel_rfl)) rfl
 have e21 : a.tmps[21]? = some (v116) := by rw [ha]; exact putSel_on (e := (12, 21, v116)) 11 rfl rfl (hon 12 (by kernel_rfl)) rfl
 have e28 : a.tmps[28]? = some (v121) := by rw [ha]; exact putSel_on (e := (19, 28, v121)) 18 rfl rfl (hon 19 (by kernel_rfl)) rfl
 have e19 : a.tmps[19]? = some (.bool (((rd_T28 t111 2).f1) == 3)) := by rw [ha]; exact putSel_on (e := (10, 19, .bool (((rd_T28 t111 2).f1) == 3))) 9 rfl rfl (hon 10 (by kernel_rfl)) rfl
 replace ha := Aside0.mk ha
 have HO110 := Aside0.mk Q_HO110
 have HO113 := Aside0.mk Q_HO113
 have HB := Aside0.mk Q_HB
 have HO117 := Aside0.mk (Q_HO117 (hon 12 (by kernel_rfl)))
 have HO122 := Aside0.mk (Q_HO122 (hon 19 (by kernel_rfl)))
 obtain ⟨Ao24, co24, eo24⟩ := Kd.R_slice HO117.out
 (first | subst eo24 | (injection eo24 with f1_ f2_ f3_; have f4_ := f1_.symm; have f5_ := f3_.symm; clear f1_ f2_ f3_; subst f4_; subst f5_))
 obtain ⟨Ao25, co25, eo25⟩ := Kd.R_slice HO122.out
 (first | subst eo25 | (injection eo25 with f1_ f2_ f3_; have f4_ := f1_.symm; have f5_ := f3_.symm; clear f1_ f2_ f3_; subst f4_; subst f5_))
 refine goes_ Try.func21 (by kernel_rfl) rfl #[.int .i64 1, .slice Ao14 y108.length co14, .slice Ao24 y115.length co24, .slice Ao25 y120.length co25] (by first | rfl | (refine wanted_on rfl rfl rfl ?_; first | assumption | (simp [*]; done))) rfl rfl (by first | (simp only [List.map_toArray, List.map_cons, List.map_nil, Act.eval, Array.getD_eq_getD_getElem?, Option.getD_some, e20, e21, e28, e19]; done) | (simp only [List.map_toArray, List.map_cons, List.map_nil, Act.eval, Array.getD_eq_getD_getElem?, Option.getD_some, e20, e21, e28, e19]; rfl)) ?_
 with_reducible refine (determinant_Restorable.calls 1 _ _ y108 _ _ y115 _ _ y120 t123 _ ?side1 ?side2 ?side3 ?side4 ?side5 ?side6 A6.out).mono ?_
 (case side1 => exact crd (Kd.R_reads' HO110.out).2.2)
 (case side2 => exact (Kd.R_reads' HO110.out).2.1)
 (case side3 => exact crd (Kd.R_reads' HO117.out).2.2)
 (case side4 => exact (Kd.R_reads' HO117.out).2.1)
 (case side5 => exact crd (Kd.R_reads' HO122.out).2.2)
 (case side6 => exact (Kd.R_reads' HO122.out).2.1)
 rintro e w26 ⟨v124, rfl, ho0, hb⟩
 refine ⟨_, rfl, ?_⟩
 have n0_ := Aside0.mk (Kd.R_below (rq HO110.out) hb)
 have n1_ := Aside0.mk (Kd.R_below (rq HO113.out) hb)
 have n2_ := Aside0.mk (Kd.R_elder' (rq HO117.out) (Kd.R_base ho0) hb)
 have n3_ := Aside0.mk (Kd.R_below (rq HO122.out) hb)
 have n4_ := Aside0.mk (Kd.R_lower (Kd.R_new' ho0 (Kd.R_lt (rq HO117.out))) (below_size (bq HB.out)))
 have n5_ := Aside0.mk (below_step (bq HB.out) hb)
 have z_HO128 := fun (h0_ : b 21 = true) => (show Kd.R (Kd.int .i64) 3 w26 w.heap.size (fun _ => True) v127 y126 from by first | exact (Kd.R_elder' (by (with_reducible repeat (first | apply Kd.R_alloc | apply Kd.R_drewN | apply Kd.R_drew)); exact (Q_HO128 h0_)) (Kd.R_base ho0) hb) | exact Kd.R_mono (Kd.R_elder' (by (with_reducible repeat (first | apply Kd.R_alloc | apply Kd.R_drewN | apply Kd.R_drew)); exact (Q_HO128 h0_)) (Kd.R_base ho0) hb) (fun _ h_ => by first | trivial | exact h_ | exact h_.1))
 clear HO110
 clear HO113
 clear HO117
 clear HO122
 clear HB
 have HO110 := n0_
 have HO113 := n1_
 have HO117 := n2_
 have HO122 := n3_
 have HO125 := n4_
 have HB := n5_
 clear n0_ n1_ n2_ n3_ n4_ n5_
 (try clear hb)
 (try clear hb2)
 (try clear hk)
 (try clear hi)
 (try clear ho0)
 refine hK.out _ _ ⟨.slice Ao24 y115.length co24, .slice Ao25 y120.length co25, v124, v127, v131, v138, v141, (by rw [ha.out]; exact putSel_upk 19 hb_ rfl rfl rfl), (rq HO110.out), (rq HO113.out), (bq HB.out), fun _ => (by (with_reducible repeat (first | apply Kd.R_alloc | apply Kd.R_drewN | apply Kd.R_drew)); exact Kd.R_mono HO117.out (fun _ hk => by first | exact hk.2 | exact trivial)), fun _ => (rq HO122.out), fun _ => (by (with_reducible repeat (first | apply Kd.R_alloc | apply Kd.R_drewN | apply Kd.R_drew)); exact Kd.R_mono HO125.out (fun _ hk => by first | exact hk.2 | exact trivial)), z_HO128, off_ (hoff 26 (by kernel_rfl)), off_ (hoff 29 (by kernel_rfl)), off_ (hoff 30 (by kernel_rfl))⟩)
 refine steps_cons ?_ ?_
 ·(
 rintro b a w' ⟨v116, v121, v124, v127, v131, v138, v141, ha, Q_HO110, Q_HO113, Q_HB, Q_HO117, Q_HO122, Q_HO125, Q_HO128, Q_HO132, Q_HO139, Q_HO142⟩ hb_ hon hoff
 refine ⟨_, rfl, fun K hK => ?_⟩
 have e19 : a.tmps[19]? = some (.bool (((rd_T28 t111 2).f1) == 3)) := by rw [ha]; exact putSel_on (e := (10, 19, .bool (((rd_T28 t111 2).f1) == 3))) 9 rfl rfl (hon 10 (by kernel_rfl)) rfl
 replace ha := Aside0.mk ha
 have HO110 := Aside0.mk Q_HO110
 have HO113 := Aside0.mk Q_HO113
 have HB := Aside0.mk Q_HB
 refine Kd.R_lit_step (Kd.int .i64) _ 3 ?hg (N := 30) ?hd (xs := ([0, 1, 2, 3] : List Int)) (inner := [.int .i64 0, .int .i64 1, .int .i64 2, .int .i64 3]) (ok := fun _ => True) (okp := fun _ => True) ?hr ?hp (fun _ hk => hk) trivial (Below.refl _ _) (Nat.le_refl _) (by simp) ?_; (case hd => rfl); (case hg => first | rfl | (refine wanted_on rfl rfl rfl ?_; first | assumption | (simp [*]; done))); (case hr => first | (go_simp; done) | (go_simp; rfl)); (case hp => exact (Reps.one (show Kd.M (Kd.int .i64) _ _ _ 0 [.int .i64 0] from rfl) (Reps.one (show Kd.M (Kd.int .i64) _ _ _ 1 [.int .i64 1] from rfl) (Reps.one (show Kd.M (Kd.int .i64) _ _ _ 2 [.int .i64 2] from rfl) (Reps.one (show Kd.M (Kd.int .i64) _ _ _ 3 [.int .i64 3] from rfl) (Reps.none _ _))))))
 intro v127 w19 ho20 hb hg_ hnew_
 clear hg_ hnew_
 (first | rw [← Ny126.out] at ho20 | (simp only [Int.reduceToNat] at ho20; rw [← Ny126.out] at ho20))
 have n0_ := Aside0.mk (Kd.R_below (rq HO110.out) hb)
 have n1_ := Aside0.mk (Kd.R_below (rq HO113.out) hb)
 have n2_ := Aside0.mk (Kd.R_lower ho20 (below_size (bq HB.out)))
 have n3_ := Aside0.mk (below_step (bq HB.out) hb)
 have z_HO117 := fun (h0_ : b 12 = true) => (show Kd.R (Kd.int .i64) 3 w19 w.heap.size (fun _ => True) v116 y115 from by first | exact (Kd.R_elder' (by (with_reducible repeat (first | apply Kd.R_alloc | apply Kd.R_drewN | apply Kd.R_drew)); exact (Q_HO117 h0_)) (Kd.R_base ho20) hb) | exact Kd.R_mono (Kd.R_elder' (by (with_reducible repeat (first | apply Kd.R_alloc | apply Kd.R_drewN | apply Kd.R_drew)); exact (Q_HO117 h0_)) (Kd.R_base ho20) hb) (fun _ h_ => by first | trivial | exact h_ | exact h_.1))
 have z_HO122 := fun (h0_ : b 19 = true) => (show Kd.R k28 28 w19 w.heap.size (fun k_ => some k_ ≠ (.slice (some ad114) t111.length co17 : Value).ownBlock) v121 y120 from by first | exact (Kd.R_below (by (with_reducible repeat (first | apply Kd.R_alloc | apply Kd.R_drewN | apply Kd.R_drew)); exact (Q_HO122 h0_)) hb) | exact Kd.R_mono (Kd.R_below (by (with_reducible repeat (first | apply Kd.R_alloc | apply Kd.R_drewN | apply Kd.R_drew)); exact (Q_HO122 h0_)) hb) (fun _ h_ => by first | trivial | exact h_ | exact h_.1))
 have z_HO125 := fun (h0_ : b 20 = true) => (show Kd.R (Kd.int .i64) 3 w19 w.heap.size (fun _ => True) v124 t123 from by first | exact (Kd.R_elder' (by (with_reducible repeat (first | apply Kd.R_alloc | apply Kd.R_drewN | apply Kd.R_drew)); exact (Q_HO125 h0_)) (Kd.R_base ho20) hb) | exact Kd.R_mono (Kd.R_elder' (by (with_reducible repeat (first | apply Kd.R_alloc | apply Kd.R_drewN | apply Kd.R_drew)); exact (Q_HO125 h0_)) (Kd.R_base ho20) hb) (fun _ h_ => by first | trivial | exact h_ | exact h_.1))
 clear HO110
 clear HO113
 clear HB
 have HO110 := n0_
 have HO113 := n1_
 have HO128 := n2_
 have HB := n3_
 clear n0_ n1_ n2_ n3_
 clear hb ho20
 refine hK.out _ _ ⟨v116, v121, v124, v127, v131, v138, v141, (by rw [ha.out]; exact putSel_upk 20 hb_ rfl rfl rfl), (rq HO110.out), (rq HO113.out), (bq HB.out), z_HO117, z_HO122, z_HO125, fun _ => (rq HO128.out), off_ (hoff 26 (by kernel_rfl)), off_ (hoff 29 (by kernel_rfl)), off_ (hoff 30 (by kernel_rfl))⟩)
 refine steps_cons ?_ ?_
 ·(
 rintro b a w' ⟨v116, v121, v124, v127, v131, v138, v141, ha, Q_HO110, Q_HO113, Q_HB, Q_HO117, Q_HO122, Q_HO125, Q_HO128, Q_HO132, Q_HO139, Q_HO142⟩ hb_ hon hoff
 refine ⟨_, rfl, fun K hK => ?_⟩
 have e29 : a.tmps[29]? = some (v124) := by rw [ha]; exact putSel_on (e := (20, 29, v124)) 19 rfl rfl (hon 20 (by kernel_rfl)) rfl
 have e30 : a.tmps[30]? = some (v127) := by rw [ha]; exact putSel_on (e := (21, 30, v127)) 20 rfl rfl (hon 21 (by kernel_rfl)) rfl
 have e19 : a.tmps[19]? = some (.bool (((rd_T28 t111 2).f1) == 3)) := by rw [ha]; exact putSel_on (e := (10, 19, .bool (((rd_T28 t111 2).f1) == 3))) 9 rfl rfl (hon 10 (by kernel_rfl)) rfl
 replace ha := Aside0.mk ha
 have HO110 := Aside0.mk Q_HO110
 have HO113 := Aside0.mk Q_HO113
 have HB := Aside0.mk Q_HB
 have HO117 := Aside0.mk (Q_HO117 (hon 12 (by kernel_rfl)))
 have HO122 := Aside0.mk (Q_HO122 (hon 19 (by kernel_rfl)))
 have HO125 := Aside0.mk (Q_HO125 (hon 20 (by kernel_rfl)))
 have HO128 := Aside0.mk (Q_HO128 (hon 21 (by kernel_rfl)))
 obtain ⟨Ao29, co29, eo29⟩ := Kd.R_slice HO125.out
 (first | subst eo29 | (injection eo29 with f1_ f2_ f3_; have f4_ := f1_.symm; have f5_ := f3_.symm; clear f1_ f2_ f3_; subst f4_; subst f5_))
 obtain ⟨Ao30, co30, eo30⟩ := Kd.R_slice HO128.out
 (first | subst eo30 | (injection eo30 with f1_ f2_ f3_; have f4_ := f1_.symm; have f5_ := f3_.symm; clear f1_ f2_ f3_; subst f4_; subst f5_))
 refine goes_ Try.func20 (by kernel_rfl) rfl #[.slice Ao29 t123.length co29, .slice Ao30 y126.length co30] (by first | rfl | (refine wanted_on rfl rfl rfl ?_; first | assumption | (simp [*]; done))) rfl rfl (by first | (simp only [List.map_toArray, List.map_cons, List.map_nil, Act.eval, Array.getD_eq_getD_getElem?, Option.getD_some, e29, e30, e19]; done) | (simp only [List.map_toArray, List.map_cons, List.map_nil, Act.eval, Array.getD_eq_getD_getElem?, Option.getD_some, e29, e30, e19]; rfl)) ?_
 with_reducible refine (rollbacknetref23_SameInts.calls k _ _ t123 _ _ y126 true _ ?side1 ?side2 ?side3 ?side4 A7.out).mono ?_
 (case side1 => exact crd (Kd.R_reads' HO125.out).2.2)
 (case side2 => exact (Kd.R_reads' HO125.out).2.1)
 (case side3 => exact crd (Kd.R_reads' HO128.out).2.2)
 (case side4 => exact (Kd.R_reads' HO128.out).2.1)
 rintro e w31 ⟨rfl, hb⟩
 refine ⟨_, rfl, ?_⟩
 have n0_ := Aside0.mk (Kd.R_below (rq HO110.out) hb)
 have n1_ := Aside0.mk (Kd.R_below (rq HO113.out) hb)
 have n2_ := Aside0.mk (Kd.R_below (rq HO117.out) hb)
 have n3_ := Aside0.mk (Kd.R_below (rq HO122.out) hb)
 have n4_ := Aside0.mk (Kd.R_below (rq HO125.out) hb)
 have n5_ := Aside0.mk (Kd.R_below (rq HO128.out) hb)
 have n6_ := Aside0.mk (below_step (bq HB.out) hb)
 clear HO110
 clear HO113
 clear HO117
 clear HO122
 clear HO125
 clear HO128
 clear HB
 have HO110 := n0_
 have HO113 := n1_
 have HO117 := n2_
 have HO122 := n3_
 have HO125 := n4_
 have HO128 := n5_
 have HB := n6_
 clear n0_ n1_ n2_ n3_ n4_ n5_ n6_
 (try clear hb)
 (try clear hb2)
 (try clear hk)
 (try clear hi)
 refine hK.out _ _ ⟨v116, v121, .slice Ao29 t123.length co29, .slice Ao30 y126.length co30, v131, v138, v141, (by rw [ha.out]; exact putSel_upk 21 hb_ rfl rfl rfl), (rq HO110.out), (rq HO113.out), (bq HB.out), fun _ => (rq HO117.out), fun _ => (rq HO122.out), fun _ => (rq HO125.out), fun _ => (rq HO128.out), off_ (hoff 26 (by kernel_rfl)), off_ (hoff 29 (by kernel_rfl)), off_ (hoff 30 (by kernel_rfl))⟩)
 refine steps_cons ?_ ?_
 ·(
 rintro b a w' ⟨v116, v121, v124, v127, v131, v138, v141, ha, Q_HO110, Q_HO113, Q_HB, Q_HO117, Q_HO122, Q_HO125, Q_HO128, Q_HO132, Q_HO139, Q_HO142⟩ hb_ hon hoff
 refine ⟨_, rfl, fun K hK => ?_⟩
 have e19 : a.tmps[19]? = some (.bool (((rd_T28 t111 2).f1) == 3)) := by rw [ha]; exact putSel_on (e := (10, 19, .bool (((rd_T28 t111 2).f1) == 3))) 9 rfl rfl (hon 10 (by kernel_rfl)) rfl
 have e31 : a.tmps[31]? = some (.bool true) := by rw [ha]; exact putSel_on (e := (22, 31, .bool true)) 21 rfl rfl (hon 22 (by kernel_rfl)) rfl
 replace ha := Aside0.mk ha
 have HO110 := Aside0.mk Q_HO110
 have HO113 := Aside0.mk Q_HO113
 have HB := Aside0.mk Q_HB
 have HO117 := Aside0.mk (Q_HO117 (hon 12 (by kernel_rfl)))
 have HO122 := Aside0.mk (Q_HO122 (hon 19 (by kernel_rfl)))
 have HO125 := Aside0.mk (Q_HO125 (hon 20 (by kernel_rfl)))
 have HO128 := Aside0.mk (Q_HO128 (hon 21 (by kernel_rfl)))
 refine value_ (w1 := w') (v := .bool true) (by rfl) rfl ?_ ?_
 ·(
 go_simp
 (try simp only [i64_w])
 try rfl)
 refine hK.out _ _ ⟨v116, v121, v124, v127, v131, v138, v141, (by rw [ha.out]; exact putSel_upk 22 hb_ rfl rfl rfl), Q_HO110, Q_HO113, Q_HB, Q_HO117, Q_HO122, Q_HO125, Q_HO128, off_ (hoff 26 (by kernel_rfl)), off_ (hoff 29 (by kernel_rfl)), off_ (hoff 30 (by kernel_rfl))⟩)
 refine steps_cons ?_ ?_
 ·(
 rintro b a w' ⟨v116, v121, v124, v127, v131, v138, v141, ha, Q_HO110, Q_HO113, Q_HB, Q_HO117, Q_HO122, Q_HO125, Q_HO128, Q_HO132, Q_HO139, Q_HO142⟩ hb_ hon hoff
 refine ⟨_, rfl, fun K hK => ?_⟩
 have e32 : a.tmps[32]? = some (.bool true) := by rw [ha]; exact putSel_on (e := (23, 32, .bool true)) 22 rfl rfl (hon 23 (by kernel_rfl)) rfl
 replace ha := Aside0.mk ha
 have HO110 := Aside0.mk Q_HO110
 have HO113 := Aside0.mk Q_HO113
 have HB := Aside0.mk Q_HB
 have HO117 := Aside0.mk (Q_HO117 (hon 12 (by kernel_rfl)))
 have HO122 := Aside0.mk (Q_HO122 (hon 19 (by kernel_rfl)))
 have HO125 := Aside0.mk (Q_HO125 (hon 20 (by kernel_rfl)))
 have HO128 := Aside0.mk (Q_HO128 (hon 21 (by kernel_rfl)))
 refine value_ (w1 := w') (v := .bool true) (by rfl) rfl ?_ ?_
 ·(
 go_simp
 (try simp only [i64_w])
 try rfl)
 refine hK.out _ _ ⟨v116, v121, v124, v127, v131, v138, v141, (by rw [ha.out]; exact putSel_upk 23 hb_ rfl rfl rfl), Q_HO110, Q_HO113, Q_HB, Q_HO117, Q_HO122, Q_HO125, Q_HO128, off_ (hoff 26 (by kernel_rfl)), off_ (hoff 29 (by kernel_rfl)), off_ (hoff 30 (by kernel_rfl))⟩)
 refine steps_cons ?_ ?_
 ·(
 rintro b a w' ⟨v116, v121, v124, v127, v131, v138, v141, ha, Q_HO110, Q_HO113, Q_HB, Q_HO117, Q_HO122, Q_HO125, Q_HO128, Q_HO132, Q_HO139, Q_HO142⟩ hb_ hon hoff
 refine ⟨_, rfl, fun K hK => ?_⟩
 have e1 : a.tmps[1]? = some (.slice Ao14 y108.length co14) := by rw [ha]; exact (putSel_off rfl).trans rfl
 have e33 : a.tmps[33]? = some (.bool true) := by rw [ha]; exact putSel_on (e := (24, 33, .bool true)) 23 rfl rfl (hon 24 (by kernel_rfl)) rfl
 replace ha := Aside0.mk ha
 have HO110 := Aside0.mk Q_HO110
 have HO113 := Aside0.mk Q_HO113
 have HB := Aside0.mk Q_HB
 have HO117 := Aside0.mk (Q_HO117 (hon 12 (by kernel_rfl)))
 have HO122 := Aside0.mk (Q_HO122 (hon 19 (by kernel_rfl)))
 have HO125 := Aside0.mk (Q_HO125 (hon 20 (by kernel_rfl)))
 have HO128 := Aside0.mk (Q_HO128 (hon 21 (by kernel_rfl)))
 refine value_ (w1 := w') (v := .slice Ao14 y108.length co14) (wanted_on rfl rfl rfl (e33.trans (by first | rfl | (simp [*]; done)))) rfl ?_ ?_
 ·(
 go_simp
 (try simp only [i64_w])
 try rfl)
 refine hK.out _ _ ⟨v116, v121, v124, v127, v131, v138, v141, (by rw [ha.out]; exact putSel_upk 24 hb_ rfl rfl rfl), Q_HO110, Q_HO113, Q_HB, Q_HO117, Q_HO122, Q_HO125, Q_HO128, Q_HO132, off_ (hoff 29 (by kernel_rfl)), Q_HO142⟩)
 refine steps_cons ?_ ?_
 ·(
 rintro b a w' ⟨v116, v121, v124, v127, v131, v138, v141, ha, Q_HO110, Q_HO113, Q_HB, Q_HO117, Q_HO122, Q_HO125, Q_HO128, Q_HO132, Q_HO139, Q_HO142⟩ hb_ hon hoff
 refine ⟨_, rfl, fun K hK => ?_⟩
 have e33 : a.tmps[33]? = some (.bool true) := by rw [ha]; exact putSel_on (e := (24, 33, .bool true)) 23 rfl rfl (hon 24 (by kernel_rfl)) rfl
 replace ha := Aside0.mk ha
 have HO110 := Aside0.mk Q_HO110
 have HO113 := Aside0.mk Q_HO113
 have HB := Aside0.mk Q_HB
 have HO117 := Aside0.mk (Q_HO117 (hon 12 (by kernel_rfl)))
 have HO122 := Aside0.mk (Q_HO122 (hon 19 (by kernel_rfl)))
 have HO125 := Aside0.mk (Q_HO125 (hon 20 (by kernel_rfl)))
 have HO128 := Aside0.mk (Q_HO128 (hon 21 (by kernel_rfl)))
 refine Kd.R_lit_step (Kd.int .i64) _ 3 ?hg (N := 35) ?hd (xs := ([0, 2] : List Int)) (inner := [.int .i64 0, .int .i64 2]) (ok := fun _ => True) (okp := fun _ => True) ?hr ?hp (fun _ hk => hk) trivial (Below.refl _ _) (Nat.le_refl _) (by simp) ?_; (case hd => rfl); (case hg => first | rfl | (refine wanted_on rfl rfl rfl ?_; first | assumption | (simp [*]; done))); (case hr => first | (go_simp; done) | (go_simp; rfl)); (case hp => exact (Reps.one (show Kd.M (Kd.int .i64) _ _ _ 0 [.int .i64 0] from rfl) (Reps.one (show Kd.M (Kd.int .i64) _ _ _ 2 [.int .i64 2] from rfl) (Reps.none _ _))))
 intro v131 w32 ho33 hb hg_ hnew_
 clear hg_ hnew_
 (first | rw [← Ny130.out] at ho33 | (simp only [Int.reduceToNat] at ho33; rw [← Ny130.out] at ho33))
 have n0_ := Aside0.mk (Kd.R_below (rq HO110.out) hb)
 have n1_ := Aside0.mk (Kd.R_below (rq HO113.out) hb)
 have n2_ := Aside0.mk (Kd.R_elder' (rq HO117.out) (Kd.R_base ho33) hb)
 have n3_ := Aside0.mk (Kd.R_below (rq HO122.out) hb)
 have n4_ := Aside0.mk (Kd.R_elder' (rq HO125.out) (Kd.R_base ho33) hb)
 have n5_ := Aside0.mk (Kd.R_elder' (rq HO128.out) (Kd.R_base ho33) hb)
 have n6_ := Aside0.mk (Kd.R_lower (Kd.R_new' (Kd.R_new' (Kd.R_new' ho33 (Kd.R_lt (rq HO117.out))) (Kd.R_lt (rq HO125.out))) (Kd.R_lt (rq HO128.out))) (below_size (bq HB.out)))
 have n7_ := Aside0.mk (below_step (bq HB.out) hb)
 have z_HO142 := fun (h0_ : b 30 = true) => (show Kd.R (Kd.int .i64) 3 w32 w.heap.size (fun _ => True) v141 y140 from by first | exact (Kd.R_elder' (by (with_reducible repeat (first | apply Kd.R_alloc | apply Kd.R_drewN | apply Kd.R_drew)); exact (Q_HO142 h0_)) (Kd.R_base ho33) hb) | exact Kd.R_mono (Kd.R_elder' (by (with_reducible repeat (first | apply Kd.R_alloc | apply Kd.R_drewN | apply Kd.R_drew)); exact (Q_HO142 h0_)) (Kd.R_base ho33) hb) (fun _ h_ => by first | trivial | exact h_ | exact h_.1))
 clear HO110
 clear HO113
 clear HO117
 clear HO122
 clear HO125
 clear HO128
 clear HB
 have HO110 := n0_
 have HO113 := n1_
 have HO117 := n2_
 have HO122 := n3_
 have HO125 := n4_
 have HO128 := n5_
 have HO132 := n6_
 have HB := n7_
 clear n0_ n1_ n2_ n3_ n4_ n5_ n6_ n7_
 clear hb ho33
 refine hK.out _ _ ⟨v116, v121, v124, v127, v131, v138, v141, (by rw [ha.out]; exact putSel_upk 25 hb_ rfl rfl rfl), (rq HO110.out), (rq HO113.out), (bq HB.out), fun _ => (by (with_reducible repeat (first | apply Kd.R_alloc | apply Kd.R_drewN | apply Kd.R_drew)); exact Kd.R_mono HO117.out (fun _ hk => by first | exact ⟨hk.1.1, ⟨hk.1.2, hk.2⟩⟩ | exact trivial)), fun _ => (rq HO122.out), fun _ => (by (with_reducible repeat (first | apply Kd.R_alloc | apply Kd.R_drewN | apply Kd.R_drew)); exact Kd.R_mono HO125.out (fun _ hk => by first | exact ⟨hk.1.1, ⟨hk.1.2, hk.2⟩⟩ | exact trivial)), fun _ => (by (with_reducible repeat (first | apply Kd.R_alloc | apply Kd.R_drewN | apply Kd.R_drew)); exact Kd.R_mono HO128.out (fun _ hk => by first | exact ⟨hk.1.1, ⟨hk.1.2, hk.2⟩⟩ | exact trivial)), fun _ => (by (with_reducible repeat (first | apply Kd.R_alloc | apply Kd.R_drewN | apply Kd.R_drew)); exact Kd.R_mono HO132.out (fun _ hk => by first | exact ⟨hk.1.1.2, ⟨hk.1.2, hk.2⟩⟩ | exact trivial)), off_ (hoff 29 (by kernel_rfl)), z_HO142⟩)
 refine steps_cons ?_ ?_
 ·(
 rintro b a w' ⟨v116, v121, v124, v127, v131, v138, v141, ha, Q_HO110, Q_HO113, Q_HB, Q_HO117, Q_HO122, Q_HO125, Q_HO128, Q_HO132, Q_HO139, Q_HO142⟩ hb_ hon hoff
 refine ⟨_, rfl, fun K hK => ?_⟩
 have e2 : a.tmps[2]? = some (.slice (some ad114) t111.length co17) := by rw [ha]; exact (putSel_off rfl).trans rfl
 have e33 : a.tmps[33]? = some (.bool true) := by rw [ha]; exact putSel_on (e := (24, 33, .bool true)) 23 rfl rfl (hon 24 (by kernel_rfl)) rfl
 replace ha := Aside0.mk ha
 have HO110 := Aside0.mk Q_HO110
 have HO113 := Aside0.mk Q_HO113
 have HB := Aside0.mk Q_HB
 have HO117 := Aside0.mk (Q_HO117 (hon 12 (by kernel_rfl)))
 have HO122 := Aside0.mk (Q_HO122 (hon 19 (by kernel_rfl)))
 have HO125 := Aside0.mk (Q_HO125 (hon 20 (by kernel_rfl)))
 have HO128 := Aside0.mk (Q_HO128 (hon 21 (by kernel_rfl)))
 refine value_ (w1 := w') (v := .slice (some ad114) t111.length co17) (wanted_on rfl rfl rfl (e33.trans (by first | rfl | (simp [*]; done)))) rfl ?_ ?_
 ·(
 go_simp
 (try simp only [i64_w])
 try rfl)
 refine hK.out _ _ ⟨v116, v121, v124, v127, v131, v138, v141, (by rw [ha.out]; exact putSel_upk 26 hb_ rfl rfl rfl), Q_HO110, Q_HO113, Q_HB, Q_HO117, Q_HO122, Q_HO125, Q_HO128, Q_HO132, off_ (hoff 29 (by kernel_rfl)), Q_HO142⟩)
 refine steps_cons ?_ ?_
 ·(
 rintro b a w' ⟨v116, v121, v124, v127, v131, v138, v141, ha, Q_HO110, Q_HO113, Q_HB, Q_HO117, Q_HO122, Q_HO125, Q_HO128, Q_HO132, Q_HO139, Q_HO142⟩ hb_ hon hoff
 refine ⟨_, rfl, fun K hK => ?_⟩
 have e36 : a.tmps[36]? = some (.slice (some ad114) t111.length co17) := by rw [ha]; exact putSel_on (e := (27, 36, .slice (some ad114) t111.length co17)) 26 rfl rfl (hon 27 (by kernel_rfl)) rfl
 have e33 : a.tmps[33]? = some (.bool true) := by rw [ha]; exact putSel_on (e := (24, 33, .bool true)) 23 rfl rfl (hon 24 (by kernel_rfl)) rfl
 replace ha := Aside0.mk ha
 have HO110 := Aside0.mk Q_HO110
 have HO113 := Aside0.mk Q_HO113
 have HB := Aside0.mk Q_HB
 have HO117 := Aside0.mk (Q_HO117 (hon 12 (by kernel_rfl)))
 have HO122 := Aside0.mk (Q_HO122 (hon 19 (by kernel_rfl)))
 have HO125 := Aside0.mk (Q_HO125 (hon 20 (by kernel_rfl)))
 have HO128 := Aside0.mk (Q_HO128 (hon 21 (by kernel_rfl)))
 refine value_ (w1 := w') (v := .slice (some ad114) y133.length co17) (wanted_on rfl rfl rfl (e33.trans (by first | rfl | (simp [*]; done)))) rfl ?_ ?_
 ·(
 go_simp
 (try simp only [i64_w])
 try rfl)
 refine hK.out _ _ ⟨v116, v121, v124, v127, v131, v138, v141, (by rw [ha.out]; exact putSel_upk 27 hb_ rfl rfl rfl), Q_HO110, Q_HO113, Q_HB, Q_HO117, Q_HO122, Q_HO125, Q_HO128, Q_HO132, off_ (hoff 29 (by kernel_rfl)), Q_HO142⟩)
 refine steps_cons ?_ ?_
 ·(
 rintro b a w' ⟨v116, v121, v124, v127, v131, v138, v141, ha, Q_HO110, Q_HO113, Q_HB, Q_HO117, Q_HO122, Q_HO125, Q_HO128, Q_HO132, Q_HO139, Q_HO142⟩ hb_ hon hoff
 refine ⟨_, rfl, fun K hK => ?_⟩
 have e34 : a.tmps[34]? = some (.slice Ao14 y108.length co14) := by rw [ha]; exact putSel_on (e := (25, 34, .slice Ao14 y108.length co14)) 24 rfl rfl (hon 25 (by kernel_rfl)) rfl
 have e35 : a.tmps[35]? = some (v131) := by rw [ha]; exact putSel_on (e := (26, 35, v131)) 25 rfl rfl (hon 26 (by kernel_rfl)) rfl
 have e37 : a.tmps[37]? = some (.slice (some ad114) y133.length co17) := by rw [ha]; exact putSel_on (e := (28, 37, .slice (some ad114) y133.length co17)) 27 rfl rfl (hon 28 (by kernel_rfl)) rfl
 have e33 : a.tmps[33]? = some (.bool true) := by rw [ha]; exact putSel_on (e := (24, 33, .bool true)) 23 rfl rfl (hon 24 (by kernel_rfl)) rfl
 replace ha := Aside0.mk ha
 have HO110 := Aside0.mk Q_HO110
 have HO113 := Aside0.mk Q_HO113
 have HB := Aside0.mk Q_HB
 have HO117 := Aside0.mk (Q_HO117 (hon 12 (by kernel_rfl)))
 have HO122 := Aside0.mk (Q_HO122 (hon 19 (by kernel_rfl)))
 have HO125 := Aside0.mk (Q_HO125 (hon 20 (by kernel_rfl)))
 have HO128 := Aside0.mk (Q_HO128 (hon 21 (by kernel_rfl)))
 have HO132 := Aside0.mk (Q_HO132 (hon 26 (by kernel_rfl)))
 obtain ⟨Ao34, co34, eo34⟩ := Kd.R_slice HO132.out
 (first | subst eo34 | (injection eo34 with f1_ f2_ f3_; have f4_ := f1_.symm; have f5_ := f3_.symm; clear f1_ f2_ f3_; subst f4_; subst f5_))
 refine goes_ Try.func21 (by kernel_rfl) rfl #[.int .i64 1, .slice Ao14 y108.length co14, .slice Ao34 y130.length co34, .slice (some ad114) y133.length co17] (by first | rfl | (refine wanted_on rfl rfl rfl ?_; first | assumption | (simp [*]; done))) rfl rfl (by first | (simp only [List.map_toArray, List.map_cons, List.map_nil, Act.eval, Array.getD_eq_getD_getElem?, Option.getD_some, e34, e35, e37, e33]; done) | (simp only [List.map_toArray, List.map_cons, List.map_nil, Act.eval, Array.getD_eq_getD_getElem?, Option.getD_some, e34, e35, e37, e33]; rfl)) ?_
 with_reducible refine (determinant_Restorable.calls 1 _ _ y108 _ _ y130 _ _ y133 t137 _ ?side1 ?side2 ?side3 ?side4 ?side5 ?side6 A10.out).mono ?_
 (case side1 => exact crd (Kd.R_reads' HO110.out).2.2)
 (case side2 => exact (Kd.R_reads' HO110.out).2.1)
 (case side3 => exact crd (Kd.R_reads' HO132.out).2.2)
 (case side4 => exact (Kd.R_reads' HO132.out).2.1)
 (case side5 => repeat (first | exact (by rw [Ny133.out]; exact Kd.C_take (m := 1) ((Kd.R_reads' (rq HO113.out)).2.2) KL18.out) | (with_reducible refine Kd.C_alloc ?_ _) | (with_reducible refine Kd.C_drewN ?_ _) | (with_reducible refine Kd.C_drew ?_)))
 (case side6 => exact HC136.out)
 rintro e w35 ⟨v138, rfl, ho0, hb⟩
 refine ⟨_, rfl, ?_⟩
 have n0_ := Aside0.mk (Kd.R_below (rq HO110.out) hb)
 have n1_ := Aside0.mk (Kd.R_below (rq HO113.out) hb)
 have n2_ := Aside0.mk (Kd.R_elder' (rq HO117.out) (Kd.R_base ho0) hb)
 have n3_ := Aside0.mk (Kd.R_below (rq HO122.out) hb)
 have n4_ := Aside0.mk (Kd.R_elder' (rq HO125.out) (Kd.R_base ho0) hb)
 have n5_ := Aside0.mk (Kd.R_elder' (rq HO128.out) (Kd.R_base ho0) hb)
 have n6_ := Aside0.mk (Kd.R_elder' (rq HO132.out) (Kd.R_base ho0) hb)
 have n7_ := Aside0.mk (Kd.R_lower (Kd.R_new' (Kd.R_new' (Kd.R_new' (Kd.R_new' ho0 (Kd.R_lt (rq HO117.out))) (Kd.R_lt (rq HO125.out))) (Kd.R_lt (rq HO128.out))) (Kd.R_lt (rq HO132.out))) (below_size (bq HB.out)))
 have n8_ := Aside0.mk (below_step (bq HB.out) hb)
 have z_HO142 := fun (h0_ : b 30 = true) => (show Kd.R (Kd.int .i64) 3 w35 w.heap.size (fun _ => True) v141 y140 from by first | exact (Kd.R_elder' (by (with_reducible repeat (first | apply Kd.R_alloc | apply Kd.R_drewN | apply Kd.R_drew)); exact (Q_HO142 h0_)) (Kd.R_base ho0) hb) | exact Kd.R_mono (Kd.R_elder' (by (with_reducible repeat (first | apply Kd.R_alloc | apply Kd.R_drewN | apply Kd.R_drew)); exact (Q_HO142 h0_)) (Kd.R_base ho0) hb) (fun _ h_ => by first | trivial | exact h_ | exact h_.1))
 clear HO110
 clear HO113
 clear HO117
 clear HO122
 clear HO125
 clear HO128
 clear HO132
 clear HB
 have HO110 := n0_
 have HO113 := n1_
 have HO117 := n2_
 have HO122 := n3_
 have HO125 := n4_
 have HO128 := n5_
 have HO132 := n6_
 have HO139 := n7_
 have HB := n8_
 clear n0_ n1_ n2_ n3_ n4_ n5_ n6_ n7_ n8_
 (try clear hb)
 (try clear hb2)
 (try clear hk)
 (try clear hi)
 (try clear ho0)
 refine hK.out _ _ ⟨v116, v121, v124, v127, .slice Ao34 y130.length co34, v138, v141, (by rw [ha.out]; exact putSel_upk 28 hb_ rfl rfl rfl), (rq HO110.out), (rq HO113.out), (bq HB.out), fun _ => (by (with_reducible repeat (first | apply Kd.R_alloc | apply Kd.R_drewN | apply Kd.R_drew)); exact Kd.R_mono HO117.out (fun _ hk => by first | exact ⟨hk.1.1, ⟨hk.1.2.1, ⟨hk.1.2.2, hk.2⟩⟩⟩ | exact trivial)), fun _ => (rq HO122.out), fun _ => (by (with_reducible repeat (first | apply Kd.R_alloc | apply Kd.R_drewN | apply Kd.R_drew)); exact Kd.R_mono HO125.out (fun _ hk => by first | exact ⟨hk.1.1, ⟨hk.1.2.1, ⟨hk.1.2.2, hk.2⟩⟩⟩ | exact trivial)), fun _ => (by (with_reducible repeat (first | apply Kd.R_alloc | apply Kd.R_drewN | apply Kd.R_drew)); exact Kd.R_mono HO128.out (fun _ hk => by first | exact ⟨hk.1.1, ⟨hk.1.2.1, ⟨hk.1.2.2, hk.2⟩⟩⟩ | exact trivial)), fun _ => (by (with_reducible repeat (first | apply Kd.R_alloc | apply Kd.R_drewN | apply Kd.R_drew)); exact Kd.R_mono HO132.out (fun _ hk => by first | exact ⟨hk.1.1, ⟨hk.1.2.1, ⟨hk.1.2.2, hk.2⟩⟩⟩ | exact trivial)), fun _ => (by (with_reducible repeat (first | apply Kd.R_alloc | apply Kd.R_drewN | apply Kd.R_drew)); exact Kd.R_mono HO139.out (fun _ hk => by first | exact ⟨hk.1.1.1.2, ⟨hk.1.1.2, ⟨hk.1.2, hk.2⟩⟩⟩ | exact trivial)), z_HO142⟩)
 refine steps_cons ?_ ?_
 ·(
 rintro b a w' ⟨v116, v121, v124, v127, v131, v138, v141, ha, Q_HO110, Q_HO113, Q_HB, Q_HO117, Q_HO122, Q_HO125, Q_HO128, Q_HO132, Q_HO139, Q_HO142⟩ hb_ hon hoff
 refine ⟨_, rfl, fun K hK => ?_⟩
 have e33 : a.tmps[33]? = some (.bool true) := by rw [ha]; exact putSel_on (e := (24, 33, .bool true)) 23 rfl rfl (hon 24 (by kernel_rfl)) rfl
 replace ha := Aside0.mk ha
 have HO110 := Aside0.mk Q_HO110
 have HO113 := Aside0.mk Q_HO113
 have HB := Aside0.mk Q_HB
 have HO117 := Aside0.mk (Q_HO117 (hon 12 (by kernel_rfl)))
 have HO122 := Aside0.mk (Q_HO122 (hon 19 (by kernel_rfl)))
 have HO125 := Aside0.mk (Q_HO125 (hon 20 (by kernel_rfl)))
 have HO128 := Aside0.mk (Q_HO128 (hon 21 (by kernel_rfl)))
 refine Kd.R_lit_step (Kd.int .i64) _ 3 ?hg (N := 39) ?hd (xs := ([0, 1, 2] : List Int)) (inner := [.int .i64 0, .int .i64 1, .int .i64 2]) (ok := fun _ => True) (okp := fun _ => True) ?hr ?hp (fun _ hk => hk) trivial (Below.refl _ _) (Nat.le_refl _) (by simp) ?_; (case hd => rfl); (case hg => first | rfl | (refine wanted_on rfl rfl rfl ?_; first | assumption | (simp [*]; done))); (case hr => first | (go_simp; done) | (go_simp; rfl)); (case hp => exact (Reps.one (show Kd.M (Kd.int .i64) _ _ _ 0 [.int .i64 0] from rfl) (Reps.one (show Kd.M (Kd.int .i64) _ _ _ 1 [.int .i64 1] from rfl) (Reps.one (show Kd.M (Kd.int .i64) _ _ _ 2 [.int .i64 2] from rfl) (Reps.none _ _)))))
 intro v141 w32 ho33 hb hg_ hnew_
 clear hg_ hnew_
 (first | rw [← Ny140.out] at ho33 | (simp only [Int.reduceToNat] at ho33; rw [← Ny140.out] at ho33))
 have n0_ := Aside0.mk (Kd.R_below (rq HO110.out) hb)
 have n1_ := Aside0.mk (Kd.R_below (rq HO113.out) hb)
 have n2_ := Aside0.mk (Kd.R_elder' (rq HO117.out) (Kd.R_base ho33) hb)
 have n3_ := Aside0.mk (Kd.R_below (rq HO122.out) hb)
 have n4_ := Aside0.mk (Kd.R_elder' (rq HO125.out) (Kd.R_base ho33) hb)
 have n5_ := Aside0.mk (Kd.R_elder' (rq HO128.out) (Kd.R_base ho33) hb)
 have n6_ := Aside0.mk (Kd.R_lower (Kd.R_new' (Kd.R_new' (Kd.R_new' ho33 (Kd.R_lt (rq HO117.out))) (Kd.R_lt (rq HO125.out))) (Kd.R_lt (rq HO128.out))) (below_size (bq HB.out)))
 have n7_ := Aside0.mk (below_step (bq HB.out) hb)
 have z_HO132 := fun (h0_ : b 26 = true) => (show Kd.R (Kd.int .i64) 3 w32 w.heap.size (fun _ => True) v131 y130 from by first | exact (Kd.R_elder' (by (with_reducible repeat (first | apply Kd.R_alloc | apply Kd.R_drewN | apply Kd.R_drew)); exact (Q_HO132 h0_)) (Kd.R_base ho33) hb) | exact Kd.R_mono (Kd.R_elder' (by (with_reducible repeat (first | apply Kd.R_alloc | apply Kd.R_drewN | apply Kd.R_drew)); exact (Q_HO132 h0_)) (Kd.R_base ho33) hb) (fun _ h_ => by first | trivial | exact h_ | exact h_.1))
 have z_HO139 := fun (h0_ : b 29 = true) => (show Kd.R (Kd.int .i64) 3 w32 w.heap.size (fun _ => True) v138 t137 from by first | exact (Kd.R_elder' (by (with_reducible repeat (first | apply Kd.R_alloc | apply Kd.R_drewN | apply Kd.R_drew)); exact (Q_HO139 h0_)) (Kd.R_base ho33) hb) | exact Kd.R_mono (Kd.R_elder' (by (with_reducible repeat (first | apply Kd.R_alloc | apply Kd.R_drewN | apply Kd.R_drew)); exact (Q_HO139 h0_)) (Kd.R_base ho33) hb) (fun _ h_ => by first | trivial | exact h_ | exact h_.1))
 clear HO110
 clear HO113
 clear HO117
 clear HO122
 clear HO125
 clear HO128
 clear HB
 have HO110 := n0_
 have HO113 := n1_
 have HO117 := n2_
 have HO122 := n3_
 have HO125 := n4_
 have HO128 := n5_
 have HO142 := n6_
 have HB := n7_
 clear n0_ n1_ n2_ n3_ n4_ n5_ n6_ n7_
 clear hb ho33
 refine hK.out _ _ ⟨v116, v121, v124, v127, v131, v138, v141, (by rw [ha.out]; exact putSel_upk 29 hb_ rfl rfl rfl), (rq HO110.out), (rq HO113.out), (bq HB.out), fun _ => (by (with_reducible repeat (first | apply Kd.R_alloc | apply Kd.R_drewN | apply Kd.R_drew)); exact Kd.R_mono HO117.out (fun _ hk => by first | exact ⟨hk.1.1, ⟨hk.1.2, hk.2⟩⟩ | exact trivial)), fun _ => (rq HO122.out), fun _ => (by (with_reducible repeat (first | apply Kd.R_alloc | apply Kd.R_drewN | apply Kd.R_drew)); exact Kd.R_mono HO125.out (fun _ hk => by first | exact ⟨hk.1.1, ⟨hk.1.2, hk.2⟩⟩ | exact trivial)), fun _ => (by (with_reducible repeat (first | apply Kd.R_alloc | apply Kd.R_drewN | apply Kd.R_drew)); exact Kd.R_mono HO128.out (fun _ hk => by first | exact ⟨hk.1.1, ⟨hk.1.2, hk.2⟩⟩ | exact trivial)), z_HO132, z_HO139, fun _ => (by (with_reducible repeat (first | apply Kd.R_alloc | apply Kd.R_drewN | apply Kd.R_drew)); exact Kd.R_mono HO142.out (fun _ hk => by first | exact ⟨hk.1.1.2, ⟨hk.1.2, hk.2⟩⟩ | exact trivial))⟩)
 refine steps_cons ?_ ?_
 ·(
 rintro b a w' ⟨v116, v121, v124, v127, v131, v138, v141, ha, Q_HO110, Q_HO113, Q_HB, Q_HO117, Q_HO122, Q_HO125, Q_HO128, Q_HO132, Q_HO139, Q_HO142⟩ hb_ hon hoff
 refine ⟨_, rfl, fun K hK => ?_⟩
 have e38 : a.tmps[38]? = some (v138) := by rw [ha]; exact putSel_on (e := (29, 38, v138)) 28 rfl rfl (hon 29 (by kernel_rfl)) rfl
 have e39 : a.tmps[39]? = some (v141) := by rw [ha]; exact putSel_on (e := (30, 39, v141)) 29 rfl rfl (hon 30 (by kernel_rfl)) rfl
 have e33 : a.tmps[33]? = some (.bool true) := by rw [ha]; exact putSel_on (e := (24, 33, .bool true)) 23 rfl rfl (hon 24 (by kernel_rfl)) rfl
 replace ha := Aside0.mk ha
 have HO110 := Aside0.mk Q_HO110
 have HO113 := Aside0.mk Q_HO113
 have HB := Aside0.mk Q_HB
 have HO117 := Aside0.mk (Q_HO117 (hon 12 (by kernel_rfl)))
 have HO122 := Aside0.mk (Q_HO122 (hon 19 (by kernel_rfl)))
 have HO125 := Aside0.mk (Q_HO125 (hon 20 (by kernel_rfl)))
 have HO128 := Aside0.mk (Q_HO128 (hon 21 (by kernel_rfl)))
 have HO132 := Aside0.mk (Q_HO132 (hon 26 (by kernel_rfl)))
 have HO139 := Aside0.mk (Q_HO139 (hon 29 (by kernel_rfl)))
 have HO142 := Aside0.mk (Q_HO142 (hon 30 (by kernel_rfl)))
 obtain ⟨Ao38, co38, eo38⟩ := Kd.R_slice HO139.out
 (first | subst eo38 | (injection eo38 with f1_ f2_ f3_; have f4_ := f1_.symm; have f5_ := f3_.symm; clear f1_ f2_ f3_; subst f4_; subst f5_))
 obtain ⟨Ao39, co39, eo39⟩ := Kd.R_slice HO142.out
 (first | subst eo39 | (injection eo39 with f1_ f2_ f3_; have f4_ := f1_.symm; have f5_ := f3_.symm; clear f1_ f2_ f3_; subst f4_; subst f5_))
 refine goes_ Try.func20 (by kernel_rfl) rfl #[.slice Ao38 t137.length co38, .slice Ao39 y140.length co39] (by first | rfl | (refine wanted_on rfl rfl rfl ?_; first | assumption | (simp [*]; done))) rfl rfl (by first | (simp only [List.map_toArray, List.map_cons, List.map_nil, Act.eval, Array.getD_eq_getD_getElem?, Option.getD_some, e38, e39, e33]; done) | (simp only [List.map_toArray, List.map_cons, List.map_nil, Act.eval, Array.getD_eq_getD_getElem?, Option.getD_some, e38, e39, e33]; rfl)) ?_
 with_reducible refine (rollbacknetref23_SameInts.calls k _ _ t137 _ _ y140 t143 _ ?side1 ?side2 ?side3 ?side4 A11.out).mono ?_
 (case side1 => exact crd (Kd.R_reads' HO139.out).2.2)
 (case side2 => exact (Kd.R_reads' HO139.out).2.1)
 (case side3 => exact crd (Kd.R_reads' HO142.out).2.2)
 (case side4 => exact (Kd.R_reads' HO142.out).2.1)
 rintro e w40 ⟨rfl, hb⟩
 refine ⟨_, rfl, ?_⟩
 have n0_ := Aside0.mk (Kd.R_below (rq HO110.out) hb)
 have n1_ := Aside0.mk (Kd.R_below (rq HO113.out) hb)
 have n2_ := Aside0.mk (Kd.R_below (rq HO117.out) hb)
 have n3_ := Aside0.mk (Kd.R_below (rq HO122.out) hb)
 have n4_ := Aside0.mk (Kd.R_below (rq HO125.out) hb)
 have n5_ := Aside0.mk (Kd.R_below (rq HO128.out) hb)
 have n6_ := Aside0.mk (Kd.R_below (rq HO132.out) hb)
 have n7_ := Aside0.mk (Kd.R_below (rq HO139.out) hb)
 have n8_ := Aside0.mk (Kd.R_below (rq HO142.out) hb)
 have n9_ := Aside0.mk (below_step (bq HB.out) hb)
 clear HO110
 clear HO113
 clear HO117
 clear HO122
 clear HO125
 clear HO128
 clear HO132
 clear HO139
 clear HO142
 clear HB
 have HO110 := n0_
 have HO113 := n1_
 have HO117 := n2_
 have HO122 := n3_
 have HO125 := n4_
 have HO128 := n5_
 have HO132 := n6_
 have HO139 := n7_
 have HO142 := n8_
 have HB := n9_
 clear n0_ n1_ n2_ n3_ n4_ n5_ n6_ n7_ n8_ n9_
 (try clear hb)
 (try clear hb2)
 (try clear hk)
 (try clear hi)
 refine hK.out _ _ ⟨v116, v121, v124, v127, v131, .slice Ao38 t137.length co38, .slice Ao39 y140.length co39, (by rw [ha.out]; exact putSel_upk 30 hb_ rfl rfl rfl), (rq HO110.out), (rq HO113.out), (bq HB.out), fun _ => (rq HO117.out), fun _ => (rq HO122.out), fun _ => (rq HO125.out), fun _ => (rq HO128.out), fun _ => (rq HO132.out), fun _ => (rq HO139.out), fun _ => (rq HO142.out)⟩)
 refine steps_cons ?_ ?_
 ·(
 rintro b a w' ⟨v116, v121, v124, v127, v131, v138, v141, ha, Q_HO110, Q_HO113, Q_HB, Q_HO117, Q_HO122, Q_HO125, Q_HO128, Q_HO132, Q_HO139, Q_HO142⟩ hb_ hon hoff
 refine ⟨_, rfl, fun K hK => ?_⟩
 have e33 : a.tmps[33]? = some (.bool true) := by rw [ha]; exact putSel_on (e := (24, 33, .bool true)) 23 rfl rfl (hon 24 (by kernel_rfl)) rfl
 have e40 : a.tmps[40]? = some (.bool t143) := by rw [ha]; exact putSel_on (e := (31, 40, .bool t143)) 30 rfl rfl (hon 31 (by kernel_rfl)) rfl
 replace ha := Aside0.mk ha
 have HO110 := Aside0.mk Q_HO110
 have HO113 := Aside0.mk Q_HO113
 have HB := Aside0.mk Q_HB
 have HO117 := Aside0.mk (Q_HO117 (hon 12 (by kernel_rfl)))
 have HO122 := Aside0.mk (Q_HO122 (hon 19 (by kernel_rfl)))
 have HO125 := Aside0.mk (Q_HO125 (hon 20 (by kernel_rfl)))
 have HO128 := Aside0.mk (Q_HO128 (hon 21 (by kernel_rfl)))
 have HO132 := Aside0.mk (Q_HO132 (hon 26 (by kernel_rfl)))
 have HO139 := Aside0.mk (Q_HO139 (hon 29 (by kernel_rfl)))
 have HO142 := Aside0.mk (Q_HO142 (hon 30 (by kernel_rfl)))
 refine value_ (w1 := w') (v := .bool t143) (by rfl) rfl ?_ ?_
 ·(
 go_simp
 (try simp only [i64_w])
 try rfl)
 refine hK.out _ _ ⟨v116, v121, v124, v127, v131, v138, v141, (by rw [ha.out]; exact putSel_upk 31 hb_ rfl rfl rfl), Q_HO110, Q_HO113, Q_HB, Q_HO117, Q_HO122, Q_HO125, Q_HO128, Q_HO132, Q_HO139, Q_HO142⟩)
 refine steps_cons ?_ ?_
 ·(
 rintro b a w' ⟨v116, v121, v124, v127, v131, v138, v141, ha, Q_HO110, Q_HO113, Q_HB, Q_HO117, Q_HO122, Q_HO125, Q_HO128, Q_HO132, Q_HO139, Q_HO142⟩ hb_ hon hoff
 refine ⟨_, rfl, fun K hK => ?_⟩
 have e41 : a.tmps[41]? = some (.bool t143) := by rw [ha]; exact putSel_on (e := (32, 41, .bool t143)) 31 rfl rfl (hon 32 (by kernel_rfl)) rfl
 replace ha := Aside0.mk ha
 have HO110 := Aside0.mk Q_HO110
 have HO113 := Aside0.mk Q_HO113
 have HB := Aside0.mk Q_HB
 have HO117 := Aside0.mk (Q_HO117 (hon 12 (by kernel_rfl)))
 have HO122 := Aside0.mk (Q_HO122 (hon 19 (by kernel_rfl)))
 have HO125 := Aside0.mk (Q_HO125 (hon 20 (by kernel_rfl)))
 have HO128 := Aside0.mk (Q_HO128 (hon 21 (by kernel_rfl)))
 have HO132 := Aside0.mk (Q_HO132 (hon 26 (by kernel_rfl)))
 have HO139 := Aside0.mk (Q_HO139 (hon 29 (by kernel_rfl)))
 have HO142 := Aside0.mk (Q_HO142 (hon 30 (by kernel_rfl)))
 refine value_ (w1 := w') (v := .bool t143) (by rfl) rfl ?_ ?_
 ·(
 go_simp
 (try simp only [i64_w])
 try rfl)
 refine hK.out _ _ ⟨v116, v121, v124, v127, v131, v138, v141, (by rw [ha.out]; exact putSel_upk 32 hb_ rfl rfl rfl), Q_HO110, Q_HO113, Q_HB, Q_HO117, Q_HO122, Q_HO125, Q_HO128, Q_HO132, Q_HO139, Q_HO142⟩)
 exact steps_nil)
 rintro b a w40 hall ⟨v116, v121, v124, v127, v131, v138, v141, ha, Q_HO110, Q_HO113, Q_HB, Q_HO117, Q_HO122, Q_HO125, Q_HO128, Q_HO132, Q_HO139, Q_HO142⟩
 clear HB HO110 HO113
 have hb1_ := hall 1 (by kernel_rfl)
 have hb2_ := hall 2 (by kernel_rfl)
 have hb3_ := hall 3 (by kernel_rfl)
 have hb4_ := hall 4 (by kernel_rfl)
 have hb5_ := hall 5 (by kernel_rfl)
 have hb6_ := hall 6 (by kernel_rfl)
 have hb7_ := hall 7 (by kernel_rfl)
 have hb8_ := hall 8 (by kernel_rfl)
 have hb9_ := hall 9 (by kernel_rfl)
 have hb10_ := hall 10 (by kernel_rfl)
 have hb11_ := hall 11 (by kernel_rfl)
 have hb12_ := hall 12 (by kernel_rfl)
 have hb13_ := hall 13 (by kernel_rfl)
 have hb14_ := hall 14 (by kernel_rfl)
 have hb15_ := hall 15 (by kernel_rfl)
 have hb16_ := hall 16 (by kernel_rfl)
 have hb17_ := hall 17 (by kernel_rfl)
 have hb18_ := hall 18 (by kernel_rfl)
 have hb19_ := hall 19 (by kernel_rfl)
 have hb20_ := hall 20 (by kernel_rfl)
 have hb21_ := hall 21 (by kernel_rfl)
 have hb22_ := hall 22 (by kernel_rfl)
 have hb23_ := hall 23 (by kernel_rfl)
 have hb24_ := hall 24 (by kernel_rfl)
 have hb25_ := hall 25 (by kernel_rfl)
 have hb26_ := hall 26 (by kernel_rfl)
 have hb27_ := hall 27 (by kernel_rfl)
 have hb28_ := hall 28 (by kernel_rfl)
 have hb29_ := hall 29 (by kernel_rfl)
 have hb30_ := hall 30 (by kernel_rfl)
 have hb31_ := hall 31 (by kernel_rfl)
 have hb32_ := hall 32 (by kernel_rfl)
 have hb33_ := hall 33 (by kernel_rfl)
 subst ha
 simp only [putSel, hb1_, hb2_, hb3_, hb4_, hb5_, hb6_, hb7_, hb8_, hb9_, hb10_, hb11_, hb12_, hb13_, hb14_, hb15_, hb16_, hb17_, hb18_, hb19_, hb20_, hb21_, hb22_, hb23_, hb24_, hb25_, hb26_, hb27_, hb28_, hb29_, hb30_, hb31_, hb32_, hb33_, if_true, Act.put, List.setIfInBounds_toArray, List.set_cons_zero, List.set_cons_succ]
 have HO110 := Aside0.mk Q_HO110
 clear Q_HO110
 have HO113 := Aside0.mk Q_HO113
 clear Q_HO113
 have HB := Aside0.mk Q_HB
 clear Q_HB
 have HO117 := Aside0.mk (Q_HO117 hb12_)
 clear Q_HO117
 have HO122 := Aside0.mk (Q_HO122 hb19_)
 clear Q_HO122
 have HO125 := Aside0.mk (Q_HO125 hb20_)
 clear Q_HO125
 have HO128 := Aside0.mk (Q_HO128 hb21_)
 clear Q_HO128
 have HO132 := Aside0.mk (Q_HO132 hb26_)
 clear Q_HO132
 have HO139 := Aside0.mk (Q_HO139 hb29_)
 clear Q_HO139
 have HO142 := Aside0.mk (Q_HO142 hb30_)
 clear Q_HO142
 clear hall hb1_ hb2_ hb3_ hb4_ hb5_ hb6_ hb7_ hb8_ hb9_ hb10_ hb11_ hb12_ hb13_ hb14_ hb15_ hb16_ hb17_ hb18_ hb19_ hb20_ hb21_ hb22_ hb23_ hb24_ hb25_ hb26_ hb27_ hb28_ hb29_ hb30_ hb31_ hb32_ hb33_
 try go_wp2
 go_ret
 exact ⟨by first | rfl | (simp [errW_none, errW_some] <;> rfl) | (simp [*, errW_none, errW_some] <;> rfl), bq HB.out⟩)
 ·(
 rw [if_neg c9] at H
 exact absurd H (by simp)))
 ·(
 replace c8 := Bool.eq_false_iff.mpr c8
 subst c8
 replace H := ifn H
 exact absurd (HRT.out.symm.trans (Option.some.inj H).symm) (by decide)))
 ·(
 rw [if_neg c5] at H
 exact absurd H (by simp)))
 ·(
 rw [if_neg c4] at H
 have c4b0 : (((rd_T28 t111 2).f1) == 3) = false := beq_eq_false_iff_ne.mpr c4
 have c4b1 : (((rd_T28 t111 2).f1) != 3) = true := bne_iff_ne.mpr c4
 exact absurd (HRT.out.symm.trans (Option.some.inj H).symm) (by decide)))
 ·(
 rw [if_neg c3] at H
 exact absurd H (by simp)))
 ·(
 rw [if_neg c2] at H
 have c2b0 : ((t111.length : Int) == 3) = false := beq_eq_false_iff_ne.mpr c2
 have c2b1 : ((t111.length : Int) != 3) = true := bne_iff_ne.mpr c2
 exact absurd (HRT.out.symm.trans (Option.some.inj H).symm) (by decide))
end Go.Proofs.Ytdobkcphmpbhlaa.PGL
