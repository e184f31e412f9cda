-- Written by a program of this session (hprint.py) out of the translation and of hand-proved parts. Lean checks it.
import Derived.Test.YtjlpggpkbcgekaaPG27x0
import Derived.Test.YtjlpggpkbcgekaaPG27x2
import Derived.Test.YtjlpggpkbcgekaaPG27x6
import Derived.Test.YtjlpggpkbcgekaaPG27x8
import Derived.Test.YtjlpggpkbcgekaaPG27x10
namespace Go.Proofs.Ytjlpggpkbcgekaa.PG27
open Go.RowKit Go.Proofs.YtjlpggpkbcgekaaW.PrintWords Go.Proofs.YtjlpggpkbcgekaaW.PrintLast Go.Proofs.YtjlpggpkbcgekaaW.PrintMore
attribute [local go_sem] max2_int min2_int max_two min_two max_three min_three max_four min_four   -- for this text's walks alone
set_option linter.unusedVariables false
set_option linter.unusedSimpArgs false

/-! ### rollbacknetlaw27_DeterminantChains: function 5 -/
mutual
def rollbacknetlaw27_DeterminantChains.l0 : Nat → List (S39) → Int → Option (Bool)
 | 0, _, _ => none
 | k + 1, x11, x12 => if x12 < (x11.length : Int) then (rollbacknetlaw27_DeterminantChains.l1 k x11 x12 0) else (some true)
def rollbacknetlaw27_DeterminantChains.l1 : Nat → List (S39) → Int → Int → Option (Bool)
 | 0, _, _, _ => none
 | k + 1, x11, x12, x13 => if x13 < (x11.length : Int) then (rollbacknetlaw27_DeterminantChains.l2 k x11 x12 x13 0) else (rollbacknetlaw27_DeterminantChains.l0 k x11 (wrap64 (x12 + 1)))
def rollbacknetlaw27_DeterminantChains.l2 : Nat → List (S39) → Int → Int → Int → Option (Bool)
 | 0, _, _, _, _ => none
 | k + 1, x11, x12, x13, x14 => if x14 < (x11.length : Int) then (if 0 ≤ x12 then (if x12 < (x11.length : Int) then (if 0 ≤ x13 then (if x13 < (x11.length : Int) then ((determinant_Compare.f k ((rd_T39 x11 x12).f0) ((rd_T39 x11 x12).f1) ((rd_T39 x11 x12).f2.f0) ((rd_T39 x11 x12).f2.f1) ((rd_T39 x11 x12).f2.f2) ((rd_T39 x11 x12).f2.f3.f0) ((rd_T39 x11 x12).f2.f3.f1) ((rd_T39 x11 x12).f2.f4) ((rd_T39 x11 x12).f2.f5) ((rd_T39 x11 x13).f0) ((rd_T39 x11 x13).f1) ((rd_T39 x11 x13).f2.f0) ((rd_T39 x11 x13).f2.f1) ((rd_T39 x11 x13).f2.f2) ((rd_T39 x11 x13).f2.f3.f0) ((rd_T39 x11 x13).f2.f3.f1) ((rd_T39 x11 x13).f2.f4) ((rd_T39 x11 x13).f2.f5)).bind fun t199 => (if t199 ≤ 0 then (if 0 ≤ x14 then ((determinant_Compare.f k ((rd_T39 x11 x13).f0) ((rd_T39 x11 x13).f1) ((rd_T39 x11 x13).f2.f0) ((rd_T39 x11 x13).f2.f1) ((rd_T39 x11 x13).f2.f2) ((rd_T39 x11 x13).f2.f3.f0) ((rd_T39 x11 x13).f2.f3.f1) ((rd_T39 x11 x13).f2.f4) ((rd_T39 x11 x13).f2.f5) ((rd_T39 x11 x14).f0) ((rd_T39 x11 x14).f1) ((rd_T39 x11 x14).f2.f0) ((rd_T39 x11 x14).f2.f1) ((rd_T39 x11 x14).f2.f2) ((rd_T39 x11 x14).f2.f3.f0) ((rd_T39 x11 x14).f2.f3.f1) ((rd_T39 x11 x14).f2.f4) ((rd_T39 x11 x14).f2.f5)).bind fun t202 => (if t202 ≤ 0 then ((determinant_Compare.f k ((rd_T39 x11 x12).f0) ((rd_T39 x11 x12).f1) ((rd_T39 x11 x12).f2.f0) ((rd_T39 x11 x12).f2.f1) ((rd_T39 x11 x12).f2.f2) ((rd_T39 x11 x12).f2.f3.f0) ((rd_T39 x11 x12).f2.f3.f1) ((rd_T39 x11 x12).f2.f4) ((rd_T39 x11 x12).f2.f5) ((rd_T39 x11 x14).f0) ((rd_T39 x11 x14).f1) ((rd_T39 x11 x14).f2.f0) ((rd_T39 x11 x14).f2.f1) ((rd_T39 x11 x14).f2.f2) ((rd_T39 x11 x14).f2.f3.f0) ((rd_T39 x11 x14).f2.f3.f1) ((rd_T39 x11 x14).f2.f4) ((rd_T39 x11 x14).f2.f5)).bind fun t205 => (if t205 > 0 then (some false) else (rollbacknetlaw27_DeterminantChains.l2 k x11 x12 x13 (wrap64 (x14 + 1))))) else (rollbacknetlaw27_DeterminantChains.l2 k x11 x12 x13 (wrap64 (x14 + 1))))) else (none)) else (rollbacknetlaw27_DeterminantChains.l2 k x11 x12 x13 (wrap64 (x14 + 1))))) else (none)) else (none)) else (none)) else (none)) else (rollbacknetlaw27_DeterminantChains.l1 k x11 x12 (wrap64 (x13 + 1)))
end
def rollbacknetlaw27_DeterminantChains.f (k : Nat) (a0_0 : Int) (a0_1 : Int) (a0_2 : Int) (a0_3 : Int) (a0_4 : Int) (a0_5 : Int) (a0_6 : Int) (a0_7 : Int) (a0_8 : Int) (a1_0 : Int) (a1_1 : Int) (a1_2 : Int) (a1_3 : Int) (a1_4 : Int) (a1_5 : Int) (a1_6 : Int) (a1_7 : Int) (a1_8 : Int) (a2_0 : Int) (a2_1 : Int) (a2_2 : Int) (a2_3 : Int) (a2_4 : Int) (a2_5 : Int) (a2_6 : Int) (a2_7 : Int) (a2_8 : Int) (a3 : Int) (a4 : Int) : Option (Bool) := (rollbacknetlaw27_awake.f k).bind fun t175 => (if t175 = true then ((rollbacknetlaw27_near.f a0_0 a0_1 a0_2 a0_3 a0_4 a0_5 a0_6 a0_7 a0_8 a3 a4).bind fun bt176 => ((rollbacknetlaw27_near.f a1_0 a1_1 a1_2 a1_3 a1_4 a1_5 a1_6 a1_7 a1_8 (wrap64 (a3 + 1)) a4).bind fun bt185 => (rollbacknetlaw27_DeterminantChains.l0 k (([(⟨a0_0, a0_1, (⟨a0_2, a0_3, a0_4, (⟨a0_5, a0_6⟩ : S35), a0_7, a0_8⟩ : S37)⟩ : S39), (⟨a1_0, a1_1, (⟨a1_2, a1_3, a1_4, (⟨a1_5, a1_6⟩ : S35), a1_7, a1_8⟩ : S37)⟩ : S39), (⟨a2_0, a2_1, (⟨a2_2, a2_3, a2_4, (⟨a2_5, a2_6⟩ : S35), a2_7, a2_8⟩ : S37)⟩ : S39), (⟨bt176.1, bt176.2.1, (⟨bt176.2.2.1, bt176.2.2.2.1, bt176.2.2.2.2.1, (⟨bt176.2.2.2.2.2.1, bt176.2.2.2.2.2.2.1⟩ : S35), bt176.2.2.2.2.2.2.2.1, bt176.2.2.2.2.2.2.2.2⟩ : S37)⟩ : S39), (⟨bt185.1, bt185.2.1, (⟨bt185.2.2.1, bt185.2.2.2.1, bt185.2.2.2.2.1, (⟨bt185.2.2.2.2.2.1, bt185.2.2.2.2.2.2.1⟩ : S35), bt185.2.2.2.2.2.2.2.1, bt185.2.2.2.2.2.2.2.2⟩ : S37)⟩ : S39)] : List (S39))) 0))) else (some false))
theorem rollbacknetlaw27_DeterminantChains.mono_l : ∀ k, (∀ y0 y1, LeO (rollbacknetlaw27_DeterminantChains.l0 k y0 y1) (rollbacknetlaw27_DeterminantChains.l0 (k + 1) y0 y1)) ∧ (∀ y0 y1 y2, LeO (rollbacknetlaw27_DeterminantChains.l1 k y0 y1 y2) (rollbacknetlaw27_DeterminantChains.l1 (k + 1) y0 y1 y2)) ∧ (∀ y0 y1 y2 y3, LeO (rollbacknetlaw27_DeterminantChains.l2 k y0 y1 y2 y3) (rollbacknetlaw27_DeterminantChains.l2 (k + 1) y0 y1 y2 y3))
 | 0 => ⟨fun _ _ r h => by simp [rollbacknetlaw27_DeterminantChains.l0] at h, fun _ _ _ r h => by simp [rollbacknetlaw27_DeterminantChains.l1] at h, fun _ _ _ _ r h => by simp [rollbacknetlaw27_DeterminantChains.l2] at h⟩
 | k + 1 => by
  obtain ⟨ih0, ih1, ih2⟩ := rollbacknetlaw27_DeterminantChains.mono_l k
  refine ⟨?_, ?_, ?_⟩
  ·intro y0 y1
   unfold rollbacknetlaw27_DeterminantChains.l0
   repeat' first
   | (with_reducible exact ih0 _ _)
   | (with_reducible exact ih1 _ _ _)
   | (with_reducible exact ih2 _ _ _ _)
   | (with_reducible exact determinant_Compare.mono _ _ _ _ _ _ _ _ _ _ _ _ _ _ _ _ _ _ _)
   | (with_reducible exact rollbacknetlaw27_awake.mono _)
   | (with_reducible exact LeO.refl _)
   | (with_reducible exact LeO.none _)
   | (with_reducible refine LeO.ite ?_ ?_)
   | (with_reducible refine LeO.bind ?_ (fun _ => ?_))
   | exact ih0 _ _
   | exact ih1 _ _ _
   | exact ih2 _ _ _ _
   | exact determinant_Compare.mono _ _ _ _ _ _ _ _ _ _ _ _ _ _ _ _ _ _ _
   | exact rollbacknetlaw27_awake.mono _
   | exact LeO.none _
   | refine LeO.ite ?_ ?_
   | refine LeO.bind ?_ (fun _ => ?_)
  ·intro y0 y1 y2
   unfold rollbacknetlaw27_DeterminantChains.l1
   repeat' first
   | (with_reducible exact ih0 _ _)
   | (with_reducible exact ih1 _ _ _)
   | (with_reducible exact ih2 _ _ _ _)
   | (with_reducible exact determinant_Compare.mono _ _ _ _ _ _ _ _ _ _ _ _ _ _ _ _ _ _ _)
   | (with_reducible exact rollbacknetlaw27_awake.mono _)
   | (with_reducible exact LeO.refl _)
   | (with_reducible exact LeO.none _)
   | (with_reducible refine LeO.ite ?_ ?_)
   | (with_reducible refine LeO.bind ?_ (fun _ => ?_))
   | exact ih0 _ _
   | exact ih1 _ _ _
   | exact ih2 _ _ _ _
   | exact determinant_Compare.mono _ _ _ _ _ _ _ _ _ _ _ _ _ _ _ _ _ _ _
   | exact rollbacknetlaw27_awake.mono _
   | exact LeO.none _
   | refine LeO.ite ?_ ?_
   | refine LeO.bind ?_ (fun _ => ?_)
  ·intro y0 y1 y2 y3
   unfold rollbacknetlaw27_DeterminantChains.l2
   repeat' first
   | (with_reducible exact ih0 _ _)
   | (with_reducible exact ih1 _ _ _)
   | (with_reducible exact ih2 _ _ _ _)
   | (with_reducible exact determinant_Compare.mono _ _ _ _ _ _ _ _ _ _ _ _ _ _ _ _ _ _ _)
   | (with_reducible exact rollbacknetlaw27_awake.mono _)
   | (with_reducible exact LeO.refl _)
   | (with_reducible exact LeO.none _)
   | (with_reducible refine LeO.ite ?_ ?_)
   | (with_reducible refine LeO.bind ?_ (fun _ => ?_))
   | exact ih0 _ _
   | exact ih1 _ _ _
   | exact ih2 _ _ _ _
   | exact determinant_Compare.mono _ _ _ _ _ _ _ _ _ _ _ _ _ _ _ _ _ _ _
   | exact rollbacknetlaw27_awake.mono _
   | exact LeO.none _
   | refine LeO.ite ?_ ?_
   | refine LeO.bind ?_ (fun _ => ?_)
theorem rollbacknetlaw27_DeterminantChains.mono : ∀ a0 a1 a2 a3 a4 a5 a6 a7 a8 a9 a10 a11 a12 a13 a14 a15 a16 a17 a18 a19 a20 a21 a22 a23 a24 a25 a26 a27 a28 k, LeO (rollbacknetlaw27_DeterminantChains.f k a0 a1 a2 a3 a4 a5 a6 a7 a8 a9 a10 a11 a12 a13 a14 a15 a16 a17 a18 a19 a20 a21 a22 a23 a24 a25 a26 a27 a28) (rollbacknetlaw27_DeterminantChains.f (k + 1) a0 a1 a2 a3 a4 a5 a6 a7 a8 a9 a10 a11 a12 a13 a14 a15 a16 a17 a18 a19 a20 a21 a22 a23 a24 a25 a26 a27 a28) := by
 intro a0 a1 a2 a3 a4 a5 a6 a7 a8 a9 a10 a11 a12 a13 a14 a15 a16 a17 a18 a19 a20 a21 a22 a23 a24 a25 a26 a27 a28 k
 obtain ⟨ih0, ih1, ih2⟩ := rollbacknetlaw27_DeterminantChains.mono_l k
 unfold rollbacknetlaw27_DeterminantChains.f
 repeat' first
   | (with_reducible exact ih0 _ _)
   | (with_reducible exact ih1 _ _ _)
   | (with_reducible exact ih2 _ _ _ _)
   | (with_reducible exact determinant_Compare.mono _ _ _ _ _ _ _ _ _ _ _ _ _ _ _ _ _ _ _)
   | (with_reducible exact rollbacknetlaw27_awake.mono _)
   | (with_reducible exact LeO.refl _)
   | (with_reducible exact LeO.none _)
   | (with_reducible refine LeO.ite ?_ ?_)
   | (with_reducible refine LeO.bind ?_ (fun _ => ?_))
   | exact ih0 _ _
   | exact ih1 _ _ _
   | exact ih2 _ _ _ _
   | exact determinant_Compare.mono _ _ _ _ _ _ _ _ _ _ _ _ _ _ _ _ _ _ _
   | exact rollbacknetlaw27_awake.mono _
   | exact LeO.none _
   | refine LeO.ite ?_ ?_
   | refine LeO.bind ?_ (fun _ => ?_)
def rollbacknetlaw27_DeterminantChains.T3 : Bool × List (List Nat × List Nat) := (true, [([], []), ([], []), ([], []), ([], []), ([], []), ([], []), ([3, 4, 5], [3, 4, 5]), ([], []), ([], []), ([8], [8]), ([], []), ([7, 9, 10, 6], [7, 9, 10]), ([0, 1, 2, 6, 11], [0, 1, 2, 6, 11]), ([12, 11, 0, 1, 2, 3, 4, 5, 6, 7, 8, 9, 10, 11, 12], [12])])
def rollbacknetlaw27_DeterminantChains.B3 : List Nat := [0, 0, 0, 0, 0, 0, 56, 0, 0, 256, 0, 2040, 4095, 8191]
theorem rollbacknetlaw27_DeterminantChains.tab3 : rtab .any (opsOf Try.f5 3) = rollbacknetlaw27_DeterminantChains.T3 := by kernel_rfl
theorem rollbacknetlaw27_DeterminantChains.bits3 : waitsOk rollbacknetlaw27_DeterminantChains.T3.2 rollbacknetlaw27_DeterminantChains.B3 = true := by kernel_rfl
def rollbacknetlaw27_DeterminantChains.T13 : Bool × List (List Nat × List Nat) := (true, [([], []), ([], []), ([0, 1], [0, 1]), ([2], [2]), ([], []), ([], []), ([4, 5], [4, 5]), ([6], [6]), ([3, 7], [3, 7]), ([8], [8]), ([9, 8], [9]), ([10], [10]), ([10], [10]), ([11, 12, 10], [10, 11, 12]), ([13, 10], [10, 13]), ([10], [10]), ([10], [10]), ([15, 16, 10], [10, 15, 16]), ([17, 10], [10, 17]), ([14, 18, 10, 10], [10, 14, 18]), ([19, 10], [10, 19]), ([10, 20], [10, 20]), ([21, 19], [21]), ([22], [22]), ([22], [22]), ([23, 24, 22], [22, 23, 24]), ([25, 22], [22, 25]), ([22], [22]), ([22], [22]), ([27, 28, 22], [22, 27, 28]), ([29, 22], [22, 29]), ([26, 30, 22, 22], [22, 26, 30]), ([31, 22], [22, 31]), ([22, 32], [22, 32])])
def rollbacknetlaw27_DeterminantChains.B13 : List Nat := [0, 0, 3, 7, 0, 0, 48, 112, 255, 511, 1023, 2047, 2047, 8191, 16383, 2047, 2047, 100351, 231423, 524287, 1048575, 2097151, 4194303, 8388607, 8388607, 33554431, 67108863, 8388607, 8388607, 411041791, 947912703, 2147483647, 4294967295, 8589934591]
theorem rollbacknetlaw27_DeterminantChains.tab13 : rtab .any (opsOf Try.f5 13) = rollbacknetlaw27_DeterminantChains.T13 := by kernel_rfl
theorem rollbacknetlaw27_DeterminantChains.bits13 : waitsOk rollbacknetlaw27_DeterminantChains.T13.2 rollbacknetlaw27_DeterminantChains.B13 = true := by kernel_rfl
set_option maxHeartbeats 8000000 in
set_option maxRecDepth 100000 in
theorem rollbacknetlaw27_DeterminantChains.calls (k : Nat) (a0_0 : Int) (a0_1 : Int) (a0_2 : Int) (a0_3 : Int) (a0_4 : Int) (a0_5 : Int) (a0_6 : Int) (a0_7 : Int) (a0_8 : Int) (a1_0 : Int) (a1_1 : Int) (a1_2 : Int) (a1_3 : Int) (a1_4 : Int) (a1_5 : Int) (a1_6 : Int) (a1_7 : Int) (a1_8 : Int) (a2_0 : Int) (a2_1 : Int) (a2_2 : Int) (a2_3 : Int) (a2_4 : Int) (a2_5 : Int) (a2_6 : Int) (a2_7 : Int) (a2_8 : Int) (a3 : Int) (a4 : Int) (r : Bool) (w : World) (h : rollbacknetlaw27_DeterminantChains.f k a0_0 a0_1 a0_2 a0_3 a0_4 a0_5 a0_6 a0_7 a0_8 a1_0 a1_1 a1_2 a1_3 a1_4 a1_5 a1_6 a1_7 a1_8 a2_0 a2_1 a2_2 a2_3 a2_4 a2_5 a2_6 a2_7 a2_8 a3 a4 = some r) :
  Calls Try.prog 5 #[.agg #[.int .i64 a0_0, .int .i64 a0_1, .int .i64 a0_2, .int .i64 a0_3, .int .i64 a0_4, .int .i64 a0_5, .int .i64 a0_6, .int .i64 a0_7, .int .i64 a0_8], .agg #[.int .i64 a1_0, .int .i64 a1_1, .int .i64 a1_2, .int .i64 a1_3, .int .i64 a1_4, .int .i64 a1_5, .int .i64 a1_6, .int .i64 a1_7, .int .i64 a1_8], .agg #[.int .i64 a2_0, .int .i64 a2_1, .int .i64 a2_2, .int .i64 a2_3, .int .i64 a2_4, .int .i64 a2_5, .int .i64 a2_6, .int .i64 a2_7, .int .i64 a2_8], .int .i64 a3, .int .i64 a4] w fun e w' => e = .returned (.bool r) ∧ Below w.heap.size w w' := by
 have hu39 := Try.underlying39
 have HB := Aside0.mk (Below.refl w.heap.size w)
 have H : ((rollbacknetlaw27_awake.f k).bind fun t175 => (if t175 = true then ((rollbacknetlaw27_near.f a0_0 a0_1 a0_2 a0_3 a0_4 a0_5 a0_6 a0_7 a0_8 a3 a4).bind fun bt176 => ((rollbacknetlaw27_near.f a1_0 a1_1 a1_2 a1_3 a1_4 a1_5 a1_6 a1_7 a1_8 (wrap64 (a3 + 1)) a4).bind fun bt185 => (rollbacknetlaw27_DeterminantChains.l0 k (([(⟨a0_0, a0_1, (⟨a0_2, a0_3, a0_4, (⟨a0_5, a0_6⟩ : S35), a0_7, a0_8⟩ : S37)⟩ : S39), (⟨a1_0, a1_1, (⟨a1_2, a1_3, a1_4, (⟨a1_5, a1_6⟩ : S35), a1_7, a1_8⟩ : S37)⟩ : S39), (⟨a2_0, a2_1, (⟨a2_2, a2_3, a2_4, (⟨a2_5, a2_6⟩ : S35), a2_7, a2_8⟩ : S37)⟩ : S39), (⟨bt176.1, bt176.2.1, (⟨bt176.2.2.1, bt176.2.2.2.1, bt176.2.2.2.2.1, (⟨bt176.2.2.2.2.2.1, bt176.2.2.2.2.2.2.1⟩ : S35), bt176.2.2.2.2.2.2.2.1, bt176.2.2.2.2.2.2.2.2⟩ : S37)⟩ : S39), (⟨bt185.1, bt185.2.1, (⟨bt185.2.2.1, bt185.2.2.2.1, bt185.2.2.2.2.1, (⟨bt185.2.2.2.2.2.1, bt185.2.2.2.2.2.2.1⟩ : S35), bt185.2.2.2.2.2.2.2.1, bt185.2.2.2.2.2.2.2.2⟩ : S37)⟩ : S39)] : List (S39))) 0))) else (some false))) = some r := h
 clear h
 replace H := Option.bind_eq_some_iff.mp H
 obtain ⟨t175, A60, H⟩ := H
 replace H : (if t175 = true then ((rollbacknetlaw27_near.f a0_0 a0_1 a0_2 a0_3 a0_4 a0_5 a0_6 a0_7 a0_8 a3 a4).bind fun bt176 => ((rollbacknetlaw27_near.f a1_0 a1_1 a1_2 a1_3 a1_4 a1_5 a1_6 a1_7 a1_8 (wrap64 (a3 + 1)) a4).bind fun bt185 => (rollbacknetlaw27_DeterminantChains.l0 k (([(⟨a0_0, a0_1, (⟨a0_2, a0_3, a0_4, (⟨a0_5, a0_6⟩ : S35), a0_7, a0_8⟩ : S37)⟩ : S39), (⟨a1_0, a1_1, (⟨a1_2, a1_3, a1_4, (⟨a1_5, a1_6⟩ : S35), a1_7, a1_8⟩ : S37)⟩ : S39), (⟨a2_0, a2_1, (⟨a2_2, a2_3, a2_4, (⟨a2_5, a2_6⟩ : S35), a2_7, a2_8⟩ : S37)⟩ : S39), (⟨bt176.1, bt176.2.1, (⟨bt176.2.2.1, bt176.2.2.2.1, bt176.2.2.2.2.1, (⟨bt176.2.2.2.2.2.1, bt176.2.2.2.2.2.2.1⟩ : S35), bt176.2.2.2.2.2.2.2.1, bt176.2.2.2.2.2.2.2.2⟩ : S37)⟩ : S39), (⟨bt185.1, bt185.2.1, (⟨bt185.2.2.1, bt185.2.2.2.1, bt185.2.2.2.2.1, (⟨bt185.2.2.2.2.2.1, bt185.2.2.2.2.2.2.1⟩ : S35), bt185.2.2.2.2.2.2.2.1, bt185.2.2.2.2.2.2.2.2⟩ : S37)⟩ : S39)] : List (S39))) 0))) else (some false)) = some r := H
 have A6 := Aside0.mk A60
 clear A60
 by_cases c7 : t175 = true
 ·(
 subst c7
 have H1 : ((rollbacknetlaw27_near.f a0_0 a0_1 a0_2 a0_3 a0_4 a0_5 a0_6 a0_7 a0_8 a3 a4).bind fun bt176 => ((rollbacknetlaw27_near.f a1_0 a1_1 a1_2 a1_3 a1_4 a1_5 a1_6 a1_7 a1_8 (wrap64 (a3 + 1)) a4).bind fun bt185 => (rollbacknetlaw27_DeterminantChains.l0 k (([(⟨a0_0, a0_1, (⟨a0_2, a0_3, a0_4, (⟨a0_5, a0_6⟩ : S35), a0_7, a0_8⟩ : S37)⟩ : S39), (⟨a1_0, a1_1, (⟨a1_2, a1_3, a1_4, (⟨a1_5, a1_6⟩ : S35), a1_7, a1_8⟩ : S37)⟩ : S39), (⟨a2_0, a2_1, (⟨a2_2, a2_3, a2_4, (⟨a2_5, a2_6⟩ : S35), a2_7, a2_8⟩ : S37)⟩ : S39), (⟨bt176.1, bt176.2.1, (⟨bt176.2.2.1, bt176.2.2.2.1, bt176.2.2.2.2.1, (⟨bt176.2.2.2.2.2.1, bt176.2.2.2.2.2.2.1⟩ : S35), bt176.2.2.2.2.2.2.2.1, bt176.2.2.2.2.2.2.2.2⟩ : S37)⟩ : S39), (⟨bt185.1, bt185.2.1, (⟨bt185.2.2.1, bt185.2.2.2.1, bt185.2.2.2.2.1, (⟨bt185.2.2.2.2.2.1, bt185.2.2.2.2.2.2.1⟩ : S35), bt185.2.2.2.2.2.2.2.1, bt185.2.2.2.2.2.2.2.2⟩ : S37)⟩ : S39)] : List (S39))) 0))) = some r := by rw [if_pos rfl] at H; exact H
 clear H
 have H := H1
 clear H1
 replace H := Option.bind_eq_some_iff.mp H
 obtain ⟨⟨t176, t177, t178, t179, t180, t181, t182, t183, t184⟩, A80, H⟩ := H
 replace H : ((rollbacknetlaw27_near.f a1_0 a1_1 a1_2 a1_3 a1_4 a1_5 a1_6 a1_7 a1_8 (wrap64 (a3 + 1)) a4).bind fun bt185 => (rollbacknetlaw27_DeterminantChains.l0 k (([(⟨a0_0, a0_1, (⟨a0_2, a0_3, a0_4, (⟨a0_5, a0_6⟩ : S35), a0_7, a0_8⟩ : S37)⟩ : S39), (⟨a1_0, a1_1, (⟨a1_2, a1_3, a1_4, (⟨a1_5, a1_6⟩ : S35), a1_7, a1_8⟩ : S37)⟩ : S39), (⟨a2_0, a2_1, (⟨a2_2, a2_3, a2_4, (⟨a2_5, a2_6⟩ : S35), a2_7, a2_8⟩ : S37)⟩ : S39), (⟨t176, t177, (⟨t178, t179, t180, (⟨t181, t182⟩ : S35), t183, t184⟩ : S37)⟩ : S39), (⟨bt185.1, bt185.2.1, (⟨bt185.2.2.1, bt185.2.2.2.1, bt185.2.2.2.2.1, (⟨bt185.2.2.2.2.2.1, bt185.2.2.2.2.2.2.1⟩ : S35), bt185.2.2.2.2.2.2.2.1, bt185.2.2.2.2.2.2.2.2⟩ : S37)⟩ : S39)] : List (S39))) 0)) = some r := H
 have A8 := Aside0.mk A80
 clear A80
 replace H := Option.bind_eq_some_iff.mp H
 obtain ⟨⟨t185, t186, t187, t188, t189, t190, t191, t192, t193⟩, A90, H⟩ := H
 replace H : (rollbacknetlaw27_DeterminantChains.l0 k (([(⟨a0_0, a0_1, (⟨a0_2, a0_3, a0_4, (⟨a0_5, a0_6⟩ : S35), a0_7, a0_8⟩ : S37)⟩ : S39), (⟨a1_0, a1_1, (⟨a1_2, a1_3, a1_4, (⟨a1_5, a1_6⟩ : S35), a1_7, a1_8⟩ : S37)⟩ : S39), (⟨a2_0, a2_1, (⟨a2_2, a2_3, a2_4, (⟨a2_5, a2_6⟩ : S35), a2_7, a2_8⟩ : S37)⟩ : S39), (⟨t176, t177, (⟨t178, t179, t180, (⟨t181, t182⟩ : S35), t183, t184⟩ : S37)⟩ : S39), (⟨t185, t186, (⟨t187, t188, t189, (⟨t190, t191⟩ : S35), t192, t193⟩ : S37)⟩ : S39)] : List (S39))) 0) = some r := H
 have A9 := Aside0.mk A90
 clear A90
 obtain ⟨y194, hy194⟩ : ∃ y_ : List (S39), y_ = (([(⟨a0_0, a0_1, (⟨a0_2, a0_3, a0_4, (⟨a0_5, a0_6⟩ : S35), a0_7, a0_8⟩ : S37)⟩ : S39), (⟨a1_0, a1_1, (⟨a1_2, a1_3, a1_4, (⟨a1_5, a1_6⟩ : S35), a1_7, a1_8⟩ : S37)⟩ : S39), (⟨a2_0, a2_1, (⟨a2_2, a2_3, a2_4, (⟨a2_5, a2_6⟩ : S35), a2_7, a2_8⟩ : S37)⟩ : S39), (⟨t176, t177, (⟨t178, t179, t180, (⟨t181, t182⟩ : S35), t183, t184⟩ : S37)⟩ : S39), (⟨t185, t186, (⟨t187, t188, t189, (⟨t190, t191⟩ : S35), t192, t193⟩ : S37)⟩ : S39)] : List (S39))) := ⟨_, rfl⟩
 replace H : (rollbacknetlaw27_DeterminantChains.l0 k y194 0) = some r := by first | (rw [hy194]; with_reducible exact H) | (have H2_ := (Option.bind_some _ _).symm.trans H; rw [hy194]; with_reducible exact H2_) | (have H2_ := (Option.bind_some _ _).symm.trans H; with_reducible exact H2_) | with_reducible exact H | (rw [hy194]; exact H) | exact H
 have Ny194 := Aside0.mk hy194
 clear hy194
 have H' := Aside0.mk H
 clear H
 go_enter Try.func5, Try.ntmps5
 try go_wp2_with (first | ((with_reducible refine gate_dst (N := 5) rfl ?_); refine box_event ?hg (N := 5) ?hd (cs := #[.int .i64 a0_0, .int .i64 a0_1, .int .i64 a0_2, .int .i64 a0_3, .int .i64 a0_4, .int .i64 a0_5, .int .i64 a0_6, .int .i64 a0_7, .int .i64 a0_8]) (t := 39) ?hr ?_; (case hd => rfl); (case hg => rfl); (case hr => first | (go_simp; done) | (go_simp; rfl)); intro gb172 hg w10 hbox hb; have n0_ := Aside0.mk (below_step (bq HB.out) hb); have n1_ := Aside0.mk (hbox); have n2_ := Aside0.mk ((by rw [hg]; exact (below_size (bq HB.out)) : w.heap.size ≤ gb172)); have n3_ := Aside0.mk ((by rw [hg]; exact (below_size (bq HB.out)) : w.heap.size ≤ gb172)); clear HB; have HB := n0_; have BK172 := n1_; have GW172 := n2_; have GE172 := n3_; clear n0_ n1_ n2_ n3_; clear hb hbox hg) | ((with_reducible refine gate_dst (N := 6) rfl ?_); refine box_event ?hg (N := 6) ?hd (cs := #[.int .i64 a1_0, .int .i64 a1_1, .int .i64 a1_2, .int .i64 a1_3, .int .i64 a1_4, .int .i64 a1_5, .int .i64 a1_6, .int .i64 a1_7, .int .i64 a1_8]) (t := 39) ?hr ?_; (case hd => rfl); (case hg => rfl); (case hr => first | (go_simp; done) | (go_simp; rfl)); intro gb173 hg w11 hbox hb; have n0_ := Aside0.mk (blk_below (g := gb172) (o := .cells #[.int .i64 a0_0, .int .i64 a0_1, .int .i64 a0_2, .int .i64 a0_3, .int .i64 a0_4, .int .i64 a0_5, .int .i64 a0_6, .int .i64 a0_7, .int .i64 a0_8] 39 (0, 0)) (kq BK172.out) hb); have n1_ := Aside0.mk (below_step (bq1 HB.out GE172.out) hb); have n2_ := Aside0.mk (hbox); have n3_ := Aside0.mk ((by rw [hg]; exact (below_size (bq1 HB.out GE172.out)) : w.heap.size ≤ gb173)); have n4_ := Aside0.mk ((by rw [hg]; exact (below_size (bq1 HB.out GE172.out)) : w.heap.size ≤ gb173)); have n5_ := Aside0.mk ((by rw [hg]; exact Nat.ne_of_lt (blk_lt (g := gb172) (o := .cells #[.int .i64 a0_0, .int .i64 a0_1, .int .i64 a0_2, .int .i64 a0_3, .int .i64 a0_4, .int .i64 a0_5, .int .i64 a0_6, .int .i64 a0_7, .int .i64 a0_8] 39 (0, 0)) (kq BK172.out)) : gb172 ≠ gb173)); have n6_ := Aside0.mk ((by rw [hg]; exact Nat.ne_of_gt (blk_lt (g := gb172) (o := .cells #[.int .i64 a0_0, .int .i64 a0_1, .int .i64 a0_2, .int .i64 a0_3, .int .i64 a0_4, .int .i64 a0_5, .int .i64 a0_6, .int .i64 a0_7, .int .i64 a0_8] 39 (0, 0)) (kq BK172.out)) : gb173 ≠ gb172)); clear BK172; clear HB; have BK172 := n0_; have HB := n1_; have BK173 := n2_; have GW173 := n3_; have GE173 := n4_; have NB172_173 := n5_; have NB173_172 := n6_; clear n0_ n1_ n2_ n3_ n4_ n5_ n6_; clear hb hbox hg) | ((with_reducible refine gate_dst (N := 7) rfl ?_); refine box_event ?hg (N := 7) ?hd (cs := #[.int .i64 a2_0, .int .i64 a2_1, .int .i64 a2_2, .int .i64 a2_3, .int .i64 a2_4, .int .i64 a2_5, .int .i64 a2_6, .int .i64 a2_7, .int .i64 a2_8]) (t := 39) ?hr ?_; (case hd => rfl); (case hg => rfl); (case hr => first | (go_simp; done) | (go_simp; rfl)); intro gb174 hg w12 hbox hb; have n0_ := Aside0.mk (blk_below (g := gb172) (o := .cells #[.int .i64 a0_0, .int .i64 a0_1, .int .i64 a0_2, .int .i64 a0_3, .int .i64 a0_4, .int .i64 a0_5, .int .i64 a0_6, .int .i64 a0_7, .int .i64 a0_8] 39 (0, 0)) (kq BK172.out) hb); have n1_ := Aside0.mk (blk_below (g := gb173) (o := .cells #[.int .i64 a1_0, .int .i64 a1_1, .int .i64 a1_2, .int .i64 a1_3, .int .i64 a1_4, .int .i64 a1_5, .int .i64 a1_6, .int .i64 a1_7, .int .i64 a1_8] 39 (0, 0)) (kq BK173.out) hb); have n2_ := Aside0.mk (below_step (bq2 HB.out GE172.out GE173.out) hb); have n3_ := Aside0.mk (hbox); have n4_ := Aside0.mk ((by rw [hg]; exact (below_size (bq2 HB.out GE172.out GE173.out)) : w.heap.size ≤ gb174)); have n5_ := Aside0.mk ((by rw [hg]; exact (below_size (bq2 HB.out GE172.out GE173.out)) : w.heap.size ≤ gb174)); have n6_ := Aside0.mk ((by rw [hg]; exact Nat.ne_of_lt (blk_lt (g := gb172) (o := .cells #[.int .i64 a0_0, .int .i64 a0_1, .int .i64 a0_2, .int .i64 a0_3, .int .i64 a0_4, .int .i64 a0_5, .int .i64 a0_6, .int .i64 a0_7, .int .i64 a0_8] 39 (0, 0)) (kq BK172.out)) : gb172 ≠ gb174)); have n7_ := Aside0.mk ((by rw [hg]; exact Nat.ne_of_gt (blk_lt (g := gb172) (o := .cells #[.int .i64 a0_0, .int .i64 a0_1, .int .i64 a0_2, .int .i64 a0_3, .int .i64 a0_4, .int .i64 a0_5, .int .i64 a0_6, .int .i64 a0_7, .int .i64 a0_8] 39 (0, 0)) (kq BK172.out)) : gb174 ≠ gb172)); have n8_ := Aside0.mk ((by rw [hg]; exact Nat.ne_of_lt (blk_lt (g := gb173) (o := .cells #[.int .i64 a1_0, .int .i64 a1_1, .int .i64 a1_2, .int .i64 a1_3, .int .i64 a1_4, .int .i64 a1_5, .int .i64 a1_6, .int .i64 a1_7, .int .i64 a1_8] 39 (0, 0)) (kq BK173.out)) : gb173 ≠ gb174)); have n9_ := Aside0.mk ((by rw [hg]; exact Nat.ne_of_gt (blk_lt (g := gb173) (o := .cells #[.int .i64 a1_0, .int .i64 a1_1, .int .i64 a1_2, .int .i64 a1_3, .int .i64 a1_4, .int .i64 a1_5, .int .i64 a1_6, .int .i64 a1_7, .int .i64 a1_8] 39 (0, 0)) (kq BK173.out)) : gb174 ≠ gb173)); clear BK172; clear BK173; clear HB; have BK172 := n0_; have BK173 := n1_; have HB := n2_; have BK174 := n3_; have GW174 := n4_; have GE174 := n5_; have NB172_174 := n6_; have NB174_172 := n7_; have NB173_174 := n8_; have NB174_173 := n9_; clear n0_ n1_ n2_ n3_ n4_ n5_ n6_ n7_ n8_ n9_; clear hb hbox hg) | ((with_reducible refine gate_callee (f := 12) rfl ?_); refine goesL_ (some 15) rfl rfl Try.func12 (by kernel_rfl) rfl #[] rfl (by (try simp only [List.map_toArray, List.map_cons, List.map_nil]); first | done | rfl | (simp only [List.length_drop, List.length_take]; rfl)) ?_; (with_reducible refine (rollbacknetlaw27_awake.calls k  true _ A6.out).mono ?_); rintro e w13 ⟨rfl, hb⟩; refine ⟨_, rfl, ?_⟩; have n0_ := Aside0.mk (blk_below (g := gb172) (o := .cells #[.int .i64 a0_0, .int .i64 a0_1, .int .i64 a0_2, .int .i64 a0_3, .int .i64 a0_4, .int .i64 a0_5, .int .i64 a0_6, .int .i64 a0_7, .int .i64 a0_8] 39 (0, 0)) (kq BK172.out) hb); have n1_ := Aside0.mk (blk_below (g := gb173) (o := .cells #[.int .i64 a1_0, .int .i64 a1_1, .int .i64 a1_2, .int .i64 a1_3, .int .i64 a1_4, .int .i64 a1_5, .int .i64 a1_6, .int .i64 a1_7, .int .i64 a1_8] 39 (0, 0)) (kq BK173.out) hb); have n2_ := Aside0.mk (blk_below (g := gb174) (o := .cells #[.int .i64 a2_0, .int .i64 a2_1, .int .i64 a2_2, .int .i64 a2_3, .int .i64 a2_4, .int .i64 a2_5, .int .i64 a2_6, .int .i64 a2_7, .int .i64 a2_8] 39 (0, 0)) (kq BK174.out) hb); have n3_ := Aside0.mk (below_step (bq3 HB.out GE172.out GE173.out GE174.out) hb); clear BK172; clear BK173; clear BK174; clear HB; have BK172 := n0_; have BK173 := n1_; have BK174 := n2_; have HB := n3_; clear n0_ n1_ n2_ n3_; (try clear hb); (try clear hb2); (try clear hk); (try clear hi)))
 have n0_ := Aside0.mk (blk_drew BK172.out)
 have n1_ := Aside0.mk (blk_drew BK173.out)
 have n2_ := Aside0.mk (blk_drew BK174.out)
 have n3_ := Aside0.mk (below_drew1 HB.out)
 clear BK172
 clear BK173
 clear BK174
 clear HB
 have BK172 := n0_
 have BK173 := n1_
 have BK174 := n2_
 have HB := n3_
 clear n0_ n1_ n2_ n3_
 refine start_ (n := 14) (S := fun w' => w'.cell? ⟨gb172, 0, none⟩ = some (.int .i64 a0_0) ∧ w'.cell? ⟨gb172, 1, none⟩ = some (.int .i64 a0_1) ∧ w'.cell? ⟨gb172, 2, none⟩ = some (.int .i64 a0_2) ∧ w'.cell? ⟨gb172, 3, none⟩ = some (.int .i64 a0_3) ∧ w'.cell? ⟨gb172, 4, none⟩ = some (.int .i64 a0_4) ∧ w'.cell? ⟨gb172, 5, none⟩ = some (.int .i64 a0_5) ∧ w'.cell? ⟨gb172, 6, none⟩ = some (.int .i64 a0_6) ∧ w'.cell? ⟨gb172, 7, none⟩ = some (.int .i64 a0_7) ∧ w'.cell? ⟨gb172, 8, none⟩ = some (.int .i64 a0_8) ∧ w'.cell? ⟨gb173, 0, none⟩ = some (.int .i64 a1_0) ∧ w'.cell? ⟨gb173, 1, none⟩ = some (.int .i64 a1_1) ∧ w'.cell? ⟨gb173, 2, none⟩ = some (.int .i64 a1_2) ∧ w'.cell? ⟨gb173, 3, none⟩ = some (.int .i64 a1_3) ∧ w'.cell? ⟨gb173, 4, none⟩ = some (.int .i64 a1_4) ∧ w'.cell? ⟨gb173, 5, none⟩ = some (.int .i64 a1_5) ∧ w'.cell? ⟨gb173, 6, none⟩ = some (.int .i64 a1_6) ∧ w'.cell? ⟨gb173, 7, none⟩ = some (.int .i64 a1_7) ∧ w'.cell? ⟨gb173, 8, none⟩ = some (.int .i64 a1_8) ∧ w'.cell? ⟨gb174, 0, none⟩ = some (.int .i64 a2_0) ∧ w'.cell? ⟨gb174, 1, none⟩ = some (.int .i64 a2_1) ∧ w'.cell? ⟨gb174, 2, none⟩ = some (.int .i64 a2_2) ∧ w'.cell? ⟨gb174, 3, none⟩ = some (.int .i64 a2_3) ∧ w'.cell? ⟨gb174, 4, none⟩ = some (.int .i64 a2_4) ∧ w'.cell? ⟨gb174, 5, none⟩ = some (.int .i64 a2_5) ∧ w'.cell? ⟨gb174, 6, none⟩ = some (.int .i64 a2_6) ∧ w'.cell? ⟨gb174, 7, none⟩ = some (.int .i64 a2_7) ∧ w'.cell? ⟨gb174, 8, none⟩ = some (.int .i64 a2_8)) (ds := []) #[false, false, false, false, false, false, false, false, false, false, false, false, false, false] (by kernel_rfl) rfl rfl ⟨(blk_cell BK172.out 0).trans rfl, (blk_cell BK172.out 1).trans rfl, (blk_cell BK172.out 2).trans rfl, (blk_cell BK172.out 3).trans rfl, (blk_cell BK172.out 4).trans rfl, (blk_cell BK172.out 5).trans rfl, (blk_cell BK172.out 6).trans rfl, (blk_cell BK172.out 7).trans rfl, (blk_cell BK172.out 8).trans rfl, (blk_cell BK173.out 0).trans rfl, (blk_cell BK173.out 1).trans rfl, (blk_cell BK173.out 2).trans rfl, (blk_cell BK173.out 3).trans rfl, (blk_cell BK173.out 4).trans rfl, (blk_cell BK173.out 5).trans rfl, (blk_cell BK173.out 6).trans rfl, (blk_cell BK173.out 7).trans rfl, (blk_cell BK173.out 8).trans rfl, (blk_cell BK174.out 0).trans rfl, (blk_cell BK174.out 1).trans rfl, (blk_cell BK174.out 2).trans rfl, (blk_cell BK174.out 3).trans rfl, (blk_cell BK174.out 4).trans rfl, (blk_cell BK174.out 5).trans rfl, (blk_cell BK174.out 6).trans rfl, (blk_cell BK174.out 7).trans rfl, (blk_cell BK174.out 8).trans rfl⟩ (fun hHeld => ?_); refine with_tabW rollbacknetlaw27_DeterminantChains.tab3 rollbacknetlaw27_DeterminantChains.bits3 (fun HT_ HW_ => ?_)
 generalize w13.drew = w14 at BK172 BK173 BK174 HB hHeld ⊢
 refine pure_ (i := 4) (N := some 21) (v := ?_) (a' := ?_) #[false, false, false, false, true, false, false, false, false, false, false, false, false, false] rfl rfl (any_of HT_.out (by kernel_rfl)) (fun _ _ _ h => h) (Or.inl ⟨by rfl, ?_⟩) ?_ ?_
 rotate_left
 ·(
 intro w'
 go_simp
 with_reducible rfl)
 rotate_left
 ·(
 simp only [Act.put, List.setIfInBounds_toArray, List.set_cons_zero, List.set_cons_succ, i64_w, i32_w]
 rfl)
 refine pure_ (i := 5) (N := some 22) (v := ?_) (a' := ?_) #[false, false, false, false, true, true, false, false, false, false, false, false, false, false] rfl rfl (any_of HT_.out (by kernel_rfl)) (fun _ _ _ h => h) (Or.inl ⟨by rfl, ?_⟩) ?_ ?_
 rotate_left
 ·(
 intro w'
 go_simp
 with_reducible rfl)
 rotate_left
 ·(
 simp only [Act.put, List.setIfInBounds_toArray, List.set_cons_zero, List.set_cons_succ, i64_w, i32_w]
 rfl)
 refine pure_ (i := 8) (N := some 25) (v := ?_) (a' := ?_) #[false, false, false, false, true, true, false, false, true, false, false, false, false, false] rfl rfl (any_of HT_.out (by kernel_rfl)) (fun _ _ _ h => h) (Or.inl ⟨by rfl, ?_⟩) ?_ ?_
 rotate_left
 ·(
 intro w'
 go_simp
 with_reducible rfl)
 rotate_left
 ·(
 simp only [Act.put, List.setIfInBounds_toArray, List.set_cons_zero, List.set_cons_succ, i64_w, i32_w]
 rfl)
 refine pure_ (i := 9) (N := some 26) (v := ?_) (a' := ?_) #[false, false, false, false, true, true, false, false, true, true, false, false, false, false] rfl rfl (any_of HT_.out (by kernel_rfl)) (fun _ _ _ h => h) (Or.inl ⟨by rfl, ?_⟩) ?_ ?_
 rotate_left
 ·(
 intro w'
 go_simp
 with_reducible rfl)
 rotate_left
 ·(
 simp only [Act.put, List.setIfInBounds_toArray, List.set_cons_zero, List.set_cons_succ, i64_w, i32_w]
 rfl)
 refine pure_ (i := 10) (N := some 27) (v := ?_) (a' := ?_) #[false, false, false, false, true, true, false, false, true, true, true, false, false, false] rfl rfl (any_of HT_.out (by kernel_rfl)) (fun _ _ _ h => h) (Or.inl ⟨by rfl, ?_⟩) ?_ ?_
 rotate_left
 ·(
 intro w'
 go_simp
 with_reducible rfl)
 rotate_left
 ·(
 simp only [Act.put, List.setIfInBounds_toArray, List.set_cons_zero, List.set_cons_succ, i64_w, i32_w]
 rfl)
 refine take_ (i := 0) (N := some 17) (v := ?_) (a' := ?_) #[true, false, false, false, true, true, false, false, true, true, true, false, false, false] rfl rfl (take_ofW HT_.out HW_.out (by kernel_rfl)) (fun _ _ _ h => h) (Or.inl ⟨by rfl, ?_⟩) hHeld ?_ ?_
 rotate_left
 ·(
 rintro w' ⟨s0, s1, s2, s3, s4, s5, s6, s7, s8, s9, s10, s11, s12, s13, s14, s15, s16, s17, s18, s19, s20, s21, s22, s23, s24, s25, s26⟩
 go_simp
 with_reducible rfl)
 rotate_left
 ·(
 simp only [Act.put, List.setIfInBounds_toArray, List.set_cons_zero, List.set_cons_succ, i64_w, i32_w]
 rfl)
 refine take_ (i := 1) (N := some 18) (v := ?_) (a' := ?_) #[true, true, false, false, true, true, false, false, true, true, true, false, false, false] rfl rfl (take_ofW HT_.out HW_.out (by kernel_rfl)) (fun _ _ _ h => h) (Or.inl ⟨by rfl, ?_⟩) hHeld ?_ ?_
 rotate_left
 ·(
 rintro w' ⟨s0, s1, s2, s3, s4, s5, s6, s7, s8, s9, s10, s11, s12, s13, s14, s15, s16, s17, s18, s19, s20, s21, s22, s23, s24, s25, s26⟩
 go_simp
 with_reducible rfl)
 rotate_left
 ·(
 simp only [Act.put, List.setIfInBounds_toArray, List.set_cons_zero, List.set_cons_succ, i64_w, i32_w]
 rfl)
 refine take_ (i := 2) (N := some 19) (v := ?_) (a' := ?_) #[true, true, true, false, true, true, false, false, true, true, true, false, false, false] rfl rfl (take_ofW HT_.out HW_.out (by kernel_rfl)) (fun _ _ _ h => h) (Or.inl ⟨by rfl, ?_⟩) hHeld ?_ ?_
 rotate_left
 ·(
 rintro w' ⟨s0, s1, s2, s3, s4, s5, s6, s7, s8, s9, s10, s11, s12, s13, s14, s15, s16, s17, s18, s19, s20, s21, s22, s23, s24, s25, s26⟩
 go_simp
 with_reducible rfl)
 rotate_left
 ·(
 simp only [Act.put, List.setIfInBounds_toArray, List.set_cons_zero, List.set_cons_succ, i64_w, i32_w]
 rfl)
 refine take_ (i := 3) (N := some 20) (v := ?_) (a' := ?_) #[true, true, true, true, true, true, false, false, true, true, true, false, false, false] rfl rfl (take_ofW HT_.out HW_.out (by kernel_rfl)) (fun _ _ _ h => h) (Or.inl ⟨by rfl, ?_⟩) hHeld ?_ ?_
 rotate_left
 ·(
 rintro w' ⟨s0, s1, s2, s3, s4, s5, s6, s7, s8, s9, s10, s11, s12, s13, s14, s15, s16, s17, s18, s19, s20, s21, s22, s23, s24, s25, s26⟩
 go_simp
 with_reducible rfl)
 rotate_left
 ·(
 simp only [Act.put, List.setIfInBounds_toArray, List.set_cons_zero, List.set_cons_succ, i64_w, i32_w]
 rfl)
 refine take_ (i := 7) (N := some 24) (v := ?_) (a' := ?_) #[true, true, true, true, true, true, false, true, true, true, true, false, false, false] rfl rfl (take_ofW HT_.out HW_.out (by kernel_rfl)) (fun _ _ _ h => h) (Or.inl ⟨by rfl, ?_⟩) hHeld ?_ ?_
 rotate_left
 ·(
 rintro w' ⟨s0, s1, s2, s3, s4, s5, s6, s7, s8, s9, s10, s11, s12, s13, s14, s15, s16, s17, s18, s19, s20, s21, s22, s23, s24, s25, s26⟩
 go_simp
 with_reducible rfl)
 rotate_left
 ·(
 simp only [Act.put, List.setIfInBounds_toArray, List.set_cons_zero, List.set_cons_succ, i64_w, i32_w]
 rfl)
 refine one_ (i := 6) (N := some 23) #[true, true, true, true, true, true, true, true, true, true, true, false, false, false] rfl rfl (one_of HT_.out (by kernel_rfl)) (by decide) (fun K hK => ?_)
 refine goes_ Try.func20 (by kernel_rfl) rfl #[.agg #[.int .i64 a0_0, .int .i64 a0_1, .int .i64 a0_2, .int .i64 a0_3, .int .i64 a0_4, .int .i64 a0_5, .int .i64 a0_6, .int .i64 a0_7, .int .i64 a0_8], .int .i64 a3, .int .i64 a4] (by first | rfl | (refine wanted_on rfl rfl rfl ?_; first | assumption | (simp [*]; done))) rfl rfl (by (try simp only [List.map_toArray, List.map_cons, List.map_nil]); first | done | rfl | (simp only [List.length_drop, List.length_take]; rfl)) ?_
 with_reducible refine (rollbacknetlaw27_near.calls a0_0 a0_1 a0_2 a0_3 a0_4 a0_5 a0_6 a0_7 a0_8 a3 a4 t176 t177 t178 t179 t180 t181 t182 t183 t184 _ A8.out).mono ?_
 rintro e w15 ⟨rfl, hb⟩
 refine ⟨_, rfl, ?_⟩
 have n0_ := Aside0.mk (blk_below (g := gb172) (o := .cells #[.int .i64 a0_0, .int .i64 a0_1, .int .i64 a0_2, .int .i64 a0_3, .int .i64 a0_4, .int .i64 a0_5, .int .i64 a0_6, .int .i64 a0_7, .int .i64 a0_8] 39 (0, 0)) (kq BK172.out) hb)
 have n1_ := Aside0.mk (blk_below (g := gb173) (o := .cells #[.int .i64 a1_0, .int .i64 a1_1, .int .i64 a1_2, .int .i64 a1_3, .int .i64 a1_4, .int .i64 a1_5, .int .i64 a1_6, .int .i64 a1_7, .int .i64 a1_8] 39 (0, 0)) (kq BK173.out) hb)
 have n2_ := Aside0.mk (blk_below (g := gb174) (o := .cells #[.int .i64 a2_0, .int .i64 a2_1, .int .i64 a2_2, .int .i64 a2_3, .int .i64 a2_4, .int .i64 a2_5, .int .i64 a2_6, .int .i64 a2_7, .int .i64 a2_8] 39 (0, 0)) (kq BK174.out) hb)
 have n3_ := Aside0.mk (below_step (bq3 HB.out GE172.out GE173.out GE174.out) hb)
 clear BK172
 clear BK173
 clear BK174
 clear HB
 have BK172 := n0_
 have BK173 := n1_
 have BK174 := n2_
 have HB := n3_
 clear n0_ n1_ n2_ n3_
 (try clear hb)
 (try clear hb2)
 (try clear hk)
 (try clear hi)
 refine hK.out _ _ ⟨(blk_cell BK172.out 0).trans rfl, (blk_cell BK172.out 1).trans rfl, (blk_cell BK172.out 2).trans rfl, (blk_cell BK172.out 3).trans rfl, (blk_cell BK172.out 4).trans rfl, (blk_cell BK172.out 5).trans rfl, (blk_cell BK172.out 6).trans rfl, (blk_cell BK172.out 7).trans rfl, (blk_cell BK172.out 8).trans rfl, (blk_cell BK173.out 0).trans rfl, (blk_cell BK173.out 1).trans rfl, (blk_cell BK173.out 2).trans rfl, (blk_cell BK173.out 3).trans rfl, (blk_cell BK173.out 4).trans rfl, (blk_cell BK173.out 5).trans rfl, (blk_cell BK173.out 6).trans rfl, (blk_cell BK173.out 7).trans rfl, (blk_cell BK173.out 8).trans rfl, (blk_cell BK174.out 0).trans rfl, (blk_cell BK174.out 1).trans rfl, (blk_cell BK174.out 2).trans rfl, (blk_cell BK174.out 3).trans rfl, (blk_cell BK174.out 4).trans rfl, (blk_cell BK174.out 5).trans rfl, (blk_cell BK174.out 6).trans rfl, (blk_cell BK174.out 7).trans rfl, (blk_cell BK174.out 8).trans rfl⟩ (fun hHeld => ?_)
 clear hK K
 refine norm_ (a' := ?_) ?_ ?_
 rotate_left
 ·(
 show Act.put _ (some 23) _ = _
 simp only [Act.put, List.setIfInBounds_toArray, List.set_cons_zero, List.set_cons_succ, i64_w, i32_w]
 rfl)
 refine one_ (i := 11) (N := some 28) #[true, true, true, true, true, true, true, true, true, true, true, true, false, false] rfl rfl (one_of HT_.out (by kernel_rfl)) (by decide) (fun K hK => ?_)
 refine goes_ Try.func20 (by kernel_rfl) rfl #[.agg #[.int .i64 a1_0, .int .i64 a1_1, .int .i64 a1_2, .int .i64 a1_3, .int .i64 a1_4, .int .i64 a1_5, .int .i64 a1_6, .int .i64 a1_7, .int .i64 a1_8], .int .i64 (wrap64 (a3 + 1)), .int .i64 a4] (by first | rfl | (refine wanted_on rfl rfl rfl ?_; first | assumption | (simp [*]; done))) rfl rfl (by (try simp only [List.map_toArray, List.map_cons, List.map_nil]); first | done | rfl | (simp only [List.length_drop, List.length_take]; rfl)) ?_
 with_reducible refine (rollbacknetlaw27_near.calls a1_0 a1_1 a1_2 a1_3 a1_4 a1_5 a1_6 a1_7 a1_8 (wrap64 (a3 + 1)) a4 t185 t186 t187 t188 t189 t190 t191 t192 t193 _ A9.out).mono ?_
 rintro e w16 ⟨rfl, hb⟩
 refine ⟨_, rfl, ?_⟩
 have n0_ := Aside0.mk (blk_below (g := gb172) (o := .cells #[.int .i64 a0_0, .int .i64 a0_1, .int .i64 a0_2, .int .i64 a0_3, .int .i64 a0_4, .int .i64 a0_5, .int .i64 a0_6, .int .i64 a0_7, .int .i64 a0_8] 39 (0, 0)) (kq BK172.out) hb)
 have n1_ := Aside0.mk (blk_below (g := gb173) (o := .cells #[.int .i64 a1_0, .int .i64 a1_1, .int .i64 a1_2, .int .i64 a1_3, .int .i64 a1_4, .int .i64 a1_5, .int .i64 a1_6, .int .i64 a1_7, .int .i64 a1_8] 39 (0, 0)) (kq BK173.out) hb)
 have n2_ := Aside0.mk (blk_below (g := gb174) (o := .cells #[.int .i64 a2_0, .int .i64 a2_1, .int .i64 a2_2, .int .i64 a2_3, .int .i64 a2_4, .int .i64 a2_5, .int .i64 a2_6, .int .i64 a2_7, .int .i64 a2_8] 39 (0, 0)) (kq BK174.out) hb)
 have n3_ := Aside0.mk (below_step (bq3 HB.out GE172.out GE173.out GE174.out) hb)
 clear BK172
 clear BK173
 clear BK174
 clear HB
 have BK172 := n0_
 have BK173 := n1_
 have BK174 := n2_
 have HB := n3_
 clear n0_ n1_ n2_ n3_
 (try clear hb)
 (try clear hb2)
 (try clear hk)
 (try clear hi)
 refine hK.out _ _ ⟨(blk_cell BK172.out 0).trans rfl, (blk_cell BK172.out 1).trans rfl, (blk_cell BK172.out 2).trans rfl, (blk_cell BK172.out 3).trans rfl, (blk_cell BK172.out 4).trans rfl, (blk_cell BK172.out 5).trans rfl, (blk_cell BK172.out 6).trans rfl, (blk_cell BK172.out 7).trans rfl, (blk_cell BK172.out 8).trans rfl, (blk_cell BK173.out 0).trans rfl, (blk_cell BK173.out 1).trans rfl, (blk_cell BK173.out 2).trans rfl, (blk_cell BK173.out 3).trans rfl, (blk_cell BK173.out 4).trans rfl, (blk_cell BK173.out 5).trans rfl, (blk_cell BK173.out 6).trans rfl, (blk_cell BK173.out 7).trans rfl, (blk_cell BK173.out 8).trans rfl, (blk_cell BK174.out 0).trans rfl, (blk_cell BK174.out 1).trans rfl, (blk_cell BK174.out 2).trans rfl, (blk_cell BK174.out 3).trans rfl, (blk_cell BK174.out 4).trans rfl, (blk_cell BK174.out 5).trans rfl, (blk_cell BK174.out 6).trans rfl, (blk_cell BK174.out 7).trans rfl, (blk_cell BK174.out 8).trans rfl⟩ (fun hHeld => ?_)
 clear hK K
 refine norm_ (a' := ?_) ?_ ?_
 rotate_left
 ·(
 show Act.put _ (some 28) _ = _
 simp only [Act.put, List.setIfInBounds_toArray, List.set_cons_zero, List.set_cons_succ, i64_w, i32_w]
 rfl)
 refine one_ (i := 12) (N := some 29) #[true, true, true, true, true, true, true, true, true, true, true, true, true, false] rfl rfl (one_of HT_.out (by kernel_rfl)) (by decide) (fun K hK => ?_)
 refine Kd.R_lit_step k39 _ 39 ?hg (N := 29) ?hd (xs := ([(⟨a0_0, a0_1, (⟨a0_2, a0_3, a0_4, (⟨a0_5, a0_6⟩ : S35), a0_7, a0_8⟩ : S37)⟩ : S39), (⟨a1_0, a1_1, (⟨a1_2, a1_3, a1_4, (⟨a1_5, a1_6⟩ : S35), a1_7, a1_8⟩ : S37)⟩ : S39), (⟨a2_0, a2_1, (⟨a2_2, a2_3, a2_4, (⟨a2_5, a2_6⟩ : S35), a2_7, a2_8⟩ : S37)⟩ : S39), (⟨t176, t177, (⟨t178, t179, t180, (⟨t181, t182⟩ : S35), t183, t184⟩ : S37)⟩ : S39), (⟨t185, t186, (⟨t187, t188, t189, (⟨t190, t191⟩ : S35), t192, t193⟩ : S37)⟩ : S39)] : List (S39))) (inner := [.int .i64 a0_0, .int .i64 a0_1, .int .i64 a0_2, .int .i64 a0_3, .int .i64 a0_4, .int .i64 a0_5, .int .i64 a0_6, .int .i64 a0_7, .int .i64 a0_8, .int .i64 a1_0, .int .i64 a1_1, .int .i64 a1_2, .int .i64 a1_3, .int .i64 a1_4, .int .i64 a1_5, .int .i64 a1_6, .int .i64 a1_7, .int .i64 a1_8, .int .i64 a2_0, .int .i64 a2_1, .int .i64 a2_2, .int .i64 a2_3, .int .i64 a2_4, .int .i64 a2_5, .int .i64 a2_6, .int .i64 a2_7, .int .i64 a2_8, .int .i64 t176, .int .i64 t177, .int .i64 t178, .int .i64 t179, .int .i64 t180, .int .i64 t181, .int .i64 t182, .int .i64 t183, .int .i64 t184, .int .i64 t185, .int .i64 t186, .int .i64 t187, .int .i64 t188, .int .i64 t189, .int .i64 t190, .int .i64 t191, .int .i64 t192, .int .i64 t193]) (ok := fun _ => True) (okp := fun _ => True) ?hr ?hp (fun _ hk => hk) trivial (Below.refl _ _) (Nat.le_refl _) (by simp) ?_; (case hd => rfl); (case hg => first | rfl | (refine wanted_on rfl rfl rfl ?_; first | assumption | (simp [*]; done))); (case hr => first | (go_simp; done) | (go_simp; rfl)); (case hp => exact (Reps.c9 (show Kd.M k39 _ _ _ (⟨a0_0, a0_1, (⟨a0_2, a0_3, a0_4, (⟨a0_5, a0_6⟩ : S35), a0_7, a0_8⟩ : S37)⟩ : S39) [.int .i64 a0_0, .int .i64 a0_1, .int .i64 a0_2, .int .i64 a0_3, .int .i64 a0_4, .int .i64 a0_5, .int .i64 a0_6, .int .i64 a0_7, .int .i64 a0_8] from (k39_mkM _ _ _ (⟨a0_0, a0_1, (⟨a0_2, a0_3, a0_4, (⟨a0_5, a0_6⟩ : S35), a0_7, a0_8⟩ : S37)⟩ : S39) )) (Reps.c9 (show Kd.M k39 _ _ _ (⟨a1_0, a1_1, (⟨a1_2, a1_3, a1_4, (⟨a1_5, a1_6⟩ : S35), a1_7, a1_8⟩ : S37)⟩ : S39) [.int .i64 a1_0, .int .i64 a1_1, .int .i64 a1_2, .int .i64 a1_3, .int .i64 a1_4, .int .i64 a1_5, .int .i64 a1_6, .int .i64 a1_7, .int .i64 a1_8] from (k39_mkM _ _ _ (⟨a1_0, a1_1, (⟨a1_2, a1_3, a1_4, (⟨a1_5, a1_6⟩ : S35), a1_7, a1_8⟩ : S37)⟩ : S39) )) (Reps.c9 (show Kd.M k39 _ _ _ (⟨a2_0, a2_1, (⟨a2_2, a2_3, a2_4, (⟨a2_5, a2_6⟩ : S35), a2_7, a2_8⟩ : S37)⟩ : S39) [.int .i64 a2_0, .int .i64 a2_1, .int .i64 a2_2, .int .i64 a2_3, .int .i64 a2_4, .int .i64 a2_5, .int .i64 a2_6, .int .i64 a2_7, .int .i64 a2_8] from (k39_mkM _ _ _ (⟨a2_0, a2_1, (⟨a2_2, a2_3, a2_4, (⟨a2_5, a2_6⟩ : S35), a2_7, a2_8⟩ : S37)⟩ : S39) )) (Reps.c9 (show Kd.M k39 _ _ _ (⟨t176, t177, (⟨t178, t179, t180, (⟨t181, t182⟩ : S35), t183, t184⟩ : S37)⟩ : S39) [.int .i64 t176, .int .i64 t177, .int .i64 t178, .int .i64 t179, .int .i64 t180, .int .i64 t181, .int .i64 t182, .int .i64 t183, .int .i64 t184] from (k39_mkM _ _ _ (⟨t176, t177, (⟨t178, t179, t180, (⟨t181, t182⟩ : S35), t183, t184⟩ : S37)⟩ : S39) )) (Reps.c9 (show Kd.M k39 _ _ _ (⟨t185, t186, (⟨t187, t188, t189, (⟨t190, t191⟩ : S35), t192, t193⟩ : S37)⟩ : S39) [.int .i64 t185, .int .i64 t186, .int .i64 t187, .int .i64 t188, .int .i64 t189, .int .i64 t190, .int .i64 t191, .int .i64 t192, .int .i64 t193] from (k39_mkM _ _ _ (⟨t185, t186, (⟨t187, t188, t189, (⟨t190, t191⟩ : S35), t192, t193⟩ : S37)⟩ : S39) )) (Reps.none _ _)))))))
 intro v195 w17 ho18 hb hg_ hnew_
 clear hg_ hnew_
 (first | rw [← Ny194.out] at ho18 | (simp only [Int.reduceToNat] at ho18; rw [← Ny194.out] at ho18))
 have n0_ := Aside0.mk (Kd.R_lower (Kd.R_newB (Kd.R_newB (Kd.R_newB ho18 (g := gb172) (o := .cells #[.int .i64 a0_0, .int .i64 a0_1, .int .i64 a0_2, .int .i64 a0_3, .int .i64 a0_4, .int .i64 a0_5, .int .i64 a0_6, .int .i64 a0_7, .int .i64 a0_8] 39 (0, 0)) (kq BK172.out)) (g := gb173) (o := .cells #[.int .i64 a1_0, .int .i64 a1_1, .int .i64 a1_2, .int .i64 a1_3, .int .i64 a1_4, .int .i64 a1_5, .int .i64 a1_6, .int .i64 a1_7, .int .i64 a1_8] 39 (0, 0)) (kq BK173.out)) (g := gb174) (o := .cells #[.int .i64 a2_0, .int .i64 a2_1, .int .i64 a2_2, .int .i64 a2_3, .int .i64 a2_4, .int .i64 a2_5, .int .i64 a2_6, .int .i64 a2_7, .int .i64 a2_8] 39 (0, 0)) (kq BK174.out)) (below_size (bq3 HB.out GE172.out GE173.out GE174.out)))
 have n1_ := Aside0.mk (blk_below (g := gb172) (o := .cells #[.int .i64 a0_0, .int .i64 a0_1, .int .i64 a0_2, .int .i64 a0_3, .int .i64 a0_4, .int .i64 a0_5, .int .i64 a0_6, .int .i64 a0_7, .int .i64 a0_8] 39 (0, 0)) (kq BK172.out) hb)
 have n2_ := Aside0.mk (blk_below (g := gb173) (o := .cells #[.int .i64 a1_0, .int .i64 a1_1, .int .i64 a1_2, .int .i64 a1_3, .int .i64 a1_4, .int .i64 a1_5, .int .i64 a1_6, .int .i64 a1_7, .int .i64 a1_8] 39 (0, 0)) (kq BK173.out) hb)
 have n3_ := Aside0.mk (blk_below (g := gb174) (o := .cells #[.int .i64 a2_0, .int .i64 a2_1, .int .i64 a2_2, .int .i64 a2_3, .int .i64 a2_4, .int .i64 a2_5, .int .i64 a2_6, .int .i64 a2_7, .int .i64 a2_8] 39 (0, 0)) (kq BK174.out) hb)
 have n4_ := Aside0.mk (below_step (bq3 HB.out GE172.out GE173.out GE174.out) hb)
 clear BK172
 clear BK173
 clear BK174
 clear HB
 have HO196 := n0_
 have BK172 := n1_
 have BK173 := n2_
 have BK174 := n3_
 have HB := n4_
 clear n0_ n1_ n2_ n3_ n4_
 clear hb ho18
 refine hK.out _ _ ⟨(blk_cell BK172.out 0).trans rfl, (blk_cell BK172.out 1).trans rfl, (blk_cell BK172.out 2).trans rfl, (blk_cell BK172.out 3).trans rfl, (blk_cell BK172.out 4).trans rfl, (blk_cell BK172.out 5).trans rfl, (blk_cell BK172.out 6).trans rfl, (blk_cell BK172.out 7).trans rfl, (blk_cell BK172.out 8).trans rfl, (blk_cell BK173.out 0).trans rfl, (blk_cell BK173.out 1).trans rfl, (blk_cell BK173.out 2).trans rfl, (blk_cell BK173.out 3).trans rfl, (blk_cell BK173.out 4).trans rfl, (blk_cell BK173.out 5).trans rfl, (blk_cell BK173.out 6).trans rfl, (blk_cell BK173.out 7).trans rfl, (blk_cell BK173.out 8).trans rfl, (blk_cell BK174.out 0).trans rfl, (blk_cell BK174.out 1).trans rfl, (blk_cell BK174.out 2).trans rfl, (blk_cell BK174.out 3).trans rfl, (blk_cell BK174.out 4).trans rfl, (blk_cell BK174.out 5).trans rfl, (blk_cell BK174.out 6).trans rfl, (blk_cell BK174.out 7).trans rfl, (blk_cell BK174.out 8).trans rfl⟩ (fun hHeld => ?_)
 clear hK K
 refine norm_ (a' := ?_) ?_ ?_
 rotate_left
 ·(
 show Act.put _ (some 29) _ = _
 simp only [Act.put, List.setIfInBounds_toArray, List.set_cons_zero, List.set_cons_succ, i64_w, i32_w]
 rfl)
 refine pure_ (i := 13) (N := some 11) (v := ?_) (a' := ?_) #[true, true, true, true, true, true, true, true, true, true, true, true, true, true] rfl rfl (any_of HT_.out (by kernel_rfl)) (fun _ _ _ h => h) (Or.inl ⟨by rfl, ?_⟩) ?_ ?_
 rotate_left
 ·(
 intro w'
 go_simp
 with_reducible rfl)
 rotate_left
 ·(
 simp only [Act.put, List.setIfInBounds_toArray, List.set_cons_zero, List.set_cons_succ, i64_w, i32_w]
 rfl)
 refine done_ (done_of HT_.out (by kernel_rfl)) ?_
 try go_wp2
 go_loopg [12] k (fun kq v12 w' => ∃ (x12_1 : Int), v12 = .int .i64 x12_1 ∧ Aside0 (rollbacknetlaw27_DeterminantChains.l0 kq y194 x12_1 = some r) ∧ Aside0 (kq ≤ k) ∧ Aside0 (Kd.R k39 39 w' w.heap.size (fun k_ => k_ ≠ gb172 ∧ k_ ≠ gb173 ∧ k_ ≠ gb174) v195 y194) ∧ Aside0 (w'.heap[gb172]? = some (.cells #[.int .i64 a0_0, .int .i64 a0_1, .int .i64 a0_2, .int .i64 a0_3, .int .i64 a0_4, .int .i64 a0_5, .int .i64 a0_6, .int .i64 a0_7, .int .i64 a0_8] 39 (0, 0))) ∧ Aside0 (w'.heap[gb173]? = some (.cells #[.int .i64 a1_0, .int .i64 a1_1, .int .i64 a1_2, .int .i64 a1_3, .int .i64 a1_4, .int .i64 a1_5, .int .i64 a1_6, .int .i64 a1_7, .int .i64 a1_8] 39 (0, 0))) ∧ Aside0 (w'.heap[gb174]? = some (.cells #[.int .i64 a2_0, .int .i64 a2_1, .int .i64 a2_2, .int .i64 a2_3, .int .i64 a2_4, .int .i64 a2_5, .int .i64 a2_6, .int .i64 a2_7, .int .i64 a2_8] 39 (0, 0))) ∧ Aside0 (Below w.heap.size w w'))
 case atStart => exact ⟨(0), (by first | rfl | (simp; done) | (simp [*]; done)), H', ⟨Nat.le_refl _⟩, ⟨by (with_reducible repeat (first | apply Kd.R_alloc | apply Kd.R_drewN | apply Kd.R_drew)); exact Kd.R_mono HO196.out (fun _ hk => ⟨hk.1.1.2, ⟨hk.1.2, hk.2⟩⟩)⟩, ⟨kq BK172.out⟩, ⟨kq BK173.out⟩, ⟨kq BK174.out⟩, ⟨bq3 HB.out GE172.out GE173.out GE174.out⟩⟩
 case round =>(
 clear H'
 try clear c1
 try clear c2
 try clear p2
 try clear c5
 try clear p6
 try clear c7
 try clear c9
 try clear c12
 obtain ⟨x12_1, rfl, HA, HK1, HO_11, BK172, BK173, BK174, HB⟩ := hrel
 cases gk with
 | zero => exact absurd HA.out (by simp [rollbacknetlaw27_DeterminantChains.l0])
 | succ k1 =>(
 have H := HA.out
 clear HA
 simp only [rollbacknetlaw27_DeterminantChains.l0] at H
 by_cases c19 : x12_1 < (y194.length : Int)
 ·(
 rw [if_pos c19] at H
 have c19b0 : decide (x12_1 < (y194.length : Int)) = true := decide_eq_true c19
 clear c19
 have H' := Aside0.mk H
 clear H
 obtain ⟨Ao20, co20, eo20⟩ := Kd.R_slice HO_11.out
 subst eo20
 go_wp2
 go_loopg [13] k1 (fun kq v13 w' => ∃ (x13_2 : Int), v13 = .int .i64 x13_2 ∧ Aside0 (rollbacknetlaw27_DeterminantChains.l1 kq y194 x12_1 x13_2 = some r) ∧ Aside0 (kq ≤ k1) ∧ Aside0 (Kd.R k39 39 w' w.heap.size (fun k_ => k_ ≠ gb172 ∧ k_ ≠ gb173 ∧ k_ ≠ gb174) (.slice Ao20 y194.length co20) y194) ∧ Aside0 (w'.heap[gb172]? = some (.cells #[.int .i64 a0_0, .int .i64 a0_1, .int .i64 a0_2, .int .i64 a0_3, .int .i64 a0_4, .int .i64 a0_5, .int .i64 a0_6, .int .i64 a0_7, .int .i64 a0_8] 39 (0, 0))) ∧ Aside0 (w'.heap[gb173]? = some (.cells #[.int .i64 a1_0, .int .i64 a1_1, .int .i64 a1_2, .int .i64 a1_3, .int .i64 a1_4, .int .i64 a1_5, .int .i64 a1_6, .int .i64 a1_7, .int .i64 a1_8] 39 (0, 0))) ∧ Aside0 (w'.heap[gb174]? = some (.cells #[.int .i64 a2_0, .int .i64 a2_1, .int .i64 a2_2, .int .i64 a2_3, .int .i64 a2_4, .int .i64 a2_5, .int .i64 a2_6, .int .i64 a2_7, .int .i64 a2_8] 39 (0, 0))) ∧ Aside0 (Below w.heap.size w w'))
 case atStart => exact ⟨(0), (by first | rfl | (simp; done) | (simp [*]; done)), H', ⟨Nat.le_refl _⟩, ⟨rq HO_11.out⟩, ⟨kq BK172.out⟩, ⟨kq BK173.out⟩, ⟨kq BK174.out⟩, ⟨bq3 HB.out GE172.out GE173.out GE174.out⟩⟩
 case round =>(
 clear H'
 try clear c1
 try clear c2
 try clear p2
 try clear c5
 try clear p6
 try clear c7
 try clear c9
 try clear c12
 try clear c19
 try clear c19b0
 try clear c20
 try clear p2
 try clear p6
 obtain ⟨x13_2, rfl, HA, HK2, HO_11, BK172, BK173, BK174, HB⟩ := hrel
 cases gk with
 | zero => exact absurd HA.out (by simp [rollbacknetlaw27_DeterminantChains.l1])
 | succ k2 =>(
 have H := HA.out
 clear HA
 simp only [rollbacknetlaw27_DeterminantChains.l1] at H
 by_cases c21 : x13_2 < (y194.length : Int)
 ·(
 rw [if_pos c21] at H
 have c21b0 : decide (x13_2 < (y194.length : Int)) = true := decide_eq_true c21
 clear c21
 have H' := Aside0.mk H
 clear H
 go_wp2
 go_loopg [14] k2 (fun kq v14 w' => ∃ (x14_3 : Int), v14 = .int .i64 x14_3 ∧ Aside0 (rollbacknetlaw27_DeterminantChains.l2 kq y194 x12_1 x13_2 x14_3 = some r) ∧ Aside0 (kq ≤ k2) ∧ Aside0 (Kd.R k39 39 w' w.heap.size (fun k_ => k_ ≠ gb172 ∧ k_ ≠ gb173 ∧ k_ ≠ gb174) (.slice Ao20 y194.length co20) y194) ∧ Aside0 (w'.heap[gb172]? = some (.cells #[.int .i64 a0_0, .int .i64 a0_1, .int .i64 a0_2, .int .i64 a0_3, .int .i64 a0_4, .int .i64 a0_5, .int .i64 a0_6, .int .i64 a0_7, .int .i64 a0_8] 39 (0, 0))) ∧ Aside0 (w'.heap[gb173]? = some (.cells #[.int .i64 a1_0, .int .i64 a1_1, .int .i64 a1_2, .int .i64 a1_3, .int .i64 a1_4, .int .i64 a1_5, .int .i64 a1_6, .int .i64 a1_7, .int .i64 a1_8] 39 (0, 0))) ∧ Aside0 (w'.heap[gb174]? = some (.cells #[.int .i64 a2_0, .int .i64 a2_1, .int .i64 a2_2, .int .i64 a2_3, .int .i64 a2_4, .int .i64 a2_5, .int .i64 a2_6, .int .i64 a2_7, .int .i64 a2_8] 39 (0, 0))) ∧ Aside0 (Below w.heap.size w w'))
 case atStart => exact ⟨(0), (by first | rfl | (simp; done) | (simp [*]; done)), H', ⟨Nat.le_refl _⟩, ⟨rq HO_11.out⟩, ⟨kq BK172.out⟩, ⟨kq BK173.out⟩, ⟨kq BK174.out⟩, ⟨bq3 HB.out GE172.out GE173.out GE174.out⟩⟩
 case round =>(
 clear H'
 try clear c1
 try clear c2
 try clear p2
 try clear c5
 try clear p6
 try clear c7
 try clear c9
 try clear c12
 try clear c19
 try clear c19b0
 try clear c20
 try clear c21
 try clear c21b0
 try clear p2
 try clear p6
 obtain ⟨x14_3, rfl, HA, HK3, HO_11, BK172, BK173, BK174, HB⟩ := hrel
 cases gk with
 | zero => exact absurd HA.out (by simp [rollbacknetlaw27_DeterminantChains.l2])
 | succ k3 =>(
 have H := HA.out
 clear HA
 simp only [rollbacknetlaw27_DeterminantChains.l2] at H
 by_cases c22 : x14_3 < (y194.length : Int)
 ·(
 rw [if_pos c22] at H
 have c22b0 : decide (x14_3 < (y194.length : Int)) = true := decide_eq_true c22
 clear c22
 by_cases c23 : 0 ≤ x12_1
 ·(
 rw [if_pos c23] at H
 have c23b0 : decide (0 ≤ x12_1) = true := decide_eq_true c23
 clear c23
 by_cases c24 : x12_1 < (y194.length : Int)
 ·(
 rw [if_pos c24] at H
 have c24b0 : decide (x12_1 < (y194.length : Int)) = true := decide_eq_true c24
 clear c24
 by_cases c25 : 0 ≤ x13_2
 ·(
 rw [if_pos c25] at H
 have c25b0 : decide (0 ≤ x13_2) = true := decide_eq_true c25
 clear c25
 by_cases c26 : x13_2 < (y194.length : Int)
 ·(
 rw [if_pos c26] at H
 have c26b0 : decide (x13_2 < (y194.length : Int)) = true := decide_eq_true c26
 clear c26
 replace H := Option.bind_eq_some_iff.mp H
 obtain ⟨t199, A270, H⟩ := H
 replace H : (if t199 ≤ 0 then (if 0 ≤ x14_3 then ((determinant_Compare.f k3 ((rd_T39 y194 x13_2).f0) ((rd_T39 y194 x13_2).f1) ((rd_T39 y194 x13_2).f2.f0) ((rd_T39 y194 x13_2).f2.f1) ((rd_T39 y194 x13_2).f2.f2) ((rd_T39 y194 x13_2).f2.f3.f0) ((rd_T39 y194 x13_2).f2.f3.f1) ((rd_T39 y194 x13_2).f2.f4) ((rd_T39 y194 x13_2).f2.f5) ((rd_T39 y194 x14_3).f0) ((rd_T39 y194 x14_3).f1) ((rd_T39 y194 x14_3).f2.f0) ((rd_T39 y194 x14_3).f2.f1) ((rd_T39 y194 x14_3).f2.f2) ((rd_T39 y194 x14_3).f2.f3.f0) ((rd_T39 y194 x14_3).f2.f3.f1) ((rd_T39 y194 x14_3).f2.f4) ((rd_T39 y194 x14_3).f2.f5)).bind fun t202 => (if t202 ≤ 0 then ((determinant_Compare.f k3 ((rd_T39 y194 x12_1).f0) ((rd_T39 y194 x12_1).f1) ((rd_T39 y194 x12_1).f2.f0) ((rd_T39 y194 x12_1).f2.f1) ((rd_T39 y194 x12_1).f2.f2) ((rd_T39 y194 x12_1).f2.f3.f0) ((rd_T39 y194 x12_1).f2.f3.f1) ((rd_T39 y194 x12_1).f2.f4) ((rd_T39 y194 x12_1).f2.f5) ((rd_T39 y194 x14_3).f0) ((rd_T39 y194 x14_3).f1) ((rd_T39 y194 x14_3).f2.f0) ((rd_T39 y194 x14_3).f2.f1) ((rd_T39 y194 x14_3).f2.f2) ((rd_T39 y194 x14_3).f2.f3.f0) ((rd_T39 y194 x14_3).f2.f3.f1) ((rd_T39 y194 x14_3).f2.f4) ((rd_T39 y194 x14_3).f2.f5)).bind fun t205 => (if t205 > 0 then (some false) else (rollbacknetlaw27_DeterminantChains.l2 k3 y194 x12_1 x13_2 (wrap64 (x14_3 + 1))))) else (rollbacknetlaw27_DeterminantChains.l2 k3 y194 x12_1 x13_2 (wrap64 (x14_3 + 1))))) else (none)) else (rollbacknetlaw27_DeterminantChains.l2 k3 y194 x12_1 x13_2 (wrap64 (x14_3 + 1)))) = some r := H
 have A27 := Aside0.mk A270
 clear A270
 by_cases c28 : t199 ≤ 0
 ·(
 rw [if_pos c28] at H
 have c28b0 : decide (t199 ≤ 0) = true := decide_eq_true c28
 clear c28
 by_cases c29 : 0 ≤ x14_3
 ·(
 rw [if_pos c29] at H
 have c29b0 : decide (0 ≤ x14_3) = true := decide_eq_true c29
 clear c29
 replace H := Option.bind_eq_some_iff.mp H
 obtain ⟨t202, A300, H⟩ := H
 replace H : (if t202 ≤ 0 then ((determinant_Compare.f k3 ((rd_T39 y194 x12_1).f0) ((rd_T39 y194 x12_1).f1) ((rd_T39 y194 x12_1).f2.f0) ((rd_T39 y194 x12_1).f2.f1) ((rd_T39 y194 x12_1).f2.f2) ((rd_T39 y194 x12_1).f2.f3.f0) ((rd_T39 y194 x12_1).f2.f3.f1) ((rd_T39 y194 x12_1).f2.f4) ((rd_T39 y194 x12_1).f2.f5) ((rd_T39 y194 x14_3).f0) ((rd_T39 y194 x14_3).f1) ((rd_T39 y194 x14_3).f2.f0) ((rd_T39 y194 x14_3).f2.f1) ((rd_T39 y194 x14_3).f2.f2) ((rd_T39 y194 x14_3).f2.f3.f0) ((rd_T39 y194 x14_3).f2.f3.f1) ((rd_T39 y194 x14_3).f2.f4) ((rd_T39 y194 x14_3).f2.f5)).bind fun t205 => (if t205 > 0 then (some false) else (rollbacknetlaw27_DeterminantChains.l2 k3 y194 x12_1 x13_2 (wrap64 (x14_3 + 1))))) else (rollbacknetlaw27_DeterminantChains.l2 k3 y194 x12_1 x13_2 (wrap64 (x14_3 + 1)))) = some r := H
 have A30 := Aside0.mk A300
 clear A300
 by_cases c31 : t202 ≤ 0
 ·(
 rw [if_pos c31] at H
 have c31b0 : decide (t202 ≤ 0) = true := decide_eq_true c31
 clear c31
 replace H := Option.bind_eq_some_iff.mp H
 obtain ⟨t205, A320, H⟩ := H
 replace H : (if t205 > 0 then (some false) else (rollbacknetlaw27_DeterminantChains.l2 k3 y194 x12_1 x13_2 (wrap64 (x14_3 + 1)))) = some r := H
 have A32 := Aside0.mk A320
 clear A320
 by_cases c33 : t205 > 0
 ·(
 rw [if_pos c33] at H
 have c33b0 : decide (0 < t205) = true := decide_eq_true c33
 clear c33
 obtain rfl := Option.some.inj H
 try go_wp2
 have n0_ := Aside0.mk (Kd.R_drew HO_11.out)
 have n1_ := Aside0.mk (blk_drew BK172.out)
 have n2_ := Aside0.mk (blk_drew BK173.out)
 have n3_ := Aside0.mk (blk_drew BK174.out)
 have n4_ := Aside0.mk (below_drew1 HB.out)
 clear HO_11
 clear BK172
 clear BK173
 clear BK174
 clear HB
 have HO_11 := n0_
 have BK172 := n1_
 have BK173 := n2_
 have BK174 := n3_
 have HB := n4_
 clear n0_ n1_ n2_ n3_ n4_
 have p197 : 0 ≤ (x12_1 : Int) := of_decide_eq_true (by first | (with_reducible assumption) | assumption)
 have q197 : x12_1 < (y194.length : Int) := of_decide_eq_true (by first | (with_reducible assumption) | assumption)
 obtain ⟨ad197, e197, hx197_0, hx197_1, hx197_2, hx197_3, hx197_4, hx197_5, hx197_6, hx197_7, hx197_8⟩ := at_T39 (Kd.R_reads' HO_11.out).2.2 x12_1 p197 q197
 cases e197
 replace p197 := eq_true p197
 replace q197 := eq_true q197
 have p198 : 0 ≤ (x13_2 : Int) := of_decide_eq_true (by first | (with_reducible assumption) | assumption)
 have q198 : x13_2 < (y194.length : Int) := of_decide_eq_true (by first | (with_reducible assumption) | assumption)
 obtain ⟨ad198, e198, hx198_0, hx198_1, hx198_2, hx198_3, hx198_4, hx198_5, hx198_6, hx198_7, hx198_8⟩ := at_T39 (Kd.R_reads' HO_11.out).2.2 x13_2 p198 q198
 obtain rfl : ad197 = ad198 := (by injection e198)
 replace p198 := eq_true p198
 replace q198 := eq_true q198
 have p200 : 0 ≤ (x13_2 : Int) := of_decide_eq_true (by first | (with_reducible assumption) | assumption)
 have q200 : x13_2 < (y194.length : Int) := of_decide_eq_true (by first | (with_reducible assumption) | assumption)
 obtain ⟨ad200, e200, hx200_0, hx200_1, hx200_2, hx200_3, hx200_4, hx200_5, hx200_6, hx200_7, hx200_8⟩ := at_T39 (Kd.R_reads' HO_11.out).2.2 x13_2 p200 q200
 obtain rfl : ad197 = ad200 := (by injection e200)
 replace p200 := eq_true p200
 replace q200 := eq_true q200
 have p201 : 0 ≤ (x14_3 : Int) := of_decide_eq_true (by first | (with_reducible assumption) | assumption)
 have q201 : x14_3 < (y194.length : Int) := of_decide_eq_true (by first | (with_reducible assumption) | assumption)
 obtain ⟨ad201, e201, hx201_0, hx201_1, hx201_2, hx201_3, hx201_4, hx201_5, hx201_6, hx201_7, hx201_8⟩ := at_T39 (Kd.R_reads' HO_11.out).2.2 x14_3 p201 q201
 obtain rfl : ad197 = ad201 := (by injection e201)
 replace p201 := eq_true p201
 replace q201 := eq_true q201
 have p203 : 0 ≤ (x12_1 : Int) := of_decide_eq_true (by first | (with_reducible assumption) | assumption)
 have q203 : x12_1 < (y194.length : Int) := of_decide_eq_true (by first | (with_reducible assumption) | assumption)
 obtain ⟨ad203, e203, hx203_0, hx203_1, hx203_2, hx203_3, hx203_4, hx203_5, hx203_6, hx203_7, hx203_8⟩ := at_T39 (Kd.R_reads' HO_11.out).2.2 x12_1 p203 q203
 obtain rfl : ad197 = ad203 := (by injection e203)
 replace p203 := eq_true p203
 replace q203 := eq_true q203
 have p204 : 0 ≤ (x14_3 : Int) := of_decide_eq_true (by first | (with_reducible assumption) | assumption)
 have q204 : x14_3 < (y194.length : Int) := of_decide_eq_true (by first | (with_reducible assumption) | assumption)
 obtain ⟨ad204, e204, hx204_0, hx204_1, hx204_2, hx204_3, hx204_4, hx204_5, hx204_6, hx204_7, hx204_8⟩ := at_T39 (Kd.R_reads' HO_11.out).2.2 x14_3 p204 q204
 obtain rfl : ad197 = ad204 := (by injection e204)
 replace p204 := eq_true p204
 replace q204 := eq_true q204
 refine start_ (n := 34) (S := fun w' => w'.cell? (ad197.add ((x12_1).toNat * 9)) = some (.int .i64 ((rd_T39 y194 x12_1).f0)) ∧ w'.cell? ⟨(ad197.add ((x12_1).toNat * 9)).block, (ad197.add ((x12_1).toNat * 9)).off + 1, none⟩ = some (.int .i64 ((rd_T39 y194 x12_1).f1)) ∧ w'.cell? ⟨(ad197.add ((x12_1).toNat * 9)).block, (ad197.add ((x12_1).toNat * 9)).off + 2, none⟩ = some (.int .i64 ((rd_T39 y194 x12_1).f2.f0)) ∧ w'.cell? ⟨(ad197.add ((x12_1).toNat * 9)).block, (ad197.add ((x12_1).toNat * 9)).off + 3, none⟩ = some (.int .i64 ((rd_T39 y194 x12_1).f2.f1)) ∧ w'.cell? ⟨(ad197.add ((x12_1).toNat * 9)).block, (ad197.add ((x12_1).toNat * 9)).off + 4, none⟩ = some (.int .i64 ((rd_T39 y194 x12_1).f2.f2)) ∧ w'.cell? ⟨(ad197.add ((x12_1).toNat * 9)).block, (ad197.add ((x12_1).toNat * 9)).off + 5, none⟩ = some (.int .i64 ((rd_T39 y194 x12_1).f2.f3.f0)) ∧ w'.cell? ⟨(ad197.add ((x12_1).toNat * 9)).block, (ad197.add ((x12_1).toNat * 9)).off + 6, none⟩ = some (.int .i64 ((rd_T39 y194 x12_1).f2.f3.f1)) ∧ w'.cell? ⟨(ad197.add ((x12_1).toNat * 9)).block, (ad197.add ((x12_1).toNat * 9)).off + 7, none⟩ = some (.int .i64 ((rd_T39 y194 x12_1).f2.f4)) ∧ w'.cell? ⟨(ad197.add ((x12_1).toNat * 9)).block, (ad197.add ((x12_1).toNat * 9)).off + 8, none⟩ = some (.int .i64 ((rd_T39 y194 x12_1).f2.f5)) ∧ w'.cell? (ad197.add ((x13_2).toNat * 9)) = some (.int .i64 ((rd_T39 y194 x13_2).f0)) ∧ w'.cell? ⟨(ad197.add ((x13_2).toNat * 9)).block, (ad197.add ((x13_2).toNat * 9)).off + 1, none⟩ = some (.int .i64 ((rd_T39 y194 x13_2).f1)) ∧ w'.cell? ⟨(ad197.add ((x13_2).toNat * 9)).block, (ad197.add ((x13_2).toNat * 9)).off + 2, none⟩ = some (.int .i64 ((rd_T39 y194 x13_2).f2.f0)) ∧ w'.cell? ⟨(ad197.add ((x13_2).toNat * 9)).block, (ad197.add ((x13_2).toNat * 9)).off + 3, none⟩ = some (.int .i64 ((rd_T39 y194 x13_2).f2.f1)) ∧ w'.cell? ⟨(ad197.add ((x13_2).toNat * 9)).block, (ad197.add ((x13_2).toNat * 9)).off + 4, none⟩ = some (.int .i64 ((rd_T39 y194 x13_2).f2.f2)) ∧ w'.cell? ⟨(ad197.add ((x13_2).toNat * 9)).block, (ad197.add ((x13_2).toNat * 9)).off + 5, none⟩ = some (.int .i64 ((rd_T39 y194 x13_2).f2.f3.f0)) ∧ w'.cell? ⟨(ad197.add ((x13_2).toNat * 9)).block, (ad197.add ((x13_2).toNat * 9)).off + 6, none⟩ = some (.int .i64 ((rd_T39 y194 x13_2).f2.f3.f1)) ∧ w'.cell? ⟨(ad197.add ((x13_2).toNat * 9)).block, (ad197.add ((x13_2).toNat * 9)).off + 7, none⟩ = some (.int .i64 ((rd_T39 y194 x13_2).f2.f4)) ∧ w'.cell? ⟨(ad197.add ((x13_2).toNat * 9)).block, (ad197.add ((x13_2).toNat * 9)).off + 8, none⟩ = some (.int .i64 ((rd_T39 y194 x13_2).f2.f5)) ∧ w'.cell? (ad197.add ((x13_2).toNat * 9)) = some (.int .i64 ((rd_T39 y194 x13_2).f0)) ∧ w'.cell? ⟨(ad197.add ((x13_2).toNat * 9)).block, (ad197.add ((x13_2).toNat * 9)).off + 1, none⟩ = some (.int .i64 ((rd_T39 y194 x13_2).f1)) ∧ w'.cell? ⟨(ad197.add ((x13_2).toNat * 9)).block, (ad197.add ((x13_2).toNat * 9)).off + 2, none⟩ = some (.int .i64 ((rd_T39 y194 x13_2).f2.f0)) ∧ w'.cell? ⟨(ad197.add ((x13_2).toNat * 9)).block, (ad197.add ((x13_2).toNat * 9)).off + 3, none⟩ = some (.int .i64 ((rd_T39 y194 x13_2).f2.f1)) ∧ w'.cell? ⟨(ad197.add ((x13_2).toNat * 9)).block, (ad197.add ((x13_2).toNat * 9)).off + 4, none⟩ = some (.int .i64 ((rd_T39 y194 x13_2).f2.f2)) ∧ w'.cell? ⟨(ad197.add ((x13_2).toNat * 9)).block, (ad197.add ((x13_2).toNat * 9)).off + 5, none⟩ = some (.int .i64 ((rd_T39 y194 x13_2).f2.f3.f0)) ∧ w'.cell? ⟨(ad197.add ((x13_2).toNat * 9)).block, (ad197.add ((x13_2).toNat * 9)).off + 6, none⟩ = some (.int .i64 ((rd_T39 y194 x13_2).f2.f3.f1)) ∧ w'.cell? ⟨(ad197.add ((x13_2).toNat * 9)).block, (ad197.add ((x13_2).toNat * 9)).off + 7, none⟩ = some (.int .i64 ((rd_T39 y194 x13_2).f2.f4)) ∧ w'.cell? ⟨(ad197.add ((x13_2).toNat * 9)).block, (ad197.add ((x13_2).toNat * 9)).off + 8, none⟩ = some (.int .i64 ((rd_T39 y194 x13_2).f2.f5)) ∧ w'.cell? (ad197.add ((x14_3).toNat * 9)) = some (.int .i64 ((rd_T39 y194 x14_3).f0)) ∧ w'.cell? ⟨(ad197.add ((x14_3).toNat * 9)).block, (ad197.add ((x14_3).toNat * 9)).off + 1, none⟩ = some (.int .i64 ((rd_T39 y194 x14_3).f1)) ∧ w'.cell? ⟨(ad197.add ((x14_3).toNat * 9)).block, (ad197.add ((x14_3).toNat * 9)).off + 2, none⟩ = some (.int .i64 ((rd_T39 y194 x14_3).f2.f0)) ∧ w'.cell? ⟨(ad197.add ((x14_3).toNat * 9)).block, (ad197.add ((x14_3).toNat * 9)).off + 3, none⟩ = some (.int .i64 ((rd_T39 y194 x14_3).f2.f1)) ∧ w'.cell? ⟨(ad197.add ((x14_3).toNat * 9)).block, (ad197.add ((x14_3).toNat * 9)).off + 4, none⟩ = some (.int .i64 ((rd_T39 y194 x14_3).f2.f2)) ∧ w'.cell? ⟨(ad197.add ((x14_3).toNat * 9)).block, (ad197.add ((x14_3).toNat * 9)).off + 5, none⟩ = some (.int .i64 ((rd_T39 y194 x14_3).f2.f3.f0)) ∧ w'.cell? ⟨(ad197.add ((x14_3).toNat * 9)).block, (ad197.add ((x14_3).toNat * 9)).off + 6, none⟩ = some (.int .i64 ((rd_T39 y194 x14_3).f2.f3.f1)) ∧ w'.cell? ⟨(ad197.add ((x14_3).toNat * 9)).block, (ad197.add ((x14_3).toNat * 9)).off + 7, none⟩ = some (.int .i64 ((rd_T39 y194 x14_3).f2.f4)) ∧ w'.cell? ⟨(ad197.add ((x14_3).toNat * 9)).block, (ad197.add ((x14_3).toNat * 9)).off + 8, none⟩ = some (.int .i64 ((rd_T39 y194 x14_3).f2.f5)) ∧ w'.cell? (ad197.add ((x12_1).toNat * 9)) = some (.int .i64 ((rd_T39 y194 x12_1).f0)) ∧ w'.cell? ⟨(ad197.add ((x12_1).toNat * 9)).block, (ad197.add ((x12_1).toNat * 9)).off + 1, none⟩ = some (.int .i64 ((rd_T39 y194 x12_1).f1)) ∧ w'.cell? ⟨(ad197.add ((x12_1).toNat * 9)).block, (ad197.add ((x12_1).toNat * 9)).off + 2, none⟩ = some (.int .i64 ((rd_T39 y194 x12_1).f2.f0)) ∧ w'.cell? ⟨(ad197.add ((x12_1).toNat * 9)).block, (ad197.add ((x12_1).toNat * 9)).off + 3, none⟩ = some (.int .i64 ((rd_T39 y194 x12_1).f2.f1)) ∧ w'.cell? ⟨(ad197.add ((x12_1).toNat * 9)).block, (ad197.add ((x12_1).toNat * 9)).off + 4, none⟩ = some (.int .i64 ((rd_T39 y194 x12_1).f2.f2)) ∧ w'.cell? ⟨(ad197.add ((x12_1).toNat * 9)).block, (ad197.add ((x12_1).toNat * 9)).off + 5, none⟩ = some (.int .i64 ((rd_T39 y194 x12_1).f2.f3.f0)) ∧ w'.cell? ⟨(ad197.add ((x12_1).toNat * 9)).block, (ad197.add ((x12_1).toNat * 9)).off + 6, none⟩ = some (.int .i64 ((rd_T39 y194 x12_1).f2.f3.f1)) ∧ w'.cell? ⟨(ad197.add ((x12_1).toNat * 9)).block, (ad197.add ((x12_1).toNat * 9)).off + 7, none⟩ = some (.int .i64 ((rd_T39 y194 x12_1).f2.f4)) ∧ w'.cell? ⟨(ad197.add ((x12_1).toNat * 9)).block, (ad197.add ((x12_1).toNat * 9)).off + 8, none⟩ = some (.int .i64 ((rd_T39 y194 x12_1).f2.f5)) ∧ w'.cell? (ad197.add ((x14_3).toNat * 9)) = some (.int .i64 ((rd_T39 y194 x14_3).f0)) ∧ w'.cell? ⟨(ad197.add ((x14_3).toNat * 9)).block, (ad197.add ((x14_3).toNat * 9)).off + 1, none⟩ = some (.int .i64 ((rd_T39 y194 x14_3).f1)) ∧ w'.cell? ⟨(ad197.add ((x14_3).toNat * 9)).block, (ad197.add ((x14_3).toNat * 9)).off + 2, none⟩ = some (.int .i64 ((rd_T39 y194 x14_3).f2.f0)) ∧ w'.cell? ⟨(ad197.add ((x14_3).toNat * 9)).block, (ad197.add ((x14_3).toNat * 9)).off + 3, none⟩ = some (.int .i64 ((rd_T39 y194 x14_3).f2.f1)) ∧ w'.cell? ⟨(ad197.add ((x14_3).toNat * 9)).block, (ad197.add ((x14_3).toNat * 9)).off + 4, none⟩ = some (.int .i64 ((rd_T39 y194 x14_3).f2.f2)) ∧ w'.cell? ⟨(ad197.add ((x14_3).toNat * 9)).block, (ad197.add ((x14_3).toNat * 9)).off + 5, none⟩ = some (.int .i64 ((rd_T39 y194 x14_3).f2.f3.f0)) ∧ w'.cell? ⟨(ad197.add ((x14_3).toNat * 9)).block, (ad197.add ((x14_3).toNat * 9)).off + 6, none⟩ = some (.int .i64 ((rd_T39 y194 x14_3).f2.f3.f1)) ∧ w'.cell? ⟨(ad197.add ((x14_3).toNat * 9)).block, (ad197.add ((x14_3).toNat * 9)).off + 7, none⟩ = some (.int .i64 ((rd_T39 y194 x14_3).f2.f4)) ∧ w'.cell? ⟨(ad197.add ((x14_3).toNat * 9)).block, (ad197.add ((x14_3).toNat * 9)).off + 8, none⟩ = some (.int .i64 ((rd_T39 y194 x14_3).f2.f5))) (ds := []) #[false, false, false, false, false, false, false, false, false, false, false, false, false, false, false, false, false, false, false, false, false, false, false, false, false, false, false, false, false, false, false, false, false, false] (by kernel_rfl) rfl rfl ⟨hx197_0, hx197_1, hx197_2, hx197_3, hx197_4, hx197_5, hx197_6, hx197_7, hx197_8, hx198_0, hx198_1, hx198_2, hx198_3, hx198_4, hx198_5, hx198_6, hx198_7, hx198_8, hx200_0, hx200_1, hx200_2, hx200_3, hx200_4, hx200_5, hx200_6, hx200_7, hx200_8, hx201_0, hx201_1, hx201_2, hx201_3, hx201_4, hx201_5, hx201_6, hx201_7, hx201_8, hx203_0, hx203_1, hx203_2, hx203_3, hx203_4, hx203_5, hx203_6, hx203_7, hx203_8, hx204_0, hx204_1, hx204_2, hx204_3, hx204_4, hx204_5, hx204_6, hx204_7, hx204_8⟩ (fun hHeld => ?_); refine with_tabW rollbacknetlaw27_DeterminantChains.tab13 rollbacknetlaw27_DeterminantChains.bits13 (fun HT_ HW_ => ?_)
 generalize wr.drew = w34 at HO_11 BK172 BK173 BK174 HB hx197_0 hx197_1 hx197_2 hx197_3 hx197_4 hx197_5 hx197_6 hx197_7 hx197_8 hx198_0 hx198_1 hx198_2 hx198_3 hx198_4 hx198_5 hx198_6 hx198_7 hx198_8 hx200_0 hx200_1 hx200_2 hx200_3 hx200_4 hx200_5 hx200_6 hx200_7 hx200_8 hx201_0 hx201_1 hx201_2 hx201_3 hx201_4 hx201_5 hx201_6 hx201_7 hx201_8 hx203_0 hx203_1 hx203_2 hx203_3 hx203_4 hx203_5 hx203_6 hx203_7 hx203_8 hx204_0 hx204_1 hx204_2 hx204_3 hx204_4 hx204_5 hx204_6 hx204_7 hx204_8 hHeld ⊢
 refine pure_ (i := 0) (N := some 48) (v := ?_) (a' := ?_) #[true, false, false, false, false, false, false, false, false, false, false, false, false, false, false, false, false, false, false, false, false, false, false, false, false, false, false, false, false, false, false, false, false, false] rfl rfl (any_of HT_.out (by kernel_rfl)) (fun _ _ _ h => h) (Or.inl ⟨by rfl, ?_⟩) ?_ ?_
 rotate_left
 ·(
 intro w'
 go_simp
 with_reducible rfl)
 rotate_left
 ·(
 simp only [Act.put, List.setIfInBounds_toArray, List.set_cons_zero, List.set_cons_succ, i64_w, i32_w]
 rfl)
 refine pure_ (i := 1) (N := some 49) (v := ?_) (a' := ?_) #[true, true, false, false, false, false, false, false, false, false, false, false, false, false, false, false, false, false, false, false, false, false, false, false, false, false, false, false, false, false, false, false, false, false] rfl rfl (any_of HT_.out (by kernel_rfl)) (fun _ _ _ h => h) (Or.inl ⟨by rfl, ?_⟩) ?_ ?_
 rotate_left
 ·(
 intro w'
 go_simp
 with_reducible rfl)
 rotate_left
 ·(
 simp only [Act.put, List.setIfInBounds_toArray, List.set_cons_zero, List.set_cons_succ, i64_w, i32_w]
 rfl)
 refine pure_ (i := 2) (N := some 50) (v := ?_) (a' := ?_) #[true, true, true, false, false, false, false, false, false, false, false, false, false, false, false, false, false, false, false, false, false, false, false, false, false, false, false, false, false, false, false, false, false, false] rfl rfl (any_of HT_.out (by kernel_rfl)) (fun _ _ _ h => h) (Or.inl ⟨by rfl, ?_⟩) ?_ ?_
 rotate_left
 ·(
 intro w'
 go_simp
 with_reducible rfl)
 rotate_left
 ·(
 simp only [Act.put, List.setIfInBounds_toArray, List.set_cons_zero, List.set_cons_succ, i64_w, i32_w]
 rfl)
 refine pure_ (i := 4) (N := some 52) (v := ?_) (a' := ?_) #[true, true, true, false, true, false, false, false, false, false, false, false, false, false, false, false, false, false, false, false, false, false, false, false, false, false, false, false, false, false, false, false, false, false] rfl rfl (any_of HT_.out (by kernel_rfl)) (fun _ _ _ h => h) (Or.inl ⟨by rfl, ?_⟩) ?_ ?_
 rotate_left
 ·(
 intro w'
 go_simp
 with_reducible rfl)
 rotate_left
 ·(
 simp only [Act.put, List.setIfInBounds_toArray, List.set_cons_zero, List.set_cons_succ, i64_w, i32_w]
 rfl)
 refine pure_ (i := 5) (N := some 53) (v := ?_) (a' := ?_) #[true, true, true, false, true, true, false, false, false, false, false, false, false, false, false, false, false, false, false, false, false, false, false, false, false, false, false, false, false, false, false, false, false, false] rfl rfl (any_of HT_.out (by kernel_rfl)) (fun _ _ _ h => h) (Or.inl ⟨by rfl, ?_⟩) ?_ ?_
 rotate_left
 ·(
 intro w'
 go_simp
 with_reducible rfl)
 rotate_left
 ·(
 simp only [Act.put, List.setIfInBounds_toArray, List.set_cons_zero, List.set_cons_succ, i64_w, i32_w]
 rfl)
 refine pure_ (i := 6) (N := some 54) (v := ?_) (a' := ?_) #[true, true, true, false, true, true, true, false, false, false, false, false, false, false, false, false, false, false, false, false, false, false, false, false, false, false, false, false, false, false, false, false, false, false] rfl rfl (any_of HT_.out (by kernel_rfl)) (fun _ _ _ h => h) (Or.inl ⟨by rfl, ?_⟩) ?_ ?_
 rotate_left
 ·(
 intro w'
 go_simp
 with_reducible rfl)
 rotate_left
 ·(
 simp only [Act.put, List.setIfInBounds_toArray, List.set_cons_zero, List.set_cons_succ, i64_w, i32_w]
 rfl)
 refine take_ (i := 3) (N := some 51) (v := ?_) (a' := ?_) #[true, true, true, true, true, true, true, false, false, false, false, false, false, false, false, false, false, false, false, false, false, false, false, false, false, false, false, false, false, false, false, false, false, false] rfl rfl (take_ofW HT_.out HW_.out (by kernel_rfl)) (fun _ _ _ h => h) (Or.inl ⟨by rfl, ?_⟩) hHeld ?_ ?_
 rotate_left
 ·(
 rintro w' ⟨s0, s1, s2, s3, s4, s5, s6, s7, s8, s9, s10, s11, s12, s13, s14, s15, s16, s17, s18, s19, s20, s21, s22, s23, s24, s25, s26, s27, s28, s29, s30, s31, s32, s33, s34, s35, s36, s37, s38, s39, s40, s41, s42, s43, s44, s45, s46, s47, s48, s49, s50, s51, s52, s53⟩
 go_simp
 with_reducible rfl)
 rotate_left
 ·(
 simp only [Act.put, List.setIfInBounds_toArray, List.set_cons_zero, List.set_cons_succ, i64_w, i32_w]
 rfl)
 refine take_ (i := 7) (N := some 55) (v := ?_) (a' := ?_) #[true, true, true, true, true, true, true, true, false, false, false, false, false, false, false, false, false, false, false, false, false, false, false, false, false, false, false, false, false, false, false, false, false, false] rfl rfl (take_ofW HT_.out HW_.out (by kernel_rfl)) (fun _ _ _ h => h) (Or.inl ⟨by rfl, ?_⟩) hHeld ?_ ?_
 rotate_left
 ·(
 rintro w' ⟨s0, s1, s2, s3, s4, s5, s6, s7, s8, s9, s10, s11, s12, s13, s14, s15, s16, s17, s18, s19, s20, s21, s22, s23, s24, s25, s26, s27, s28, s29, s30, s31, s32, s33, s34, s35, s36, s37, s38, s39, s40, s41, s42, s43, s44, s45, s46, s47, s48, s49, s50, s51, s52, s53⟩
 go_simp
 with_reducible rfl)
 rotate_left
 ·(
 simp only [Act.put, List.setIfInBounds_toArray, List.set_cons_zero, List.set_cons_succ, i64_w, i32_w]
 rfl)
 refine one_ (i := 8) (N := some 56) #[true, true, true, true, true, true, true, true, true, false, false, false, false, false, false, false, false, false, false, false, false, false, false, false, false, false, false, false, false, false, false, false, false, false] rfl rfl (one_of HT_.out (by kernel_rfl)) (by decide) (fun K hK => ?_)
 refine goes_ Try.func21 (by kernel_rfl) rfl #[.agg #[.int .i64 ((rd_T39 y194 x12_1).f0), .int .i64 ((rd_T39 y194 x12_1).f1), .int .i64 ((rd_T39 y194 x12_1).f2.f0), .int .i64 ((rd_T39 y194 x12_1).f2.f1), .int .i64 ((rd_T39 y194 x12_1).f2.f2), .int .i64 ((rd_T39 y194 x12_1).f2.f3.f0), .int .i64 ((rd_T39 y194 x12_1).f2.f3.f1), .int .i64 ((rd_T39 y194 x12_1).f2.f4), .int .i64 ((rd_T39 y194 x12_1).f2.f5)], .agg #[.int .i64 ((rd_T39 y194 x13_2).f0), .int .i64 ((rd_T39 y194 x13_2).f1), .int .i64 ((rd_T39 y194 x13_2).f2.f0), .int .i64 ((rd_T39 y194 x13_2).f2.f1), .int .i64 ((rd_T39 y194 x13_2).f2.f2), .int .i64 ((rd_T39 y194 x13_2).f2.f3.f0), .int .i64 ((rd_T39 y194 x13_2).f2.f3.f1), .int .i64 ((rd_T39 y194 x13_2).f2.f4), .int .i64 ((rd_T39 y194 x13_2).f2.f5)]] (by first | rfl | (refine wanted_on rfl rfl rfl ?_; first | assumption | (simp [*]; done))) rfl rfl (by (try simp only [List.map_toArray, List.map_cons, List.map_nil]); first | done | rfl | (simp only [List.length_drop, List.length_take]; rfl)) ?_
 with_reducible refine (determinant_Compare.calls k3 ((rd_T39 y194 x12_1).f0) ((rd_T39 y194 x12_1).f1) ((rd_T39 y194 x12_1).f2.f0) ((rd_T39 y194 x12_1).f2.f1) ((rd_T39 y194 x12_1).f2.f2) ((rd_T39 y194 x12_1).f2.f3.f0) ((rd_T39 y194 x12_1).f2.f3.f1) ((rd_T39 y194 x12_1).f2.f4) ((rd_T39 y194 x12_1).f2.f5) ((rd_T39 y194 x13_2).f0) ((rd_T39 y194 x13_2).f1) ((rd_T39 y194 x13_2).f2.f0) ((rd_T39 y194 x13_2).f2.f1) ((rd_T39 y194 x13_2).f2.f2) ((rd_T39 y194 x13_2).f2.f3.f0) ((rd_T39 y194 x13_2).f2.f3.f1) ((rd_T39 y194 x13_2).f2.f4) ((rd_T39 y194 x13_2).f2.f5) t199 _ A27.out).mono ?_
 rintro e w35 ⟨rfl, hb⟩
 have HS0_ := (hb.cell (World.block_lt_of_cell? _ _ (hHeld.1))).trans (hHeld.1)
 have HS1_ := (hb.cell (World.block_lt_of_cell? _ _ (hHeld.2.1))).trans (hHeld.2.1)
 have HS2_ := (hb.cell (World.block_lt_of_cell? _ _ (hHeld.2.2.1))).trans (hHeld.2.2.1)
 have HS3_ := (hb.cell (World.block_lt_of_cell? _ _ (hHeld.2.2.2.1))).trans (hHeld.2.2.2.1)
 have HS4_ := (hb.cell (World.block_lt_of_cell? _ _ (hHeld.2.2.2.2.1))).trans (hHeld.2.2.2.2.1)
 have HS5_ := (hb.cell (World.block_lt_of_cell? _ _ (hHeld.2.2.2.2.2.1))).trans (hHeld.2.2.2.2.2.1)
 have HS6_ := (hb.cell (World.block_lt_of_cell? _ _ (hHeld.2.2.2.2.2.2.1))).trans (hHeld.2.2.2.2.2.2.1)
 have HS7_ := (hb.cell (World.block_lt_of_cell? _ _ (hHeld.2.2.2.2.2.2.2.1))).trans (hHeld.2.2.2.2.2.2.2.1)
 have HS8_ := (hb.cell (World.block_lt_of_cell? _ _ (hHeld.2.2.2.2.2.2.2.2.1))).trans (hHeld.2.2.2.2.2.2.2.2.1)
 have HS9_ := (hb.cell (World.block_lt_of_cell? _ _ (hHeld.2.2.2.2.2.2.2.2.2.1))).trans (hHeld.2.2.2.2.2.2.2.2.2.1)
 have HS10_ := (hb.cell (World.block_lt_of_cell? _ _ (hHeld.2.2.2.2.2.2.2.2.2.2.1))).trans (hHeld.2.2.2.2.2.2.2.2.2.2.1)
 have HS11_ := (hb.cell (World.block_lt_of_cell? _ _ (hHeld.2.2.2.2.2.2.2.2.2.2.2.1))).trans (hHeld.2.2.2.2.2.2.2.2.2.2.2.1)
 have HS12_ := (hb.cell (World.block_lt_of_cell? _ _ (hHeld.2.2.2.2.2.2.2.2.2.2.2.2.1))).trans (hHeld.2.2.2.2.2.2.2.2.2.2.2.2.1)
 have HS13_ := (hb.cell (World.block_lt_of_cell? _ _ (hHeld.2.2.2.2.2.2.2.2.2.2.2.2.2.1))).trans (hHeld.2.2.2.2.2.2.2.2.2.2.2.2.2.1)
 have HS14_ := (hb.cell (World.block_lt_of_cell? _ _ (hHeld.2.2.2.2.2.2.2.2.2.2.2.2.2.2.1))).trans (hHeld.2.2.2.2.2.2.2.2.2.2.2.2.2.2.1)
 have HS15_ := (hb.cell (World.block_lt_of_cell? _ _ (hHeld.2.2.2.2.2.2.2.2.2.2.2.2.2.2.2.1))).trans (hHeld.2.2.2.2.2.2.2.2.2.2.2.2.2.2.2.1)
 have HS16_ := (hb.cell (World.block_lt_of_cell? _ _ (hHeld.2.2.2.2.2.2.2.2.2.2.2.2.2.2.2.2.1))).trans (hHeld.2.2.2.2.2.2.2.2.2.2.2.2.2.2.2.2.1)
 have HS17_ := (hb.cell (World.block_lt_of_cell? _ _ (hHeld.2.2.2.2.2.2.2.2.2.2.2.2.2.2.2.2.2.1))).trans (hHeld.2.2.2.2.2.2.2.2.2.2.2.2.2.2.2.2.2.1)
 have HS18_ := (hb.cell (World.block_lt_of_cell? _ _ (hHeld.2.2.2.2.2.2.2.2.2.2.2.2.2.2.2.2.2.2.1))).trans (hHeld.2.2.2.2.2.2.2.2.2.2.2.2.2.2.2.2.2.2.1)
 have HS19_ := (hb.cell (World.block_lt_of_cell? _ _ (hHeld.2.2.2.2.2.2.2.2.2.2.2.2.2.2.2.2.2.2.2.1))).trans (hHeld.2.2.2.2.2.2.2.2.2.2.2.2.2.2.2.2.2.2.2.1)
 have HS20_ := (hb.cell (World.block_lt_of_cell? _ _ (hHeld.2.2.2.2.2.2.2.2.2.2.2.2.2.2.2.2.2.2.2.2.1))).trans (hHeld.2.2.2.2.2.2.2.2.2.2.2.2.2.2.2.2.2.2.2.2.1)
 have HS21_ := (hb.cell (World.block_lt_of_cell? _ _ (hHeld.2.2.2.2.2.2.2.2.2.2.2.2.2.2.2.2.2.2.2.2.2.1))).trans (hHeld.2.2.2.2.2.2.2.2.2.2.2.2.2.2.2.2.2.2.2.2.2.1)
 have HS22_ := (hb.cell (World.block_lt_of_cell? _ _ (hHeld.2.2.2.2.2.2.2.2.2.2.2.2.2.2.2.2.2.2.2.2.2.2.1))).trans (hHeld.2.2.2.2.2.2.2.2.2.2.2.2.2.2.2.2.2.2.2.2.2.2.1)
 have HS23_ := (hb.cell (World.block_lt_of_cell? _ _ (hHeld.2.2.2.2.2.2.2.2.2.2.2.2.2.2.2.2.2.2.2.2.2.2.2.1))).trans (hHeld.2.2.2.2.2.2.2.2.2.2.2.2.2.2.2.2.2.2.2.2.2.2.2.1)
 have HS24_ := (hb.cell (World.block_lt_of_cell? _ _ (hHeld.2.2.2.2.2.2.2.2.2.2.2.2.2.2.2.2.2.2.2.2.2.2.2.2.1))).trans (hHeld.2.2.2.2.2.2.2.2.2.2.2.2.2.2.2.2.2.2.2.2.2.2.2.2.1)
 have HS25_ := (hb.cell (World.block_lt_of_cell? _ _ (hHeld.2.2.2.2.2.2.2.2.2.2.2.2.2.2.2.2.2.2.2.2.2.2.2.2.2.1))).trans (hHeld.2.2.2.2.2.2.2.2.2.2.2.2.2.2.2.2.2.2.2.2.2.2.2.2.2.1)
 have HS26_ := (hb.cell (World.block_lt_of_cell? _ _ (hHeld.2.2.2.2.2.2.2.2.2.2.2.2.2.2.2.2.2.2.2.2.2.2.2.2.2.2.1))).trans (hHeld.2.2.2.2.2.2.2.2.2.2.2.2.2.2.2.2.2.2.2.2.2.2.2.2.2.2.1)
 have HS27_ := (hb.cell (World.block_lt_of_cell? _ _ (hHeld.2.2.2.2.2.2.2.2.2.2.2.2.2.2.2.2.2.2.2.2.2.2.2.2.2.2.2.1))).trans (hHeld.2.2.2.2.2.2.2.2.2.2.2.2.2.2.2.2.2.2.2.2.2.2.2.2.2.2.2.1)
 have HS28_ := (hb.cell (World.block_lt_of_cell? _ _ (hHeld.2.2.2.2.2.2.2.2.2.2.2.2.2.2.2.2.2.2.2.2.2.2.2.2.2.2.2.2.1))).trans (hHeld.2.2.2.2.2.2.2.2.2.2.2.2.2.2.2.2.2.2.2.2.2.2.2.2.2.2.2.2.1)
 have HS29_ := (hb.cell (World.block_lt_of_cell? _ _ (hHeld.2.2.2.2.2.2.2.2.2.2.2.2.2.2.2.2.2.2.2.2.2.2.2.2.2.2.2.2.2.1))).trans (hHeld.2.2.2.2.2.2.2.2.2.2.2.2.2.2.2.2.2.2.2.2.2.2.2.2.2.2.2.2.2.1)
 have HS30_ := (hb.cell (World.block_lt_of_cell? _ _ (hHeld.2.2.2.2.2.2.2.2.2.2.2.2.2.2.2.2.2.2.2.2.2.2.2.2.2.2.2.2.2.2.1))).trans (hHeld.2.2.2.2.2.2.2.2.2.2.2.2.2.2.2.2.2.2.2.2.2.2.2.2.2.2.2.2.2.2.1)
 have HS31_ := (hb.cell (World.block_lt_of_cell? _ _ (hHeld.2.2.2.2.2.2.2.2.2.2.2.2.2.2.2.2.2.2.2.2.2.2.2.2.2.2.2.2.2.2.2.1))).trans (hHeld.2.2.2.2.2.2.2.2.2.2.2.2.2.2.2.2.2.2.2.2.2.2.2.2.2.2.2.2.2.2.2.1)
 have HS32_ := (hb.cell (World.block_lt_of_cell? _ _ (hHeld.2.2.2.2.2.2.2.2.2.2.2.2.2.2.2.2.2.2.2.2.2.2.2.2.2.2.2.2.2.2.2.2.1))).trans (hHeld.2.2.2.2.2.2.2.2.2.2.2.2.2.2.2.2.2.2.2.2.2.2.2.2.2.2.2.2.2.2.2.2.1)
 have HS33_ := (hb.cell (World.block_lt_of_cell? _ _ (hHeld.2.2.2.2.2.2.2.2.2.2.2.2.2.2.2.2.2.2.2.2.2.2.2.2.2.2.2.2.2.2.2.2.2.1))).trans (hHeld.2.2.2.2.2.2.2.2.2.2.2.2.2.2.2.2.2.2.2.2.2.2.2.2.2.2.2.2.2.2.2.2.2.1)
 have HS34_ := (hb.cell (World.block_lt_of_cell? _ _ (hHeld.2.2.2.2.2.2.2.2.2.2.2.2.2.2.2.2.2.2.2.2.2.2.2.2.2.2.2.2.2.2.2.2.2.2.1))).trans (hHeld.2.2.2.2.2.2.2.2.2.2.2.2.2.2.2.2.2.2.2.2.2.2.2.2.2.2.2.2.2.2.2.2.2.2.1)
 have HS35_ := (hb.cell (World.block_lt_of_cell? _ _ (hHeld.2.2.2.2.2.2.2.2.2.2.2.2.2.2.2.2.2.2.2.2.2.2.2.2.2.2.2.2.2.2.2.2.2.2.2.1))).trans (hHeld.2.2.2.2.2.2.2.2.2.2.2.2.2.2.2.2.2.2.2.2.2.2.2.2.2.2.2.2.2.2.2.2.2.2.2.1)
 have HS36_ := (hb.cell (World.block_lt_of_cell? _ _ (hHeld.2.2.2.2.2.2.2.2.2.2.2.2.2.2.2.2.2.2.2.2.2.2.2.2.2.2.2.2.2.2.2.2.2.2.2.2.1))).trans (hHeld.2.2.2.2.2.2.2.2.2.2.2.2.2.2.2.2.2.2.2.2.2.2.2.2.2.2.2.2.2.2.2.2.2.2.2.2.1)
 have HS37_ := (hb.cell (World.block_lt_of_cell? _ _ (hHeld.2.2.2.2.2.2.2.2.2.2.2.2.2.2.2.2.2.2.2.2.2.2.2.2.2.2.2.2.2.2.2.2.2.2.2.2.2.1))).trans (hHeld.2.2.2.2.2.2.2.2.2.2.2.2.2.2.2.2.2.2.2.2.2.2.2.2.2.2.2.2.2.2.2.2.2.2.2.2.2.1)
 have HS38_ := (hb.cell (World.block_lt_of_cell? _ _ (hHeld.2.2.2.2.2.2.2.2.2.2.2.2.2.2.2.2.2.2.2.2.2.2.2.2.2.2.2.2.2.2.2.2.2.2.2.2.2.2.1))).trans (hHeld.2.2.2.2.2.2.2.2.2.2.2.2.2.2.2.2.2.2.2.2.2.2.2.2.2.2.2.2.2.2.2.2.2.2.2.2.2.2.1)
 have HS39_ := (hb.cell (World.block_lt_of_cell? _ _ (hHeld.2.2.2.2.2.2.2.2.2.2.2.2.2.2.2.2.2.2.2.2.2.2.2.2.2.2.2.2.2.2.2.2.2.2.2.2.2.2.2.1))).trans (hHeld.2.2.2.2.2.2.2.2.2.2.2.2.2.2.2.2.2.2.2.2.2.2.2.2.2.2.2.2.2.2.2.2.2.2.2.2.2.2.2.1)
 have HS40_ := (hb.cell (World.block_lt_of_cell? _ _ (hHeld.2.2.2.2.2.2.2.2.2.2.2.2.2.2.2.2.2.2.2.2.2.2.2.2.2.2.2.2.2.2.2.2.2.2.2.2.2.2.2.2.1))).trans (hHeld.2.2.2.2.2.2.2.2.2.2.2.2.2.2.2.2.2.2.2.2.2.2.2.2.2.2.2.2.2.2.2.2.2.2.2.2.2.2.2.2.1)
 have HS41_ := (hb.cell (World.block_lt_of_cell? _ _ (hHeld.2.2.2.2.2.2.2.2.2.2.2.2.2.2.2.2.2.2.2.2.2.2.2.2.2.2.2.2.2.2.2.2.2.2.2.2.2.2.2.2.2.1))).trans (hHeld.2.2.2.2.2.2.2.2.2.2.2.2.2.2.2.2.2.2.2.2.2.2.2.2.2.2.2.2.2.2.2.2.2.2.2.2.2.2.2.2.2.1)
 have HS42_ := (hb.cell (World.block_lt_of_cell? _ _ (hHeld.2.2.2.2.2.2.2.2.2.2.2.2.2.2.2.2.2.2.2.2.2.2.2.2.2.2.2.2.2.2.2.2.2.2.2.2.2.2.2.2.2.2.1))).trans (hHeld.2.2.2.2.2.2.2.2.2.2.2.2.2.2.2.2.2.2.2.2.2.2.2.2.2.2.2.2.2.2.2.2.2.2.2.2.2.2.2.2.2.2.1)
 have HS43_ := (hb.cell (World.block_lt_of_cell? _ _ (hHeld.2.2.2.2.2.2.2.2.2.2.2.2.2.2.2.2.2.2.2.2.2.2.2.2.2.2.2.2.2.2.2.2.2.2.2.2.2.2.2.2.2.2.2.1))).trans (hHeld.2.2.2.2.2.2.2.2.2.2.2.2.2.2.2.2.2.2.2.2.2.2.2.2.2.2.2.2.2.2.2.2.2.2.2.2.2.2.2.2.2.2.2.1)
 have HS44_ := (hb.cell (World.block_lt_of_cell? _ _ (hHeld.2.2.2.2.2.2.2.2.2.2.2.2.2.2.2.2.2.2.2.2.2.2.2.2.2.2.2.2.2.2.2.2.2.2.2.2.2.2.2.2.2.2.2.2.1))).trans (hHeld.2.2.2.2.2.2.2.2.2.2.2.2.2.2.2.2.2.2.2.2.2.2.2.2.2.2.2.2.2.2.2.2.2.2.2.2.2.2.2.2.2.2.2.2.1)
 have HS45_ := (hb.cell (World.block_lt_of_cell? _ _ (hHeld.2.2.2.2.2.2.2.2.2.2.2.2.2.2.2.2.2.2.2.2.2.2.2.2.2.2.2.2.2.2.2.2.2.2.2.2.2.2.2.2.2.2.2.2.2.1))).trans (hHeld.2.2.2.2.2.2.2.2.2.2.2.2.2.2.2.2.2.2.2.2.2.2.2.2.2.2.2.2.2.2.2.2.2.2.2.2.2.2.2.2.2.2.2.2.2.1)
 have HS46_ := (hb.cell (World.block_lt_of_cell? _ _ (hHeld.2.2.2.2.2.2.2.2.2.2.2.2.2.2.2.2.2.2.2.2.2.2.2.2.2.2.2.2.2.2.2.2.2.2.2.2.2.2.2.2.2.2.2.2.2.2.1))).trans (hHeld.2.2.2.2.2.2.2.2.2.2.2.2.2.2.2.2.2.2.2.2.2.2.2.2.2.2.2.2.2.2.2.2.2.2.2.2.2.2.2.2.2.2.2.2.2.2.1)
 have HS47_ := (hb.cell (World.block_lt_of_cell? _ _ (hHeld.2.2.2.2.2.2.2.2.2.2.2.2.2.2.2.2.2.2.2.2.2.2.2.2.2.2.2.2.2.2.2.2.2.2.2.2.2.2.2.2.2.2.2.2.2.2.2.1))).trans (hHeld.2.2.2.2.2.2.2.2.2.2.2.2.2.2.2.2.2.2.2.2.2.2.2.2.2.2.2.2.2.2.2.2.2.2.2.2.2.2.2.2.2.2.2.2.2.2.2.1)
 have HS48_ := (hb.cell (World.block_lt_of_cell? _ _ (hHeld.2.2.2.2.2.2.2.2.2.2.2.2.2.2.2.2.2.2.2.2.2.2.2.2.2.2.2.2.2.2.2.2.2.2.2.2.2.2.2.2.2.2.2.2.2.2.2.2.1))).trans (hHeld.2.2.2.2.2.2.2.2.2.2.2.2.2.2.2.2.2.2.2.2.2.2.2.2.2.2.2.2.2.2.2.2.2.2.2.2.2.2.2.2.2.2.2.2.2.2.2.2.1)
 have HS49_ := (hb.cell (World.block_lt_of_cell? _ _ (hHeld.2.2.2.2.2.2.2.2.2.2.2.2.2.2.2.2.2.2.2.2.2.2.2.2.2.2.2.2.2.2.2.2.2.2.2.2.2.2.2.2.2.2.2.2.2.2.2.2.2.1))).trans (hHeld.2.2.2.2.2.2.2.2.2.2.2.2.2.2.2.2.2.2.2.2.2.2.2.2.2.2.2.2.2.2.2.2.2.2.2.2.2.2.2.2.2.2.2.2.2.2.2.2.2.1)
 have HS50_ := (hb.cell (World.block_lt_of_cell? _ _ (hHeld.2.2.2.2.2.2.2.2.2.2.2.2.2.2.2.2.2.2.2.2.2.2.2.2.2.2.2.2.2.2.2.2.2.2.2.2.2.2.2.2.2.2.2.2.2.2.2.2.2.2.1))).trans (hHeld.2.2.2.2.2.2.2.2.2.2.2.2.2.2.2.2.2.2.2.2.2.2.2.2.2.2.2.2.2.2.2.2.2.2.2.2.2.2.2.2.2.2.2.2.2.2.2.2.2.2.1)
 have HS51_ := (hb.cell (World.block_lt_of_cell? _ _ (hHeld.2.2.2.2.2.2.2.2.2.2.2.2.2.2.2.2.2.2.2.2.2.2.2.2.2.2.2.2.2.2.2.2.2.2.2.2.2.2.2.2.2.2.2.2.2.2.2.2.2.2.2.1))).trans (hHeld.2.2.2.2.2.2.2.2.2.2.2.2.2.2.2.2.2.2.2.2.2.2.2.2.2.2.2.2.2.2.2.2.2.2.2.2.2.2.2.2.2.2.2.2.2.2.2.2.2.2.2.1)
 have HS52_ := (hb.cell (World.block_lt_of_cell? _ _ (hHeld.2.2.2.2.2.2.2.2.2.2.2.2.2.2.2.2.2.2.2.2.2.2.2.2.2.2.2.2.2.2.2.2.2.2.2.2.2.2.2.2.2.2.2.2.2.2.2.2.2.2.2.2.1))).trans (hHeld.2.2.2.2.2.2.2.2.2.2.2.2.2.2.2.2.2.2.2.2.2.2.2.2.2.2.2.2.2.2.2.2.2.2.2.2.2.2.2.2.2.2.2.2.2.2.2.2.2.2.2.2.1)
 have HS53_ := (hb.cell (World.block_lt_of_cell? _ _ (hHeld.2.2.2.2.2.2.2.2.2.2.2.2.2.2.2.2.2.2.2.2.2.2.2.2.2.2.2.2.2.2.2.2.2.2.2.2.2.2.2.2.2.2.2.2.2.2.2.2.2.2.2.2.2))).trans (hHeld.2.2.2.2.2.2.2.2.2.2.2.2.2.2.2.2.2.2.2.2.2.2.2.2.2.2.2.2.2.2.2.2.2.2.2.2.2.2.2.2.2.2.2.2.2.2.2.2.2.2.2.2.2)
 refine ⟨_, rfl, ?_⟩
 have n0_ := Aside0.mk (Kd.R_below (rq HO_11.out) hb)
 have n1_ := Aside0.mk (blk_below (g := gb172) (o := .cells #[.int .i64 a0_0, .int .i64 a0_1, .int .i64 a0_2, .int .i64 a0_3, .int .i64 a0_4, .int .i64 a0_5, .int .i64 a0_6, .int .i64 a0_7, .int .i64 a0_8] 39 (0, 0)) (kq BK172.out) hb)
 have n2_ := Aside0.mk (blk_below (g := gb173) (o := .cells #[.int .i64 a1_0, .int .i64 a1_1, .int .i64 a1_2, .int .i64 a1_3, .int .i64 a1_4, .int .i64 a1_5, .int .i64 a1_6, .int .i64 a1_7, .int .i64 a1_8] 39 (0, 0)) (kq BK173.out) hb)
 have n3_ := Aside0.mk (blk_below (g := gb174) (o := .cells #[.int .i64 a2_0, .int .i64 a2_1, .int .i64 a2_2, .int .i64 a2_3, .int .i64 a2_4, .int .i64 a2_5, .int .i64 a2_6, .int .i64 a2_7, .int .i64 a2_8] 39 (0, 0)) (kq BK174.out) hb)
 have n4_ := Aside0.mk (below_step (bq3 HB.out GE172.out GE173.out GE174.out) hb)
 clear HO_11
 clear BK172
 clear BK173
 clear BK174
 clear HB
 have HO_11 := n0_
 have BK172 := n1_
 have BK173 := n2_
 have BK174 := n3_
 have HB := n4_
 clear n0_ n1_ n2_ n3_ n4_
 (try clear hb)
 (try clear hb2)
 (try clear hk)
 (try clear hi)
 refine hK.out _ _ ⟨HS0_, HS1_, HS2_, HS3_, HS4_, HS5_, HS6_, HS7_, HS8_, HS9_, HS10_, HS11_, HS12_, HS13_, HS14_, HS15_, HS16_, HS17_, HS18_, HS19_, HS20_, HS21_, HS22_, HS23_, HS24_, HS25_, HS26_, HS27_, HS28_, HS29_, HS30_, HS31_, HS32_, HS33_, HS34_, HS35_, HS36_, HS37_, HS38_, HS39_, HS40_, HS41_, HS42_, HS43_, HS44_, HS45_, HS46_, HS47_, HS48_, HS49_, HS50_, HS51_, HS52_, HS53_⟩ (fun hHeld => ?_)
 clear hK K
 refine norm_ (a' := ?_) ?_ ?_
 rotate_left
 ·(
 show Act.put _ (some 56) _ = _
 simp only [Act.put, List.setIfInBounds_toArray, List.set_cons_zero, List.set_cons_succ, i64_w, i32_w]
 rfl)
 refine pure_ (i := 9) (N := some 57) (v := ?_) (a' := ?_) #[true, true, true, true, true, true, true, true, true, true, false, false, false, false, false, false, false, false, false, false, false, false, false, false, false, false, false, false, false, false, false, false, false, false] rfl rfl (any_of HT_.out (by kernel_rfl)) (fun _ _ _ h => h) (Or.inl ⟨by rfl, ?_⟩) ?_ ?_
 rotate_left
 ·(
 intro w'
 go_simp
 with_reducible rfl)
 rotate_left
 ·(
 simp only [Act.put, List.setIfInBounds_toArray, List.set_cons_zero, List.set_cons_succ, i64_w, i32_w]
 rfl)
 refine pure_ (i := 10) (N := some 58) (v := ?_) (a' := ?_) #[true, true, true, true, true, true, true, true, true, true, true, false, false, false, false, false, false, false, false, false, false, false, false, false, false, false, false, false, false, false, false, false, false, false] rfl rfl (any_of HT_.out (by kernel_rfl)) (fun _ _ _ h => h) (Or.inl ⟨by rfl, ?_⟩) ?_ ?_
 rotate_left
 ·(
 intro w'
 go_simp
 with_reducible rfl)
 rotate_left
 ·(
 simp only [Act.put, List.setIfInBounds_toArray, List.set_cons_zero, List.set_cons_succ, i64_w, i32_w]
 rfl)
 refine pure_ (i := 11) (N := some 59) (v := ?_) (a' := ?_) #[true, true, true, true, true, true, true, true, true, true, true, true, false, false, false, false, false, false, false, false, false, false, false, false, false, false, false, false, false, false, false, false, false, false] rfl rfl (any_of HT_.out (by kernel_rfl)) (fun _ _ _ h => h) (Or.inl ⟨by rfl, ?_⟩) ?_ ?_
 rotate_left
 ·(
 intro w'
 go_simp
 with_reducible rfl)
 rotate_left
 ·(
 simp only [Act.put, List.setIfInBounds_toArray, List.set_cons_zero, List.set_cons_succ, i64_w, i32_w]
 rfl)
 refine pure_ (i := 12) (N := some 60) (v := ?_) (a' := ?_) #[true, true, true, true, true, true, true, true, true, true, true, true, true, false, false, false, false, false, false, false, false, false, false, false, false, false, false, false, false, false, false, false, false, false] rfl rfl (any_of HT_.out (by kernel_rfl)) (fun _ _ _ h => h) (Or.inl ⟨by rfl, ?_⟩) ?_ ?_
 rotate_left
 ·(
 intro w'
 go_simp
 with_reducible rfl)
 rotate_left
 ·(
 simp only [Act.put, List.setIfInBounds_toArray, List.set_cons_zero, List.set_cons_succ, i64_w, i32_w]
 rfl)
 refine pure_ (i := 13) (N := some 61) (v := ?_) (a' := ?_) #[true, true, true, true, true, true, true, true, true, true, true, true, true, true, false, false, false, false, false, false, false, false, false, false, false, false, false, false, false, false, false, false, false, false] rfl rfl (any_of HT_.out (by kernel_rfl)) (fun _ _ _ h => h) (Or.inl ⟨by rfl, ?_⟩) ?_ ?_
 rotate_left
 ·(
 intro w'
 go_simp
 with_reducible rfl)
 rotate_left
 ·(
 simp only [Act.put, List.setIfInBounds_toArray, List.set_cons_zero, List.set_cons_succ, i64_w, i32_w]
 rfl)
 refine pure_ (i := 15) (N := some 63) (v := ?_) (a' := ?_) #[true, true, true, true, true, true, true, true, true, true, true, true, true, true, false, true, false, false, false, false, false, false, false, false, false, false, false, false, false, false, false, false, false, false] rfl rfl (any_of HT_.out (by kernel_rfl)) (fun _ _ _ h => h) (Or.inl ⟨by rfl, ?_⟩) ?_ ?_
 rotate_left
 ·(
 intro w'
 go_simp
 with_reducible rfl)
 rotate_left
 ·(
 simp only [Act.put, List.setIfInBounds_toArray, List.set_cons_zero, List.set_cons_succ, i64_w, i32_w]
 rfl)
 refine pure_ (i := 16) (N := some 64) (v := ?_) (a' := ?_) #[true, true, true, true, true, true, true, true, true, true, true, true, true, true, false, true, true, false, false, false, false, false, false, false, false, false, false, false, false, false, false, false, false, false] rfl rfl (any_of HT_.out (by kernel_rfl)) (fun _ _ _ h => h) (Or.inl ⟨by rfl, ?_⟩) ?_ ?_
 rotate_left
 ·(
 intro w'
 go_simp
 with_reducible rfl)
 rotate_left
 ·(
 simp only [Act.put, List.setIfInBounds_toArray, List.set_cons_zero, List.set_cons_succ, i64_w, i32_w]
 rfl)
 refine pure_ (i := 17) (N := some 65) (v := ?_) (a' := ?_) #[true, true, true, true, true, true, true, true, true, true, true, true, true, true, false, true, true, true, false, false, false, false, false, false, false, false, false, false, false, false, false, false, false, false] rfl rfl (any_of HT_.out (by kernel_rfl)) (fun _ _ _ h => h) (Or.inl ⟨by rfl, ?_⟩) ?_ ?_
 rotate_left
 ·(
 intro w'
 go_simp
 with_reducible rfl)
 rotate_left
 ·(
 simp only [Act.put, List.setIfInBounds_toArray, List.set_cons_zero, List.set_cons_succ, i64_w, i32_w]
 rfl)
 refine take_ (i := 14) (N := some 62) (v := ?_) (a' := ?_) #[true, true, true, true, true, true, true, true, true, true, true, true, true, true, true, true, true, true, false, false, false, false, false, false, false, false, false, false, false, false, false, false, false, false] rfl rfl (take_ofW HT_.out HW_.out (by kernel_rfl)) (fun _ _ _ h => h) (Or.inl ⟨by rfl, ?_⟩) hHeld ?_ ?_
 rotate_left
 ·(
 rintro w' ⟨s0, s1, s2, s3, s4, s5, s6, s7, s8, s9, s10, s11, s12, s13, s14, s15, s16, s17, s18, s19, s20, s21, s22, s23, s24, s25, s26, s27, s28, s29, s30, s31, s32, s33, s34, s35, s36, s37, s38, s39, s40, s41, s42, s43, s44, s45, s46, s47, s48, s49, s50, s51, s52, s53⟩
 go_simp
 with_reducible rfl)
 rotate_left
 ·(
 simp only [Act.put, List.setIfInBounds_toArray, List.set_cons_zero, List.set_cons_succ, i64_w, i32_w]
 rfl)
 refine take_ (i := 18) (N := some 66) (v := ?_) (a' := ?_) #[true, true, true, true, true, true, true, true, true, true, true, true, true, true, true, true, true, true, true, false, false, false, false, false, false, false, false, false, false, false, false, false, false, false] rfl rfl (take_ofW HT_.out HW_.out (by kernel_rfl)) (fun _ _ _ h => h) (Or.inl ⟨by rfl, ?_⟩) hHeld ?_ ?_
 rotate_left
 ·(
 rintro w' ⟨s0, s1, s2, s3, s4, s5, s6, s7, s8, s9, s10, s11, s12, s13, s14, s15, s16, s17, s18, s19, s20, s21, s22, s23, s24, s25, s26, s27, s28, s29, s30, s31, s32, s33, s34, s35, s36, s37, s38, s39, s40, s41, s42, s43, s44, s45, s46, s47, s48, s49, s50, s51, s52, s53⟩
 go_simp
 with_reducible rfl)
 rotate_left
 ·(
 simp only [Act.put, List.setIfInBounds_toArray, List.set_cons_zero, List.set_cons_succ, i64_w, i32_w]
 rfl)
 refine one_ (i := 19) (N := some 67) #[true, true, true, true, true, true, true, true, true, true, true, true, true, true, true, true, true, true, true, true, false, false, false, false, false, false, false, false, false, false, false, false, false, false] rfl rfl (one_of HT_.out (by kernel_rfl)) (by decide) (fun K hK => ?_)
 refine goes_ Try.func21 (by kernel_rfl) rfl #[.agg #[.int .i64 ((rd_T39 y194 x13_2).f0), .int .i64 ((rd_T39 y194 x13_2).f1), .int .i64 ((rd_T39 y194 x13_2).f2.f0), .int .i64 ((rd_T39 y194 x13_2).f2.f1), .int .i64 ((rd_T39 y194 x13_2).f2.f2), .int .i64 ((rd_T39 y194 x13_2).f2.f3.f0), .int .i64 ((rd_T39 y194 x13_2).f2.f3.f1), .int .i64 ((rd_T39 y194 x13_2).f2.f4), .int .i64 ((rd_T39 y194 x13_2).f2.f5)], .agg #[.int .i64 ((rd_T39 y194 x14_3).f0), .int .i64 ((rd_T39 y194 x14_3).f1), .int .i64 ((rd_T39 y194 x14_3).f2.f0), .int .i64 ((rd_T39 y194 x14_3).f2.f1), .int .i64 ((rd_T39 y194 x14_3).f2.f2), .int .i64 ((rd_T39 y194 x14_3).f2.f3.f0), .int .i64 ((rd_T39 y194 x14_3).f2.f3.f1), .int .i64 ((rd_T39 y194 x14_3).f2.f4), .int .i64 ((rd_T39 y194 x14_3).f2.f5)]] (by first | rfl | (refine wanted_on rfl rfl rfl ?_; first | assumption | (simp [*]; done))) rfl rfl (by (try simp only [List.map_toArray, List.map_cons, List.map_nil]); first | done | rfl | (simp only [List.length_drop, List.length_take]; rfl)) ?_
 with_reducible refine (determinant_Compare.calls k3 ((rd_T39 y194 x13_2).f0) ((rd_T39 y194 x13_2).f1) ((rd_T39 y194 x13_2).f2.f0) ((rd_T39 y194 x13_2).f2.f1) ((rd_T39 y194 x13_2).f2.f2) ((rd_T39 y194 x13_2).f2.f3.f0) ((rd_T39 y194 x13_2).f2.f3.f1) ((rd_T39 y194 x13_2).f2.f4) ((rd_T39 y194 x13_2).f2.f5) ((rd_T39 y194 x14_3).f0) ((rd_T39 y194 x14_3).f1) ((rd_T39 y194 x14_3).f2.f0) ((rd_T39 y194 x14_3).f2.f1) ((rd_T39 y194 x14_3).f2.f2) ((rd_T39 y194 x14_3).f2.f3.f0) ((rd_T39 y194 x14_3).f2.f3.f1) ((rd_T39 y194 x14_3).f2.f4) ((rd_T39 y194 x14_3).f2.f5) t202 _ A30.out).mono ?_
 rintro e w36 ⟨rfl, hb⟩
 have HS0_ := (hb.cell (World.block_lt_of_cell? _ _ (hHeld.1))).trans (hHeld.1)
 have HS1_ := (hb.cell (World.block_lt_of_cell? _ _ (hHeld.2.1))).trans (hHeld.2.1)
 have HS2_ := (hb.cell (World.block_lt_of_cell? _ _ (hHeld.2.2.1))).trans (hHeld.2.2.1)
 have HS3_ := (hb.cell (World.block_lt_of_cell? _ _ (hHeld.2.2.2.1))).trans (hHeld.2.2.2.1)
 have HS4_ := (hb.cell (World.block_lt_of_cell? _ _ (hHeld.2.2.2.2.1))).trans (hHeld.2.2.2.2.1)
 have HS5_ := (hb.cell (World.block_lt_of_cell? _ _ (hHeld.2.2.2.2.2.1))).trans (hHeld.2.2.2.2.2.1)
 have HS6_ := (hb.cell (World.block_lt_of_cell? _ _ (hHeld.2.2.2.2.2.2.1))).trans (hHeld.2.2.2.2.2.2.1)
 have HS7_ := (hb.cell (World.block_lt_of_cell? _ _ (hHeld.2.2.2.2.2.2.2.1))).trans (hHeld.2.2.2.2.2.2.2.1)
 have HS8_ := (hb.cell (World.block_lt_of_cell? _ _ (hHeld.2.2.2.2.2.2.2.2.1))).trans (hHeld.2.2.2.2.2.2.2.2.1)
 have HS9_ := (hb.cell (World.block_lt_of_cell? _ _ (hHeld.2.2.2.2.2.2.2.2.2.1))).trans (hHeld.2.2.2.2.2.2.2.2.2.1)
 have HS10_ := (hb.cell (World.block_lt_of_cell? _ _ (hHeld.2.2.2.2.2.2.2.2.2.2.1))).trans (hHeld.2.2.2.2.2.2.2.2.2.2.1)
 have HS11_ := (hb.cell (World.block_lt_of_cell? _ _ (hHeld.2.2.2.2.2.2.2.2.2.2.2.1))).trans (hHeld.2.2.2.2.2.2.2.2.2.2.2.1)
 have HS12_ := (hb.cell (World.block_lt_of_cell? _ _ (hHeld.2.2.2.2.2.2.2.2.2.2.2.2.1))).trans (hHeld.2.2.2.2.2.2.2.2.2.2.2.2.1)
 have HS13_ := (hb.cell (World.block_lt_of_cell? _ _ (hHeld.2.2.2.2.2.2.2.2.2.2.2.2.2.1))).trans (hHeld.2.2.2.2.2.2.2.2.2.2.2.2.2.1)
 have HS14_ := (hb.cell (World.block_lt_of_cell? _ _ (hHeld.2.2.2.2.2.2.2.2.2.2.2.2.2.2.1))).trans (hHeld.2.2.2.2.2.2.2.2.2.2.2.2.2.2.1)
 have HS15_ := (hb.cell (World.block_lt_of_cell? _ _ (hHeld.2.2.2.2.2.2.2.2.2.2.2.2.2.2.2.1))).trans (hHeld.2.2.2.2.2.2.2.2.2.2.2.2.2.2.2.1)
 have HS16_ := (hb.cell (World.block_lt_of_cell? _ _ (hHeld.2.2.2.2.2.2.2.2.2.2.2.2.2.2.2.2.1))).trans (hHeld.2.2.2.2.2.2.2.2.2.2.2.2.2.2.2.2.1)
 have HS17_ := (hb.cell (World.block_lt_of_cell? _ _ (hHeld.2.2.2.2.2.2.2.2.2.2.2.2.2.2.2.2.2.1))).trans (hHeld.2.2.2.2.2.2.2.2.2.2.2.2.2.2.2.2.2.1)
 have HS18_ := (hb.cell (World.block_lt_of_cell? _ _ (hHeld.2.2.2.2.2.2.2.2.2.2.2.2.2.2.2.2.2.2.1))).trans (hHeld.2.2.2.2.2.2.2.2.2.2.2.2.2.2.2.2.2.2.1)
 have HS19_ := (hb.cell (World.block_lt_of_cell? _ _ (hHeld.2.2.2.2.2.2.2.2.2.2.2.2.2.2.2.2.2.2.2.1))).trans (hHeld.2.2.2.2.2.2.2.2.2.2.2.2.2.2.2.2.2.2.2.1)
 have HS20_ := (hb.cell (World.block_lt_of_cell? _ _ (hHeld.2.2.2.2.2.2.2.2.2.2.2.2.2.2.2.2.2.2.2.2.1))).trans (hHeld.2.2.2.2.2.2.2.2.2.2.2.2.2.2.2.2.2.2.2.2.1)
 have HS21_ := (hb.cell (World.block_lt_of_cell? _ _ (hHeld.2.2.2.2.2.2.2.2.2.2.2.2.2.2.2.2.2.2.2.2.2.1))).trans (hHeld.2.2.2.2.2.2.2.2.2.2.2.2.2.2.2.2.2.2.2.2.2.1)
 have HS22_ := (hb.cell (World.block_lt_of_cell? _ _ (hHeld.2.2.2.2.2.2.2.2.2.2.2.2.2.2.2.2.2.2.2.2.2.2.1))).trans (hHeld.2.2.2.2.2.2.2.2.2.2.2.2.2.2.2.2.2.2.2.2.2.2.1)
 have HS23_ := (hb.cell (World.block_lt_of_cell? _ _ (hHeld.2.2.2.2.2.2.2.2.2.2.2.2.2.2.2.2.2.2.2.2.2.2.2.1))).trans (hHeld.2.2.2.2.2.2.2.2.2.2.2.2.2.2.2.2.2.2.2.2.2.2.2.1)
 have HS24_ := (hb.cell (World.block_lt_of_cell? _ _ (hHeld.2.2.2.2.2.2.2.2.2.2.2.2.2.2.2.2.2.2.2.2.2.2.2.2.1))).trans (hHeld.2.2.2.2.2.2.2.2.2.2.2.2.2.2.2.2.2.2.2.2.2.2.2.2.1)
 have HS25_ := (hb.cell (World.block_lt_of_cell? _ _ (hHeld.2.2.2.2.2.2.2.2.2.2.2.2.2.2.2.2.2.2.2.2.2.2.2.2.2.1))).trans (hHeld.2.2.2.2.2.2.2.2.2.2.2.2.2.2.2.2.2.2.2.2.2.2.2.2.2.1)
 have HS26_ := (hb.cell (World.block_lt_of_cell? _ _ (hHeld.2.2.2.2.2.2.2.2.2.2.2.2.2.2.2.2.2.2.2.2.2.2.2.2.2.2.1))).trans (hHeld.2.2.2.2.2.2.2.2.2.2.2.2.2.2.2.2.2.2.2.2.2.2.2.2.2.2.1)
 have HS27_ := (hb.cell (World.block_lt_of_cell? _ _ (hHeld.2.2.2.2.2.2.2.2.2.2.2.2.2.2.2.2.2.2.2.2.2.2.2.2.2.2.2.1))).trans (hHeld.2.2.2.2.2.2.2.2.2.2.2.2.2.2.2.2.2.2.2.2.2.2.2.2.2.2.2.1)
 have HS28_ := (hb.cell (World.block_lt_of_cell? _ _ (hHeld.2.2.2.2.2.2.2.2.2.2.2.2.2.2.2.2.2.2.2.2.2.2.2.2.2.2.2.2.1))).trans (hHeld.2.2.2.2.2.2.2.2.2.2.2.2.2.2.2.2.2.2.2.2.2.2.2.2.2.2.2.2.1)
 have HS29_ := (hb.cell (World.block_lt_of_cell? _ _ (hHeld.2.2.2.2.2.2.2.2.2.2.2.2.2.2.2.2.2.2.2.2.2.2.2.2.2.2.2.2.2.1))).trans (hHeld.2.2.2.2.2.2.2.2.2.2.2.2.2.2.2.2.2.2.2.2.2.2.2.2.2.2.2.2.2.1)
 have HS30_ := (hb.cell (World.block_lt_of_cell? _ _ (hHeld.2.2.2.2.2.2.2.2.2.2.2.2.2.2.2.2.2.2.2.2.2.2.2.2.2.2.2.2.2.2.1))).trans (hHeld.2.2.2.2.2.2.2.2.2.2.2.2.2.2.2.2.2.2.2.2.2.2.2.2.2.2.2.2.2.2.1)
 have HS31_ := (hb.cell (World.block_lt_of_cell? _ _ (hHeld.2.2.2.2.2.2.2.2.2.2.2.2.2.2.2.2.2.2.2.2.2.2.2.2.2.2.2.2.2.2.2.1))).trans (hHeld.2.2.2.2.2.2.2.2.2.2.2.2.2.2.2.2.2.2.2.2.2.2.2.2.2.2.2.2.2.2.2.1)
 have HS32_ := (hb.cell (World.block_lt_of_cell? _ _ (hHeld.2.2.2.2.2.2.2.2.2.2.2.2.2.2.2.2.2.2.2.2.2.2.2.2.2.2.2.2.2.2.2.2.1))).trans (hHeld.2.2.2.2.2.2.2.2.2.2.2.2.2.2.2.2.2.2.2.2.2.2.2.2.2.2.2.2.2.2.2.2.1)
 have HS33_ := (hb.cell (World.block_lt_of_cell? _ _ (hHeld.2.2.2.2.2.2.2.2.2.2.2.2.2.2.2.2.2.2.2.2.2.2.2.2.2.2.2.2.2.2.2.2.2.1))).trans (hHeld.2.2.2.2.2.2.2.2.2.2.2.2.2.2.2.2.2.2.2.2.2.2.2.2.2.2.2.2.2.2.2.2.2.1)
 have HS34_ := (hb.cell (World.block_lt_of_cell? _ _ (hHeld.2.2.2.2.2.2.2.2.2.2.2.2.2.2.2.2.2.2.2.2.2.2.2.2.2.2.2.2.2.2.2.2.2.2.1))).trans (hHeld.2.2.2.2.2.2.2.2.2.2.2.2.2.2.2.2.2.2.2.2.2.2.2.2.2.2.2.2.2.2.2.2.2.2.1)
 have HS35_ := (hb.cell (World.block_lt_of_cell? _ _ (hHeld.2.2.2.2.2.2.2.2.2.2.2.2.2.2.2.2.2.2.2.2.2.2.2.2.2.2.2.2.2.2.2.2.2.2.2.1))).trans (hHeld.2.2.2.2.2.2.2.2.2.2.2.2.2.2.2.2.2.2.2.2.2.2.2.2.2.2.2.2.2.2.2.2.2.2.2.1)
 have HS36_ := (hb.cell (World.block_lt_of_cell? _ _ (hHeld.2.2.2.2.2.2.2.2.2.2.2.2.2.2.2.2.2.2.2.2.2.2.2.2.2.2.2.2.2.2.2.2.2.2.2.2.1))).trans (hHeld.2.2.2.2.2.2.2.2.2.2.2.2.2.2.2.2.2.2.2.2.2.2.2.2.2.2.2.2.2.2.2.2.2.2.2.2.1)
 have HS37_ := (hb.cell (World.block_lt_of_cell? _ _ (hHeld.2.2.2.2.2.2.2.2.2.2.2.2.2.2.2.2.2.2.2.2.2.2.2.2.2.2.2.2.2.2.2.2.2.2.2.2.2.1))).trans (hHeld.2.2.2.2.2.2.2.2.2.2.2.2.2.2.2.2.2.2.2.2.2.2.2.2.2.2.2.2.2.2.2.2.2.2.2.2.2.1)
 have HS38_ := (hb.cell (World.block_lt_of_cell? _ _ (hHeld.2.2.2.2.2.2.2.2.2.2.2.2.2.2.2.2.2.2.2.2.2.2.2.2.2.2.2.2.2.2.2.2.2.2.2.2.2.2.1))).trans (hHeld.2.2.2.2.2.2.2.2.2.2.2.2.2.2.2.2.2.2.2.2.2.2.2.2.2.2.2.2.2.2.2.2.2.2.2.2.2.2.1)
 have HS39_ := (hb.cell (World.block_lt_of_cell? _ _ (hHeld.2.2.2.2.2.2.2.2.2.2.2.2.2.2.2.2.2.2.2.2.2.2.2.2.2.2.2.2.2.2.2.2.2.2.2.2.2.2.2.1))).trans (hHeld.2.2.2.2.2.2.2.2.2.2.2.2.2.2.2.2.2.2.2.2.2.2.2.2.2.2.2.2.2.2.2.2.2.2.2.2.2.2.2.1)
 have HS40_ := (hb.cell (World.block_lt_of_cell? _ _ (hHeld.2.2.2.2.2.2.2.2.2.2.2.2.2.2.2.2.2.2.2.2.2.2.2.2.2.2.2.2.2.2.2.2.2.2.2.2.2.2.2.2.1))).trans (hHeld.2.2.2.2.2.2.2.2.2.2.2.2.2.2.2.2.2.2.2.2.2.2.2.2.2.2.2.2.2.2.2.2.2.2.2.2.2.2.2.2.1)
 have HS41_ := (hb.cell (World.block_lt_of_cell? _ _ (hHeld.2.2.2.2.2.2.2.2.2.2.2.2.2.2.2.2.2.2.2.2.2.2.2.2.2.2.2.2.2.2.2.2.2.2.2.2.2.2.2.2.2.1))).trans (hHeld.2.2.2.2.2.2.2.2.2.2.2.2.2.2.2.2.2.2.2.2.2.2.2.2.2.2.2.2.2.2.2.2.2.2.2.2.2.2.2.2.2.1)
 have HS42_ := (hb.cell (World.block_lt_of_cell? _ _ (hHeld.2.2.2.2.2.2.2.2.2.2.2.2.2.2.2.2.2.2.2.2.2.2.2.2.2.2.2.2.2.2.2.2.2.2.2.2.2.2.2.2.2.2.1))).trans (hHeld.2.2.2.2.2.2.2.2.2.2.2.2.2.2.2.2.2.2.2.2.2.2.2.2.2.2.2.2.2.2.2.2.2.2.2.2.2.2.2.2.2.2.1)
 have HS43_ := (hb.cell (World.block_lt_of_cell? _ _ (hHeld.2.2.2.2.2.2.2.2.2.2.2.2.2.2.2.2.2.2.2.2.2.2.2.2.2.2.2.2.2.2.2.2.2.2.2.2.2.2.2.2.2.2.2.1))).trans (hHeld.2.2.2.2.2.2.2.2.2.2.2.2.2.2.2.2.2.2.2.2.2.2.2.2.2.2.2.2.2.2.2.2.2.2.2.2.2.2.2.2.2.2.2.1)
 have HS44_ := (hb.cell (World.block_lt_of_cell? _ _ (hHeld.2.2.2.2.2.2.2.2.2.2.2.2.2.2.2.2.2.2.2.2.2.2.2.2.2.2.2.2.2.2.2.2.2.2.2.2.2.2.2.2.2.2.2.2.1))).trans (hHeld.2.2.2.2.2.2.2.2.2.2.2.2.2.2.2.2.2.2.2.2.2.2.2.2.2.2.2.2.2.2.2.2.2.2.2.2.2.2.2.2.2.2.2.2.1)
 have HS45_ := (hb.cell (World.block_lt_of_cell? _ _ (hHeld.2.2.2.2.2.2.2.2.2.2.2.2.2.2.2.2.2.2.2.2.2.2.2.2.2.2.2.2.2.2.2.2.2.2.2.2.2.2.2.2.2.2.2.2.2.1))).trans (hHeld.2.2.2.2.2.2.2.2.2.2.2.2.2.2.2.2.2.2.2.2.2.2.2.2.2.2.2.2.2.2.2.2.2.2.2.2.2.2.2.2.2.2.2.2.2.1)
 have HS46_ := (hb.cell (World.block_lt_of_cell? _ _ (hHeld.2.2.2.2.2.2.2.2.2.2.2.2.2.2.2.2.2.2.2.2.2.2.2.2.2.2.2.2.2.2.2.2.2.2.2.2.2.2.2.2.2.2.2.2.2.2.1))).trans (hHeld.2.2.2.2.2.2.2.2.2.2.2.2.2.2.2.2.2.2.2.2.2.2.2.2.2.2.2.2.2.2.2.2.2.2.2.2.2.2.2.2.2.2.2.2.2.2.1)
 have HS47_ := (hb.cell (World.block_lt_of_cell? _ _ (hHeld.2.2.2.2.2.2.2.2.2.2.2.2.2.2.2.2.2.2.2.2.2.2.2.2.2.2.2.2.2.2.2.2.2.2.2.2.2.2.2.2.2.2.2.2.2.2.2.1))).trans (hHeld.2.2.2.2.2.2.2.2.2.2.2.2.2.2.2.2.2.2.2.2.2.2.2.2.2.2.2.2.2.2.2.2.2.2.2.2.2.2.2.2.2.2.2.2.2.2.2.1)
 have HS48_ := (hb.cell (World.block_lt_of_cell? _ _ (hHeld.2.2.2.2.2.2.2.2.2.2.2.2.2.2.2.2.2.2.2.2.2.2.2.2.2.2.2.2.2.2.2.2.2.2.2.2.2.2.2.2.2.2.2.2.2.2.2.2.1))).trans (hHeld.2.2.2.2.2.2.2.2.2.2.2.2.2.2.2.2.2.2.2.2.2.2.2.2.2.2.2.2.2.2.2.2.2.2.2.2.2.2.2.2.2.2.2.2.2.2.2.2.1)
 have HS49_ := (hb.cell (World.block_lt_of_cell? _ _ (hHeld.2.2.2.2.2.2.2.2.2.2.2.2.2.2.2.2.2.2.2.2.2.2.2.2.2.2.2.2.2.2.2.2.2.2.2.2.2.2.2.2.2.2.2.2.2.2.2.2.2.1))).trans (hHeld.2.2.2.2.2.2.2.2.2.2.2.2.2.2.2.2.2.2.2.2.2.2.2.2.2.2.2.2.2.2.2.2.2.2.2.2.2.2.2.2.2.2.2.2.2.2.2.2.2.1)
 have HS50_ := (hb.cell (World.block_lt_of_cell? _ _ (hHeld.2.2.2.2.2.2.2.2.2.2.2.2.2.2.2.2.2.2.2.2.2.2.2.2.2.2.2.2.2.2.2.2.2.2.2.2.2.2.2.2.2.2.2.2.2.2.2.2.2.2.1))).trans (hHeld.2.2.2.2.2.2.2.2.2.2.2.2.2.2.2.2.2.2.2.2.2.2.2.2.2.2.2.2.2.2.2.2.2.2.2.2.2.2.2.2.2.2.2.2.2.2.2.2.2.2.1)
 have HS51_ := (hb.cell (World.block_lt_of_cell? _ _ (hHeld.2.2.2.2.2.2.2.2.2.2.2.2.2.2.2.2.2.2.2.2.2.2.2.2.2.2.2.2.2.2.2.2.2.2.2.2.2.2.2.2.2.2.2.2.2.2.2.2.2.2.2.1))).trans (hHeld.2.2.2.2.2.2.2.2.2.2.2.2.2.2.2.2.2.2.2.2.2.2.2.2.2.2.2.2.2.2.2.2.2.2.2.2.2.2.2.2.2.2.2.2.2.2.2.2.2.2.2.1)
 have HS52_ := (hb.cell (World.block_lt_of_cell? _ _ (hHeld.2.2.2.2.2.2.2.2.2.2.2.2.2.2.2.2.2.2.2.2.2.2.2.2.2.2.2.2.2.2.2.2.2.2.2.2.2.2.2.2.2.2.2.2.2.2.2.2.2.2.2.2.1))).trans (hHeld.2.2.2.2.2.2.2.2.2.2.2.2.2.2.2.2.2.2.2.2.2.2.2.2.2.2.2.2.2.2.2.2.2.2.2.2.2.2.2.2.2.2.2.2.2.2.2.2.2.2.2.2.1)
 have HS53_ := (hb.cell (World.block_lt_of_cell? _ _ (hHeld.2.2.2.2.2.2.2.2.2.2.2.2.2.2.2.2.2.2.2.2.2.2.2.2.2.2.2.2.2.2.2.2.2.2.2.2.2.2.2.2.2.2.2.2.2.2.2.2.2.2.2.2.2))).trans (hHeld.2.2.2.2.2.2.2.2.2.2.2.2.2.2.2.2.2.2.2.2.2.2.2.2.2.2.2.2.2.2.2.2.2.2.2.2.2.2.2.2.2.2.2.2.2.2.2.2.2.2.2.2.2)
 refine ⟨_, rfl, ?_⟩
 have n0_ := Aside0.mk (Kd.R_below (rq HO_11.out) hb)
 have n1_ := Aside0.mk (blk_below (g := gb172) (o := .cells #[.int .i64 a0_0, .int .i64 a0_1, .int .i64 a0_2, .int .i64 a0_3, .int .i64 a0_4, .int .i64 a0_5, .int .i64 a0_6, .int .i64 a0_7, .int .i64 a0_8] 39 (0, 0)) (kq BK172.out) hb)
 have n2_ := Aside0.mk (blk_below (g := gb173) (o := .cells #[.int .i64 a1_0, .int .i64 a1_1, .int .i64 a1_2, .int .i64 a1_3, .int .i64 a1_4, .int .i64 a1_5, .int .i64 a1_6, .int .i64 a1_7, .int .i64 a1_8] 39 (0, 0)) (kq BK173.out) hb)
 have n3_ := Aside0.mk (blk_below (g := gb174) (o := .cells #[.int .i64 a2_0, .int .i64 a2_1, .int .i64 a2_2, .int .i64 a2_3, .int .i64 a2_4, .int .i64 a2_5, .int .i64 a2_6, .int .i64 a2_7, .int .i64 a2_8] 39 (0, 0)) (kq BK174.out) hb)
 have n4_ := Aside0.mk (below_step (bq3 HB.out GE172.out GE173.out GE174.out) hb)
 clear HO_11
 clear BK172
 clear BK173
 clear BK174
 clear HB
 have HO_11 := n0_
 have BK172 := n1_
 have BK173 := n2_
 have BK174 := n3_
 have HB := n4_
 clear n0_ n1_ n2_ n3_ n4_
 (try clear hb)
 (try clear hb2)
 (try clear hk)
 (try clear hi)
 refine hK.out _ _ ⟨HS0_, HS1_, HS2_, HS3_, HS4_, HS5_, HS6_, HS7_, HS8_, HS9_, HS10_, HS11_, HS12_, HS13_, HS14_, HS15_, HS16_, HS17_, HS18_, HS19_, HS20_, HS21_, HS22_, HS23_, HS24_, HS25_, HS26_, HS27_, HS28_, HS29_, HS30_, HS31_, HS32_, HS33_, HS34_, HS35_, HS36_, HS37_, HS38_, HS39_, HS40_, HS41_, HS42_, HS43_, HS44_, HS45_, HS46_, HS47_, HS48_, HS49_, HS50_, HS51_, HS52_, HS53_⟩ (fun hHeld => ?_)
 clear hK K
 refine norm_ (a' := ?_) ?_ ?_
 rotate_left
 ·(
 show Act.put _ (some 67) _ = _
 simp only [Act.put, List.setIfInBounds_toArray, List.set_cons_zero, List.set_cons_succ, i64_w, i32_w]
 rfl)
 refine pure_ (i := 20) (N := some 68) (v := ?_) (a' := ?_) #[true, true, true, true, true, true, true, true, true, true, true, true, true, true, true, true, true, true, true, true, true, false, false, false, false, false, false, false, false, false, false, false, false, false] rfl rfl (any_of HT_.out (by kernel_rfl)) (fun _ _ _ h => h) (Or.inl ⟨by rfl, ?_⟩) ?_ ?_
 rotate_left
 ·(
 intro w'
 go_simp
 with_reducible rfl)
 rotate_left
 ·(
 simp only [Act.put, List.setIfInBounds_toArray, List.set_cons_zero, List.set_cons_succ, i64_w, i32_w]
 rfl)
 refine pure_ (i := 21) (N := some 69) (v := ?_) (a' := ?_) #[true, true, true, true, true, true, true, true, true, true, true, true, true, true, true, true, true, true, true, true, true, true, false, false, false, false, false, false, false, false, false, false, false, false] rfl rfl (any_of HT_.out (by kernel_rfl)) (fun _ _ _ h => h) (Or.inl ⟨by rfl, ?_⟩) ?_ ?_
 rotate_left
 ·(
 intro w'
 go_simp
 with_reducible rfl)
 rotate_left
 ·(
 simp only [Act.put, List.setIfInBounds_toArray, List.set_cons_zero, List.set_cons_succ, i64_w, i32_w]
 rfl)
 refine pure_ (i := 22) (N := some 70) (v := ?_) (a' := ?_) #[true, true, true, true, true, true, true, true, true, true, true, true, true, true, true, true, true, true, true, true, true, true, true, false, false, false, false, false, false, false, false, false, false, false] rfl rfl (any_of HT_.out (by kernel_rfl)) (fun _ _ _ h => h) (Or.inl ⟨by rfl, ?_⟩) ?_ ?_
 rotate_left
 ·(
 intro w'
 go_simp
 with_reducible rfl)
 rotate_left
 ·(
 simp only [Act.put, List.setIfInBounds_toArray, List.set_cons_zero, List.set_cons_succ, i64_w, i32_w]
 rfl)
 refine pure_ (i := 23) (N := some 71) (v := ?_) (a' := ?_) #[true, true, true, true, true, true, true, true, true, true, true, true, true, true, true, true, true, true, true, true, true, true, true, true, false, false, false, false, false, false, false, false, false, false] rfl rfl (any_of HT_.out (by kernel_rfl)) (fun _ _ _ h => h) (Or.inl ⟨by rfl, ?_⟩) ?_ ?_
 rotate_left
 ·(
 intro w'
 go_simp
 with_reducible rfl)
 rotate_left
 ·(
 simp only [Act.put, List.setIfInBounds_toArray, List.set_cons_zero, List.set_cons_succ, i64_w, i32_w]
 rfl)
 refine pure_ (i := 24) (N := some 72) (v := ?_) (a' := ?_) #[true, true, true, true, true, true, true, true, true, true, true, true, true, true, true, true, true, true, true, true, true, true, true, true, true, false, false, false, false, false, false, false, false, false] rfl rfl (any_of HT_.out (by kernel_rfl)) (fun _ _ _ h => h) (Or.inl ⟨by rfl, ?_⟩) ?_ ?_
 rotate_left
 ·(
 intro w'
 go_simp
 with_reducible rfl)
 rotate_left
 ·(
 simp only [Act.put, List.setIfInBounds_toArray, List.set_cons_zero, List.set_cons_succ, i64_w, i32_w]
 rfl)
 refine pure_ (i := 25) (N := some 73) (v := ?_) (a' := ?_) #[true, true, true, true, true, true, true, true, true, true, true, true, true, true, true, true, true, true, true, true, true, true, true, true, true, true, false, false, false, false, false, false, false, false] rfl rfl (any_of HT_.out (by kernel_rfl)) (fun _ _ _ h => h) (Or.inl ⟨by rfl, ?_⟩) ?_ ?_
 rotate_left
 ·(
 intro w'
 go_simp
 with_reducible rfl)
 rotate_left
 ·(
 simp only [Act.put, List.setIfInBounds_toArray, List.set_cons_zero, List.set_cons_succ, i64_w, i32_w]
 rfl)
 refine pure_ (i := 27) (N := some 75) (v := ?_) (a' := ?_) #[true, true, true, true, true, true, true, true, true, true, true, true, true, true, true, true, true, true, true, true, true, true, true, true, true, true, false, true, false, false, false, false, false, false] rfl rfl (any_of HT_.out (by kernel_rfl)) (fun _ _ _ h => h) (Or.inl ⟨by rfl, ?_⟩) ?_ ?_
 rotate_left
 ·(
 intro w'
 go_simp
 with_reducible rfl)
 rotate_left
 ·(
 simp only [Act.put, List.setIfInBounds_toArray, List.set_cons_zero, List.set_cons_succ, i64_w, i32_w]
 rfl)
 refine pure_ (i := 28) (N := some 76) (v := ?_) (a' := ?_) #[true, true, true, true, true, true, true, true, true, true, true, true, true, true, true, true, true, true, true, true, true, true, true, true, true, true, false, true, true, false, false, false, false, false] rfl rfl (any_of HT_.out (by kernel_rfl)) (fun _ _ _ h => h) (Or.inl ⟨by rfl, ?_⟩) ?_ ?_
 rotate_left
 ·(
 intro w'
 go_simp
 with_reducible rfl)
 rotate_left
 ·(
 simp only [Act.put, List.setIfInBounds_toArray, List.set_cons_zero, List.set_cons_succ, i64_w, i32_w]
 rfl)
 refine pure_ (i := 29) (N := some 77) (v := ?_) (a' := ?_) #[true, true, true, true, true, true, true, true, true, true, true, true, true, true, true, true, true, true, true, true, true, true, true, true, true, true, false, true, true, true, false, false, false, false] rfl rfl (any_of HT_.out (by kernel_rfl)) (fun _ _ _ h => h) (Or.inl ⟨by rfl, ?_⟩) ?_ ?_
 rotate_left
 ·(
 intro w'
 go_simp
 with_reducible rfl)
 rotate_left
 ·(
 simp only [Act.put, List.setIfInBounds_toArray, List.set_cons_zero, List.set_cons_succ, i64_w, i32_w]
 rfl)
 refine take_ (i := 26) (N := some 74) (v := ?_) (a' := ?_) #[true, true, true, true, true, true, true, true, true, true, true, true, true, true, true, true, true, true, true, true, true, true, true, true, true, true, true, true, true, true, false, false, false, false] rfl rfl (take_ofW HT_.out HW_.out (by kernel_rfl)) (fun _ _ _ h => h) (Or.inl ⟨by rfl, ?_⟩) hHeld ?_ ?_
 rotate_left
 ·(
 rintro w' ⟨s0, s1, s2, s3, s4, s5, s6, s7, s8, s9, s10, s11, s12, s13, s14, s15, s16, s17, s18, s19, s20, s21, s22, s23, s24, s25, s26, s27, s28, s29, s30, s31, s32, s33, s34, s35, s36, s37, s38, s39, s40, s41, s42, s43, s44, s45, s46, s47, s48, s49, s50, s51, s52, s53⟩
 go_simp
 with_reducible rfl)
 rotate_left
 ·(
 simp only [Act.put, List.setIfInBounds_toArray, List.set_cons_zero, List.set_cons_succ, i64_w, i32_w]
 rfl)
 refine take_ (i := 30) (N := some 78) (v := ?_) (a' := ?_) #[true, true, true, true, true, true, true, true, true, true, true, true, true, true, true, true, true, true, true, true, true, true, true, true, true, true, true, true, true, true, true, false, false, false] rfl rfl (take_ofW HT_.out HW_.out (by kernel_rfl)) (fun _ _ _ h => h) (Or.inl ⟨by rfl, ?_⟩) hHeld ?_ ?_
 rotate_left
 ·(
 rintro w' ⟨s0, s1, s2, s3, s4, s5, s6, s7, s8, s9, s10, s11, s12, s13, s14, s15, s16, s17, s18, s19, s20, s21, s22, s23, s24, s25, s26, s27, s28, s29, s30, s31, s32, s33, s34, s35, s36, s37, s38, s39, s40, s41, s42, s43, s44, s45, s46, s47, s48, s49, s50, s51, s52, s53⟩
 go_simp
 with_reducible rfl)
 rotate_left
 ·(
 simp only [Act.put, List.setIfInBounds_toArray, List.set_cons_zero, List.set_cons_succ, i64_w, i32_w]
 rfl)
 refine one_ (i := 31) (N := some 79) #[true, true, true, true, true, true, true, true, true, true, true, true, true, true, true, true, true, true, true, true, true, true, true, true, true, true, true, true, true, true, true, true, false, false] rfl rfl (one_of HT_.out (by kernel_rfl)) (by decide) (fun K hK => ?_)
 refine goes_ Try.func21 (by kernel_rfl) rfl #[.agg #[.int .i64 ((rd_T39 y194 x12_1).f0), .int .i64 ((rd_T39 y194 x12_1).f1), .int .i64 ((rd_T39 y194 x12_1).f2.f0), .int .i64 ((rd_T39 y194 x12_1).f2.f1), .int .i64 ((rd_T39 y194 x12_1).f2.f2), .int .i64 ((rd_T39 y194 x12_1).f2.f3.f0), .int .i64 ((rd_T39 y194 x12_1).f2.f3.f1), .int .i64 ((rd_T39 y194 x12_1).f2.f4), .int .i64 ((rd_T39 y194 x12_1).f2.f5)], .agg #[.int .i64 ((rd_T39 y194 x14_3).f0), .int .i64 ((rd_T39 y194 x14_3).f1), .int .i64 ((rd_T39 y194 x14_3).f2.f0), .int .i64 ((rd_T39 y194 x14_3).f2.f1), .int .i64 ((rd_T39 y194 x14_3).f2.f2), .int .i64 ((rd_T39 y194 x14_3).f2.f3.f0), .int .i64 ((rd_T39 y194 x14_3).f2.f3.f1), .int .i64 ((rd_T39 y194 x14_3).f2.f4), .int .i64 ((rd_T39 y194 x14_3).f2.f5)]] (by first | rfl | (refine wanted_on rfl rfl rfl ?_; first | assumption | (simp [*]; done))) rfl rfl (by (try simp only [List.map_toArray, List.map_cons, List.map_nil]); first | done | rfl | (simp only [List.length_drop, List.length_take]; rfl)) ?_
 with_reducible refine (determinant_Compare.calls k3 ((rd_T39 y194 x12_1).f0) ((rd_T39 y194 x12_1).f1) ((rd_T39 y194 x12_1).f2.f0) ((rd_T39 y194 x12_1).f2.f1) ((rd_T39 y194 x12_1).f2.f2) ((rd_T39 y194 x12_1).f2.f3.f0) ((rd_T39 y194 x12_1).f2.f3.f1) ((rd_T39 y194 x12_1).f2.f4) ((rd_T39 y194 x12_1).f2.f5) ((rd_T39 y194 x14_3).f0) ((rd_T39 y194 x14_3).f1) ((rd_T39 y194 x14_3).f2.f0) ((rd_T39 y194 x14_3).f2.f1) ((rd_T39 y194 x14_3).f2.f2) ((rd_T39 y194 x14_3).f2.f3.f0) ((rd_T39 y194 x14_3).f2.f3.f1) ((rd_T39 y194 x14_3).f2.f4) ((rd_T39 y194 x14_3).f2.f5) t205 _ A32.out).mono ?_
 rintro e w37 ⟨rfl, hb⟩
 have HS0_ := (hb.cell (World.block_lt_of_cell? _ _ (hHeld.1))).trans (hHeld.1)
 have HS1_ := (hb.cell (World.block_lt_of_cell? _ _ (hHeld.2.1))).trans (hHeld.2.1)
 have HS2_ := (hb.cell (World.block_lt_of_cell? _ _ (hHeld.2.2.1))).trans (hHeld.2.2.1)
 have HS3_ := (hb.cell (World.block_lt_of_cell? _ _ (hHeld.2.2.2.1))).trans (hHeld.2.2.2.1)
 have HS4_ := (hb.cell (World.block_lt_of_cell? _ _ (hHeld.2.2.2.2.1))).trans (hHeld.2.2.2.2.1)
 have HS5_ := (hb.cell (World.block_lt_of_cell? _ _ (hHeld.2.2.2.2.2.1))).trans (hHeld.2.2.2.2.2.1)
 have HS6_ := (hb.cell (World.block_lt_of_cell? _ _ (hHeld.2.2.2.2.2.2.1))).trans (hHeld.2.2.2.2.2.2.1)
 have HS7_ := (hb.cell (World.block_lt_of_cell? _ _ (hHeld.2.2.2.2.2.2.2.1))).trans (hHeld.2.2.2.2.2.2.2.1)
 have HS8_ := (hb.cell (World.block_lt_of_cell? _ _ (hHeld.2.2.2.2.2.2.2.2.1))).trans (hHeld.2.2.2.2.2.2.2.2.1)
 have HS9_ := (hb.cell (World.block_lt_of_cell? _ _ (hHeld.2.2.2.2.2.2.2.2.2.1))).trans (hHeld.2.2.2.2.2.2.2.2.2.1)
 have HS10_ := (hb.cell (World.block_lt_of_cell? _ _ (hHeld.2.2.2.2.2.2.2.2.2.2.1))).trans (hHeld.2.2.2.2.2.2.2.2.2.2.1)
 have HS11_ := (hb.cell (World.block_lt_of_cell? _ _ (hHeld.2.2.2.2.2.2.2.2.2.2.2.1))).trans (hHeld.2.2.2.2.2.2.2.2.2.2.2.1)
 have HS12_ := (hb.cell (World.block_lt_of_cell? _ _ (hHeld.2.2.2.2.2.2.2.2.2.2.2.2.1))).trans (hHeld.2.2.2.2.2.2.2.2.2.2.2.2.1)
 have HS13_ := (hb.cell (World.block_lt_of_cell? _ _ (hHeld.2.2.2.2.2.2.2.2.2.2.2.2.2.1))).trans (hHeld.2.2.2.2.2.2.2.2.2.2.2.2.2.1)
 have HS14_ := (hb.cell (World.block_lt_of_cell? _ _ (hHeld.2.2.2.2.2.2.2.2.2.2.2.2.2.2.1))).trans (hHeld.2.2.2.2.2.2.2.2.2.2.2.2.2.2.1)
 have HS15_ := (hb.cell (World.block_lt_of_cell? _ _ (hHeld.2.2.2.2.2.2.2.2.2.2.2.2.2.2.2.1))).trans (hHeld.2.2.2.2.2.2.2.2.2.2.2.2.2.2.2.1)
 have HS16_ := (hb.cell (World.block_lt_of_cell? _ _ (hHeld.2.2.2.2.2.2.2.2.2.2.2.2.2.2.2.2.1))).trans (hHeld.2.2.2.2.2.2.2.2.2.2.2.2.2.2.2.2.1)
 have HS17_ := (hb.cell (World.block_lt_of_cell? _ _ (hHeld.2.2.2.2.2.2.2.2.2.2.2.2.2.2.2.2.2.1))).trans (hHeld.2.2.2.2.2.2.2.2.2.2.2.2.2.2.2.2.2.1)
 have HS18_ := (hb.cell (World.block_lt_of_cell? _ _ (hHeld.2.2.2.2.2.2.2.2.2.2.2.2.2.2.2.2.2.2.1))).trans (hHeld.2.2.2.2.2.2.2.2.2.2.2.2.2.2.2.2.2.2.1)
 have HS19_ := (hb.cell (World.block_lt_of_cell? _ _ (hHeld.2.2.2.2.2.2.2.2.2.2.2.2.2.2.2.2.2.2.2.1))).trans (hHeld.2.2.2.2.2.2.2.2.2.2.2.2.2.2.2.2.2.2.2.1)
 have HS20_ := (hb.cell (World.block_lt_of_cell? _ _ (hHeld.2.2.2.2.2.2.2.2.2.2.2.2.2.2.2.2.2.2.2.2.1))).trans (hHeld.2.2.2.2.2.2.2.2.2.2.2.2.2.2.2.2.2.2.2.2.1)
 have HS21_ := (hb.cell (World.block_lt_of_cell? _ _ (hHeld.2.2.2.2.2.2.2.2.2.2.2.2.2.2.2.2.2.2.2.2.2.1))).trans (hHeld.2.2.2.2.2.2.2.2.2.2.2.2.2.2.2.2.2.2.2.2.2.1)
 have HS22_ := (hb.cell (World.block_lt_of_cell? _ _ (hHeld.2.2.2.2.2.2.2.2.2.2.2.2.2.2.2.2.2.2.2.2.2.2.1))).trans (hHeld.2.2.2.2.2.2.2.2.2.2.2.2.2.2.2.2.2.2.2.2.2.2.1)
 have HS23_ := (hb.cell (World.block_lt_of_cell? _ _ (hHeld.2.2.2.2.2.2.2.2.2.2.2.2.2.2.2.2.2.2.2.2.2.2.2.1))).trans (hHeld.2.2.2.2.2.2.2.2.2.2.2.2.2.2.2.2.2.2.2.2.2.2.2.1)
 have HS24_ := (hb.cell (World.block_lt_of_cell? _ _ (hHeld.2.2.2.2.2.2.2.2.2.2.2.2.2.2.2.2.2.2.2.2.2.2.2.2.1))).trans (hHeld.2.2.2.2.2.2.2.2.2.2.2.2.2.2.2.2.2.2.2.2.2.2.2.2.1)
 have HS25_ := (hb.cell (World.block_lt_of_cell? _ _ (hHeld.2.2.2.2.2.2.2.2.2.2.2.2.2.2.2.2.2.2.2.2.2.2.2.2.2.1))).trans (hHeld.2.2.2.2.2.2.2.2.2.2.2.2.2.2.2.2.2.2.2.2.2.2.2.2.2.1)
 have HS26_ := (hb.cell (World.block_lt_of_cell? _ _ (hHeld.2.2.2.2.2.2.2.2.2.2.2.2.2.2.2.2.2.2.2.2.2.2.2.2.2.2.1))).trans (hHeld.2.2.2.2.2.2.2.2.2.2.2.2.2.2.2.2.2.2.2.2.2.2.2.2.2.2.1)
 have HS27_ := (hb.cell (World.block_lt_of_cell? _ _ (hHeld.2.2.2.2.2.2.2.2.2.2.2.2.2.2.2.2.2.2.2.2.2.2.2.2.2.2.2.1))).trans (hHeld.2.2.2.2.2.2.2.2.2.2.2.2.2.2.2.2.2.2.2.2.2.2.2.2.2.2.2.1)
 have HS28_ := (hb.cell (World.block_lt_of_cell? _ _ (hHeld.2.2.2.2.2.2.2.2.2.2.2.2.2.2.2.2.2.2.2.2.2.2.2.2.2.2.2.2.1))).trans (hHeld.2.2.2.2.2.2.2.2.2.2.2.2.2.2.2.2.2.2.2.2.2.2.2.2.2.2.2.2.1)
 have HS29_ := (hb.cell (World.block_lt_of_cell? _ _ (hHeld.2.2.2.2.2.2.2.2.2.2.2.2.2.2.2.2.2.2.2.2.2.2.2.2.2.2.2.2.2.1))).trans (hHeld.2.2.2.2.2.2.2.2.2.2.2.2.2.2.2.2.2.2.2.2.2.2.2.2.2.2.2.2.2.1)
 have HS30_ := (hb.cell (World.block_lt_of_cell? _ _ (hHeld.2.2.2.2.2.2.2.2.2.2.2.2.2.2.2.2.2.2.2.2.2.2.2.2.2.2.2.2.2.2.1))).trans (hHeld.2.2.2.2.2.2.2.2.2.2.2.2.2.2.2.2.2.2.2.2.2.2.2.2.2.2.2.2.2.2.1)
 have HS31_ := (hb.cell (World.block_lt_of_cell? _ _ (hHeld.2.2.2.2.2.2.2.2.2.2.2.2.2.2.2.2.2.2.2.2.2.2.2.2.2.2.2.2.2.2.2.1))).trans (hHeld.2.2.2.2.2.2.2.2.2.2.2.2.2.2.2.2.2.2.2.2.2.2.2.2.2.2.2.2.2.2.2.1)
 have HS32_ := (hb.cell (World.block_lt_of_cell? _ _ (hHeld.2.2.2.2.2.2.2.2.2.2.2.2.2.2.2.2.2.2.2.2.2.2.2.2.2.2.2.2.2.2.2.2.1))).trans (hHeld.2.2.2.2.2.2.2.2.2.2.2.2.2.2.2.2.2.2.2.2.2.2.2.2.2.2.2.2.2.2.2.2.1)
 have HS33_ := (hb.cell (World.block_lt_of_cell? _ _ (hHeld.2.2.2.2.2.2.2.2.2.2.2.2.2.2.2.2.2.2.2.2.2.2.2.2.2.2.2.2.2.2.2.2.2.1))).trans (hHeld.2.2.2.2.2.2.2.2.2.2.2.2.2.2.2.2.2.2.2.2.2.2.2.2.2.2.2.2.2.2.2.2.2.1)
 have HS34_ := (hb.cell (World.block_lt_of_cell? _ _ (hHeld.2.2.2.2.2.2.2.2.2.2.2.2.2.2.2.2.2.2.2.2.2.2.2.2.2.2.2.2.2.2.2.2.2.2.1))).trans (hHeld.2.2.2.2.2.2.2.2.2.2.2.2.2.2.2.2.2.2.2.2.2.2.2.2.2.2.2.2.2.2.2.2.2.2.1)
 have HS35_ := (hb.cell (World.block_lt_of_cell? _ _ (hHeld.2.2.2.2.2.2.2.2.2.2.2.2.2.2.2.2.2.2.2.2.2.2.2.2.2.2.2.2.2.2.2.2.2.2.2.1))).trans (hHeld.2.2.2.2.2.2.2.2.2.2.2.2.2.2.2.2.2.2.2.2.2.2.2.2.2.2.2.2.2.2.2.2.2.2.2.1)
 have HS36_ := (hb.cell (World.block_lt_of_cell? _ _ (hHeld.2.2.2.2.2.2.2.2.2.2.2.2.2.2.2.2.2.2.2.2.2.2.2.2.2.2.2.2.2.2.2.2.2.2.2.2.1))).trans (hHeld.2.2.2.2.2.2.2.2.2.2.2.2.2.2.2.2.2.2.2.2.2.2.2.2.2.2.2.2.2.2.2.2.2.2.2.2.1)
 have HS37_ := (hb.cell (World.block_lt_of_cell? _ _ (hHeld.2.2.2.2.2.2.2.2.2.2.2.2.2.2.2.2.2.2.2.2.2.2.2.2.2.2.2.2.2.2.2.2.2.2.2.2.2.1))).trans (hHeld.2.2.2.2.2.2.2.2.2.2.2.2.2.2.2.2.2.2.2.2.2.2.2.2.2.2.2.2.2.2.2.2.2.2.2.2.2.1)
 have HS38_ := (hb.cell (World.block_lt_of_cell? _ _ (hHeld.2.2.2.2.2.2.2.2.2.2.2.2.2.2.2.2.2.2.2.2.2.2.2.2.2.2.2.2.2.2.2.2.2.2.2.2.2.2.1))).trans (hHeld.2.2.2.2.2.2.2.2.2.2.2.2.2.2.2.2.2.2.2.2.2.2.2.2.2.2.2.2.2.2.2.2.2.2.2.2.2.2.1)
 have HS39_ := (hb.cell (World.block_lt_of_cell? _ _ (hHeld.2.2.2.2.2.2.2.2.2.2.2.2.2.2.2.2.2.2.2.2.2.2.2.2.2.2.2.2.2.2.2.2.2.2.2.2.2.2.2.1))).trans (hHeld.2.2.2.2.2.2.2.2.2.2.2.2.2.2.2.2.2.2.2.2.2.2.2.2.2.2.2.2.2.2.2.2.2.2.2.2.2.2.2.1)
 have HS40_ := (hb.cell (World.block_lt_of_cell? _ _ (hHeld.2.2.2.2.2.2.2.2.2.2.2.2.2.2.2.2.2.2.2.2.2.2.2.2.2.2.2.2.2.2.2.2.2.2.2.2.2.2.2.2.1))).trans (hHeld.2.2.2.2.2.2.2.2.2.2.2.2.2.2.2.2.2.2.2.2.2.2.2.2.2.2.2.2.2.2.2.2.2.2.2.2.2.2.2.2.1)
 have HS41_ := (hb.cell (World.block_lt_of_cell? _ _ (hHeld.2.2.2.2.2.2.2.2.2.2.2.2.2.2.2.2.2.2.2.2.2.2.2.2.2.2.2.2.2.2.2.2.2.2.2.2.2.2.2.2.2.1))).trans (hHeld.2.2.2.2.2.2.2.2.2.2.2.2.2.2.2.2.2.2.2.2.2.2.2.2.2.2.2.2.2.2.2.2.2.2.2.2.2.2.2.2.2.1)
 have HS42_ := (hb.cell (World.block_lt_of_cell? _ _ (hHeld.2.2.2.2.2.2.2.2.2.2.2.2.2.2.2.2.2.2.2.2.2.2.2.2.2.2.2.2.2.2.2.2.2.2.2.2.2.2.2.2.2.2.1))).trans (hHeld.2.2.2.2.2.2.2.2.2.2.2.2.2.2.2.2.2.2.2.2.2.2.2.2.2.2.2.2.2.2.2.2.2.2.2.2.2.2.2.2.2.2.1)
 have HS43_ := (hb.cell (World.block_lt_of_cell? _ _ (hHeld.2.2.2.2.2.2.2.2.2.2.2.2.2.2.2.2.2.2.2.2.2.2.2.2.2.2.2.2.2.2.2.2.2.2.2.2.2.2.2.2.2.2.2.1))).trans (hHeld.2.2.2.2.2.2.2.2.2.2.2.2.2.2.2.2.2.2.2.2.2.2.2.2.2.2.2.2.2.2.2.2.2.2.2.2.2.2.2.2.2.2.2.1)
 have HS44_ := (hb.cell (World.block_lt_of_cell? _ _ (hHeld.2.2.2.2.2.2.2.2.2.2.2.2.2.2.2.2.2.2.2.2.2.2.2.2.2.2.2.2.2.2.2.2.2.2.2.2.2.2.2.2.2.2.2.2.1))).trans (hHeld.2.2.2.2.2.2.2.2.2.2.2.2.2.2.2.2.2.2.2.2.2.2.2.2.2.2.2.2.2.2.2.2.2.2.2.2.2.2.2.2.2.2.2.2.1)
 have HS45_ := (hb.cell (World.block_lt_of_cell? _ _ (hHeld.2.2.2.2.2.2.2.2.2.2.2.2.2.2.2.2.2.2.2.2.2.2.2.2.2.2.2.2.2.2.2.2.2.2.2.2.2.2.2.2.2.2.2.2.2.1))).trans (hHeld.2.2.2.2.2.2.2.2.2.2.2.2.2.2.2.2.2.2.2.2.2.2.2.2.2.2.2.2.2.2.2.2.2.2.2.2.2.2.2.2.2.2.2.2.2.1)
 have HS46_ := (hb.cell (World.block_lt_of_cell? _ _ (hHeld.2.2.2.2.2.2.2.2.2.2.2.2.2.2.2.2.2.2.2.2.2.2.2.2.2.2.2.2.2.2.2.2.2.2.2.2.2.2.2.2.2.2.2.2.2.2.1))).trans (hHeld.2.2.2.2.2.2.2.2.2.2.2.2.2.2.2.2.2.2.2.2.2.2.2.2.2.2.2.2.2.2.2.2.2.2.2.2.2.2.2.2.2.2.2.2.2.2.1)
 have HS47_ := (hb.cell (World.block_lt_of_cell? _ _ (hHeld.2.2.2.2.2.2.2.2.2.2.2.2.2.2.2.2.2.2.2.2.2.2.2.2.2.2.2.2.2.2.2.2.2.2.2.2.2.2.2.2.2.2.2.2.2.2.2.1))).trans (hHeld.2.2.2.2.2.2.2.2.2.2.2.2.2.2.2.2.2.2.2.2.2.2.2.2.2.2.2.2.2.2.2.2.2.2.2.2.2.2.2.2.2.2.2.2.2.2.2.1)
 have HS48_ := (hb.cell (World.block_lt_of_cell? _ _ (hHeld.2.2.2.2.2.2.2.2.2.2.2.2.2.2.2.2.2.2.2.2.2.2.2.2.2.2.2.2.2.2.2.2.2.2.2.2.2.2.2.2.2.2.2.2.2.2.2.2.1))).trans (hHeld.2.2.2.2.2.2.2.2.2.2.2.2.2.2.2.2.2.2.2.2.2.2.2.2.2.2.2.2.2.2.2.2.2.2.2.2.2.2.2.2.2.2.2.2.2.2.2.2.1)
 have HS49_ := (hb.cell (World.block_lt_of_cell? _ _ (hHeld.2.2.2.2.2.2.2.2.2.2.2.2.2.2.2.2.2.2.2.2.2.2.2.2.2.2.2.2.2.2.2.2.2.2.2.2.2.2.2.2.2.2.2.2.2.2.2.2.2.1))).trans (hHeld.2.2.2.2.2.2.2.2.2.2.2.2.2.2.2.2.2.2.2.2.2.2.2.2.2.2.2.2.2.2.2.2.2.2.2.2.2.2.2.2.2.2.2.2.2.2.2.2.2.1)
 have HS50_ := (hb.cell (World.block_lt_of_cell? _ _ (hHeld.2.2.2.2.2.2.2.2.2.2.2.2.2.2.2.2.2.2.2.2.2.2.2.2.2.2.2.2.2.2.2.2.2.2.2.2.2.2.2.2.2.2.2.2.2.2.2.2.2.2.1))).trans (hHeld.2.2.2.2.2.2.2.2.2.2.2.2.2.2.2.2.2.2.2.2.2.2.2.2.2.2.2.2.2.2.2.2.2.2.2.2.2.2.2.2.2.2.2.2.2.2.2.2.2.2.1)
 have HS51_ := (hb.cell (World.block_lt_of_cell? _ _ (hHeld.2.2.2.2.2.2.2.2.2.2.2.2.2.2.2.2.2.2.2.2.2.2.2.2.2.2.2.2.2.2.2.2.2.2.2.2.2.2.2.2.2.2.2.2.2.2.2.2.2.2.2.1))).trans (hHeld.2.2.2.2.2.2.2.2.2.2.2.2.2.2.2.2.2.2.2.2.2.2.2.2.2.2.2.2.2.2.2.2.2.2.2.2.2.2.2.2.2.2.2.2.2.2.2.2.2.2.2.1)
 have HS52_ := (hb.cell (World.block_lt_of_cell? _ _ (hHeld.2.2.2.2.2.2.2.2.2.2.2.2.2.2.2.2.2.2.2.2.2.2.2.2.2.2.2.2.2.2.2.2.2.2.2.2.2.2.2.2.2.2.2.2.2.2.2.2.2.2.2.2.1))).trans (hHeld.2.2.2.2.2.2.2.2.2.2.2.2.2.2.2.2.2.2.2.2.2.2.2.2.2.2.2.2.2.2.2.2.2.2.2.2.2.2.2.2.2.2.2.2.2.2.2.2.2.2.2.2.1)
 have HS53_ := (hb.cell (World.block_lt_of_cell? _ _ (hHeld.2.2.2.2.2.2.2.2.2.2.2.2.2.2.2.2.2.2.2.2.2.2.2.2.2.2.2.2.2.2.2.2.2.2.2.2.2.2.2.2.2.2.2.2.2.2.2.2.2.2.2.2.2))).trans (hHeld.2.2.2.2.2.2.2.2.2.2.2.2.2.2.2.2.2.2.2.2.2.2.2.2.2.2.2.2.2.2.2.2.2.2.2.2.2.2.2.2.2.2.2.2.2.2.2.2.2.2.2.2.2)
 refine ⟨_, rfl, ?_⟩
 have n0_ := Aside0.mk (Kd.R_below (rq HO_11.out) hb)
 have n1_ := Aside0.mk (blk_below (g := gb172) (o := .cells #[.int .i64 a0_0, .int .i64 a0_1, .int .i64 a0_2, .int .i64 a0_3, .int .i64 a0_4, .int .i64 a0_5, .int .i64 a0_6, .int .i64 a0_7, .int .i64 a0_8] 39 (0, 0)) (kq BK172.out) hb)
 have n2_ := Aside0.mk (blk_below (g := gb173) (o := .cells #[.int .i64 a1_0, .int .i64 a1_1, .int .i64 a1_2, .int .i64 a1_3, .int .i64 a1_4, .int .i64 a1_5, .int .i64 a1_6, .int .i64 a1_7, .int .i64 a1_8] 39 (0, 0)) (kq BK173.out) hb)
 have n3_ := Aside0.mk (blk_below (g := gb174) (o := .cells #[.int .i64 a2_0, .int .i64 a2_1, .int .i64 a2_2, .int .i64 a2_3, .int .i64 a2_4, .int .i64 a2_5, .int .i64 a2_6, .int .i64 a2_7, .int .i64 a2_8] 39 (0, 0)) (kq BK174.out) hb)
 have n4_ := Aside0.mk (below_step (bq3 HB.out GE172.out GE173.out GE174.out) hb)
 clear HO_11
 clear BK172
 clear BK173
 clear BK174
 clear HB
 have HO_11 := n0_
 have BK172 := n1_
 have BK173 := n2_
 have BK174 := n3_
 have HB := n4_
 clear n0_ n1_ n2_ n3_ n4_
 (try clear hb)
 (try clear hb2)
 (try clear hk)
 (try clear hi)
 refine hK.out _ _ ⟨HS0_, HS1_, HS2_, HS3_, HS4_, HS5_, HS6_, HS7_, HS8_, HS9_, HS10_, HS11_, HS12_, HS13_, HS14_, HS15_, HS16_, HS17_, HS18_, HS19_, HS20_, HS21_, HS22_, HS23_, HS24_, HS25_, HS26_, HS27_, HS28_, HS29_, HS30_, HS31_, HS32_, HS33_, HS34_, HS35_, HS36_, HS37_, HS38_, HS39_, HS40_, HS41_, HS42_, HS43_, HS44_, HS45_, HS46_, HS47_, HS48_, HS49_, HS50_, HS51_, HS52_, HS53_⟩ (fun hHeld => ?_)
 clear hK K
 refine norm_ (a' := ?_) ?_ ?_
 rotate_left
 ·(
 show Act.put _ (some 79) _ = _
 simp only [Act.put, List.setIfInBounds_toArray, List.set_cons_zero, List.set_cons_succ, i64_w, i32_w]
 rfl)
 refine pure_ (i := 32) (N := some 80) (v := ?_) (a' := ?_) #[true, true, true, true, true, true, true, true, true, true, true, true, true, true, true, true, true, true, true, true, true, true, true, true, true, true, true, true, true, true, true, true, true, false] rfl rfl (any_of HT_.out (by kernel_rfl)) (fun _ _ _ h => h) (Or.inl ⟨by rfl, ?_⟩) ?_ ?_
 rotate_left
 ·(
 intro w'
 go_simp
 with_reducible rfl)
 rotate_left
 ·(
 simp only [Act.put, List.setIfInBounds_toArray, List.set_cons_zero, List.set_cons_succ, i64_w, i32_w]
 rfl)
 refine pure_ (i := 33) (N := some 81) (v := ?_) (a' := ?_) #[true, true, true, true, true, true, true, true, true, true, true, true, true, true, true, true, true, true, true, true, true, true, true, true, true, true, true, true, true, true, true, true, true, true] rfl rfl (any_of HT_.out (by kernel_rfl)) (fun _ _ _ h => h) (Or.inl ⟨by rfl, ?_⟩) ?_ ?_
 rotate_left
 ·(
 intro w'
 go_simp
 with_reducible rfl)
 rotate_left
 ·(
 simp only [Act.put, List.setIfInBounds_toArray, List.set_cons_zero, List.set_cons_succ, i64_w, i32_w]
 rfl)
 refine done_ (done_of HT_.out (by kernel_rfl)) ?_
 try go_wp2
 go_ret
 exact ⟨by first | rfl | (simp [errW_none, errW_some] <;> rfl) | (simp [*, errW_none, errW_some] <;> rfl), bq3 HB.out GE172.out GE173.out GE174.out⟩)
 ·(
 rw [if_neg c33] at H
 have c33b0 : decide (0 < t205) = false := decide_eq_false c33
 clear c33
 have H' := Aside0.mk H
 clear H
 try go_wp2
 have n0_ := Aside0.mk (Kd.R_drew HO_11.out)
 have n1_ := Aside0.mk (blk_drew BK172.out)
 have n2_ := Aside0.mk (blk_drew BK173.out)
 have n3_ := Aside0.mk (blk_drew BK174.out)
 have n4_ := Aside0.mk (below_drew1 HB.out)
 clear HO_11
 clear BK172
 clear BK173
 clear BK174
 clear HB
 have HO_11 := n0_
 have BK172 := n1_
 have BK173 := n2_
 have BK174 := n3_
 have HB := n4_
 clear n0_ n1_ n2_ n3_ n4_
 have p197 : 0 ≤ (x12_1 : Int) := of_decide_eq_true (by first | (with_reducible assumption) | assumption)
 have q197 : x12_1 < (y194.length : Int) := of_decide_eq_true (by first | (with_reducible assumption) | assumption)
 obtain ⟨ad197, e197, hx197_0, hx197_1, hx197_2, hx197_3, hx197_4, hx197_5, hx197_6, hx197_7, hx197_8⟩ := at_T39 (Kd.R_reads' HO_11.out).2.2 x12_1 p197 q197
 cases e197
 replace p197 := eq_true p197
 replace q197 := eq_true q197
 have p198 : 0 ≤ (x13_2 : Int) := of_decide_eq_true (by first | (with_reducible assumption) | assumption)
 have q198 : x13_2 < (y194.length : Int) := of_decide_eq_true (by first | (with_reducible assumption) | assumption)
 obtain ⟨ad198, e198, hx198_0, hx198_1, hx198_2, hx198_3, hx198_4, hx198_5, hx198_6, hx198_7, hx198_8⟩ := at_T39 (Kd.R_reads' HO_11.out).2.2 x13_2 p198 q198
 obtain rfl : ad197 = ad198 := (by injection e198)
 replace p198 := eq_true p198
 replace q198 := eq_true q198
 have p200 : 0 ≤ (x13_2 : Int) := of_decide_eq_true (by first | (with_reducible assumption) | assumption)
 have q200 : x13_2 < (y194.length : Int) := of_decide_eq_true (by first | (with_reducible assumption) | assumption)
 obtain ⟨ad200, e200, hx200_0, hx200_1, hx200_2, hx200_3, hx200_4, hx200_5, hx200_6, hx200_7, hx200_8⟩ := at_T39 (Kd.R_reads' HO_11.out).2.2 x13_2 p200 q200
 obtain rfl : ad197 = ad200 := (by injection e200)
 replace p200 := eq_true p200
 replace q200 := eq_true q200
 have p201 : 0 ≤ (x14_3 : Int) := of_decide_eq_true (by first | (with_reducible assumption) | assumption)
 have q201 : x14_3 < (y194.length : Int) := of_decide_eq_true (by first | (with_reducible assumption) | assumption)
 obtain ⟨ad201, e201, hx201_0, hx201_1, hx201_2, hx201_3, hx201_4, hx201_5, hx201_6, hx201_7, hx201_8⟩ := at_T39 (Kd.R_reads' HO_11.out).2.2 x14_3 p201 q201
 obtain rfl : ad197 = ad201 := (by injection e201)
 replace p201 := eq_true p201
 replace q201 := eq_true q201
 have p203 : 0 ≤ (x12_1 : Int) := of_decide_eq_true (by first | (with_reducible assumption) | assumption)
 have q203 : x12_1 < (y194.length : Int) := of_decide_eq_true (by first | (with_reducible assumption) | assumption)
 obtain ⟨ad203, e203, hx203_0, hx203_1, hx203_2, hx203_3, hx203_4, hx203_5, hx203_6, hx203_7, hx203_8⟩ := at_T39 (Kd.R_reads' HO_11.out).2.2 x12_1 p203 q203
 obtain rfl : ad197 = ad203 := (by injection e203)
 replace p203 := eq_true p203
 replace q203 := eq_true q203
 have p204 : 0 ≤ (x14_3 : Int) := of_decide_eq_true (by first | (with_reducible assumption) | assumption)
 have q204 : x14_3 < (y194.length : Int) := of_decide_eq_true (by first | (with_reducible assumption) | assumption)
 obtain ⟨ad204, e204, hx204_0, hx204_1, hx204_2, hx204_3, hx204_4, hx204_5, hx204_6, hx204_7, hx204_8⟩ := at_T39 (Kd.R_reads' HO_11.out).2.2 x14_3 p204 q204
 obtain rfl : ad197 = ad204 := (by injection e204)
 replace p204 := eq_true p204
 replace q204 := eq_true q204
 refine start_ (n := 34) (S := fun w' => w'.cell? (ad197.add ((x12_1).toNat * 9)) = some (.int .i64 ((rd_T39 y194 x12_1).f0)) ∧ w'.cell? ⟨(ad197.add ((x12_1).toNat * 9)).block, (ad197.add ((x12_1).toNat * 9)).off + 1, none⟩ = some (.int .i64 ((rd_T39 y194 x12_1).f1)) ∧ w'.cell? ⟨(ad197.add ((x12_1).toNat * 9)).block, (ad197.add ((x12_1).toNat * 9)).off + 2, none⟩ = some (.int .i64 ((rd_T39 y194 x12_1).f2.f0)) ∧ w'.cell? ⟨(ad197.add ((x12_1).toNat * 9)).block, (ad197.add ((x12_1).toNat * 9)).off + 3, none⟩ = some (.int .i64 ((rd_T39 y194 x12_1).f2.f1)) ∧ w'.cell? ⟨(ad197.add ((x12_1).toNat * 9)).block, (ad197.add ((x12_1).toNat * 9)).off + 4, none⟩ = some (.int .i64 ((rd_T39 y194 x12_1).f2.f2)) ∧ w'.cell? ⟨(ad197.add ((x12_1).toNat * 9)).block, (ad197.add ((x12_1).toNat * 9)).off + 5, none⟩ = some (.int .i64 ((rd_T39 y194 x12_1).f2.f3.f0)) ∧ w'.cell? ⟨(ad197.add ((x12_1).toNat * 9)).block, (ad197.add ((x12_1).toNat * 9)).off + 6, none⟩ = some (.int .i64 ((rd_T39 y194 x12_1).f2.f3.f1)) ∧ w'.cell? ⟨(ad197.add ((x12_1).toNat * 9)).block, (ad197.add ((x12_1).toNat * 9)).off + 7, none⟩ = some (.int .i64 ((rd_T39 y194 x12_1).f2.f4)) ∧ w'.cell? ⟨(ad197.add ((x12_1).toNat * 9)).block, (ad197.add ((x12_1).toNat * 9)).off + 8, none⟩ = some (.int .i64 ((rd_T39 y194 x12_1).f2.f5)) ∧ w'.cell? (ad197.add ((x13_2).toNat * 9)) = some (.int .i64 ((rd_T39 y194 x13_2).f0)) ∧ w'.cell? ⟨(ad197.add ((x13_2).toNat * 9)).block, (ad197.add ((x13_2).toNat * 9)).off + 1, none⟩ = some (.int .i64 ((rd_T39 y194 x13_2).f1)) ∧ w'.cell? ⟨(ad197.add ((x13_2).toNat * 9)).block, (ad197.add ((x13_2).toNat * 9)).off + 2, none⟩ = some (.int .i64 ((rd_T39 y194 x13_2).f2.f0)) ∧ w'.cell? ⟨(ad197.add ((x13_2).toNat * 9)).block, (ad197.add ((x13_2).toNat * 9)).off + 3, none⟩ = some (.int .i64 ((rd_T39 y194 x13_2).f2.f1)) ∧ w'.cell? ⟨(ad197.add ((x13_2).toNat * 9)).block, (ad197.add ((x13_2).toNat * 9)).off + 4, none⟩ = some (.int .i64 ((rd_T39 y194 x13_2).f2.f2)) ∧ w'.cell? ⟨(ad197.add ((x13_2).toNat * 9)).block, (ad197.add ((x13_2).toNat * 9)).off + 5, none⟩ = some (.int .i64 ((rd_T39 y194 x13_2).f2.f3.f0)) ∧ w'.cell? ⟨(ad197.add ((x13_2).toNat * 9)).block, (ad197.add ((x13_2).toNat * 9)).off + 6, none⟩ = some (.int .i64 ((rd_T39 y194 x13_2).f2.f3.f1)) ∧ w'.cell? ⟨(ad197.add ((x13_2).toNat * 9)).block, (ad197.add ((x13_2).toNat * 9)).off + 7, none⟩ = some (.int .i64 ((rd_T39 y194 x13_2).f2.f4)) ∧ w'.cell? ⟨(ad197.add ((x13_2).toNat * 9)).block, (ad197.add ((x13_2).toNat * 9)).off + 8, none⟩ = some (.int .i64 ((rd_T39 y194 x13_2).f2.f5)) ∧ w'.cell? (ad197.add ((x13_2).toNat * 9)) = some (.int .i64 ((rd_T39 y194 x13_2).f0)) ∧ w'.cell? ⟨(ad197.add ((x13_2).toNat * 9)).block, (ad197.add ((x13_2).toNat * 9)).off + 1, none⟩ = some (.int .i64 ((rd_T39 y194 x13_2).f1)) ∧ w'.cell? ⟨(ad197.add ((x13_2).toNat * 9)).block, (ad197.add ((x13_2).toNat * 9)).off + 2, none⟩ = some (.int .i64 ((rd_T39 y194 x13_2).f2.f0)) ∧ w'.cell? ⟨(ad197.add ((x13_2).toNat * 9)).block, (ad197.add ((x13_2).toNat * 9)).off + 3, none⟩ = some (.int .i64 ((rd_T39 y194 x13_2).f2.f1)) ∧ w'.cell? ⟨(ad197.add ((x13_2).toNat * 9)).block, (ad197.add ((x13_2).toNat * 9)).off + 4, none⟩ = some (.int .i64 ((rd_T39 y194 x13_2).f2.f2)) ∧ w'.cell? ⟨(ad197.add ((x13_2).toNat * 9)).block, (ad197.add ((x13_2).toNat * 9)).off + 5, none⟩ = some (.int .i64 ((rd_T39 y194 x13_2).f2.f3.f0)) ∧ w'.cell? ⟨(ad197.add ((x13_2).toNat * 9)).block, (ad197.add ((x13_2).toNat * 9)).off + 6, none⟩ = some (.int .i64 ((rd_T39 y194 x13_2).f2.f3.f1)) ∧ w'.cell? ⟨(ad197.add ((x13_2).toNat * 9)).block, (ad197.add ((x13_2).toNat * 9)).off + 7, none⟩ = some (.int .i64 ((rd_T39 y194 x13_2).f2.f4)) ∧ w'.cell? ⟨(ad197.add ((x13_2).toNat * 9)).block, (ad197.add ((x13_2).toNat * 9)).off + 8, none⟩ = some (.int .i64 ((rd_T39 y194 x13_2).f2.f5)) ∧ w'.cell? (ad197.add ((x14_3).toNat * 9)) = some (.int .i64 ((rd_T39 y194 x14_3).f0)) ∧ w'.cell? ⟨(ad197.add ((x14_3).toNat * 9)).block, (ad197.add ((x14_3).toNat * 9)).off + 1, none⟩ = some (.int .i64 ((rd_T39 y194 x14_3).f1)) ∧ w'.cell? ⟨(ad197.add ((x14_3).toNat * 9)).block, (ad197.add ((x14_3).toNat * 9)).off + 2, none⟩ = some (.int .i64 ((rd_T39 y194 x14_3).f2.f0)) ∧ w'.cell? ⟨(ad197.add ((x14_3).toNat * 9)).block, (ad197.add ((x14_3).toNat * 9)).off + 3, none⟩ = some (.int .i64 ((rd_T39 y194 x14_3).f2.f1)) ∧ w'.cell? ⟨(ad197.add ((x14_3).toNat * 9)).block, (ad197.add ((x14_3).toNat * 9)).off + 4, none⟩ = some (.int .i64 ((rd_T39 y194 x14_3).f2.f2)) ∧ w'.cell? ⟨(ad197.add ((x14_3).toNat * 9)).block, (ad197.add ((x14_3).toNat * 9)).off + 5, none⟩ = some (.int .i64 ((rd_T39 y194 x14_3).f2.f3.f0)) ∧ w'.cell? ⟨(ad197.add ((x14_3).toNat * 9)).block, (ad197.add ((x14_3).toNat * 9)).off + 6, none⟩ = some (.int .i64 ((rd_T39 y194 x14_3).f2.f3.f1)) ∧ w'.cell? ⟨(ad197.add ((x14_3).toNat * 9)).block, (ad197.add ((x14_3).toNat * 9)).off + 7, none⟩ = some (.int .i64 ((rd_T39 y194 x14_3).f2.f4)) ∧ w'.cell? ⟨(ad197.add ((x14_3).toNat * 9)).block, (ad197.add ((x14_3).toNat * 9)).off + 8, none⟩ = some (.int .i64 ((rd_T39 y194 x14_3).f2.f5)) ∧ w'.cell? (ad197.add ((x12_1).toNat * 9)) = some (.int .i64 ((rd_T39 y194 x12_1).f0)) ∧ w'.cell? ⟨(ad197.add ((x12_1).toNat * 9)).block, (ad197.add ((x12_1).toNat * 9)).off + 1, none⟩ = some (.int .i64 ((rd_T39 y194 x12_1).f1)) ∧ w'.cell? ⟨(ad197.add ((x12_1).toNat * 9)).block, (ad197.add ((x12_1).toNat * 9)).off + 2, none⟩ = some (.int .i64 ((rd_T39 y194 x12_1).f2.f0)) ∧ w'.cell? ⟨(ad197.add ((x12_1).toNat * 9)).block, (ad197.add ((x12_1).toNat * 9)).off + 3, none⟩ = some (.int .i64 ((rd_T39 y194 x12_1).f2.f1)) ∧ w'.cell? ⟨(ad197.add ((x12_1).toNat * 9)).block, (ad197.add ((x12_1).toNat * 9)).off + 4, none⟩ = some (.int .i64 ((rd_T39 y194 x12_1).f2.f2)) ∧ w'.cell? ⟨(ad197.add ((x12_1).toNat * 9)).block, (ad197.add ((x12_1).toNat * 9)).off + 5, none⟩ = some (.int .i64 ((rd_T39 y194 x12_1).f2.f3.f0)) ∧ w'.cell? ⟨(ad197.add ((x12_1).toNat * 9)).block, (ad197.add ((x12_1).toNat * 9)).off + 6, none⟩ = some (.int .i64 ((rd_T39 y194 x12_1).f2.f3.f1)) ∧ w'.cell? ⟨(ad197.add ((x12_1).toNat * 9)).block, (ad197.add ((x12_1).toNat * 9)).off + 7, none⟩ = some (.int .i64 ((rd_T39 y194 x12_1).f2.f4)) ∧ w'.cell? ⟨(ad197.add ((x12_1).toNat * 9)).block, (ad197.add ((x12_1).toNat * 9)).off + 8, none⟩ = some (.int .i64 ((rd_T39 y194 x12_1).f2.f5)) ∧ w'.cell? (ad197.add ((x14_3).toNat * 9)) = some (.int .i64 ((rd_T39 y194 x14_3).f0)) ∧ w'.cell? ⟨(ad197.add ((x14_3).toNat * 9)).block, (ad197.add ((x14_3).toNat * 9)).off + 1, none⟩ = some (.int .i64 ((rd_T39 y194 x14_3).f1)) ∧ w'.cell? ⟨(ad197.add ((x14_3).toNat * 9)).block, (ad197.add ((x14_3).toNat * 9)).off + 2, none⟩ = some (.int .i64 ((rd_T39 y194 x14_3).f2.f0)) ∧ w'.cell? ⟨(ad197.add ((x14_3).toNat * 9)).block, (ad197.add ((x14_3).toNat * 9)).off + 3, none⟩ = some (.int .i64 ((rd_T39 y194 x14_3).f2.f1)) ∧ w'.cell? ⟨(ad197.add ((x14_3).toNat * 9)).block, (ad197.add ((x14_3).toNat * 9)).off + 4, none⟩ = some (.int .i64 ((rd_T39 y194 x14_3).f2.f2)) ∧ w'.cell? ⟨(ad197.add ((x14_3).toNat * 9)).block, (ad197.add ((x14_3).toNat * 9)).off + 5, none⟩ = some (.int .i64 ((rd_T39 y194 x14_3).f2.f3.f0)) ∧ w'.cell? ⟨(ad197.add ((x14_3).toNat * 9)).block, (ad197.add ((x14_3).toNat * 9)).off + 6, none⟩ = some (.int .i64 ((rd_T39 y194 x14_3).f2.f3.f1)) ∧ w'.cell? ⟨(ad197.add ((x14_3).toNat * 9)).block, (ad197.add ((x14_3).toNat * 9)).off + 7, none⟩ = some (.int .i64 ((rd_T39 y194 x14_3).f2.f4)) ∧ w'.cell? ⟨(ad197.add ((x14_3).toNat * 9)).block, (ad197.add ((x14_3).toNat * 9)).off + 8, none⟩ = some (.int .i64 ((rd_T39 y194 x14_3).f2.f5))) (ds := []) #[false, false, false, false, false, false, false, false, false, false, false, false, false, false, false, false, false, false, false, false, false, false, false, false, false, false, false, false, false, false, false, false, false, false] (by kernel_rfl) rfl rfl ⟨hx197_0, hx197_1, hx197_2, hx197_3, hx197_4, hx197_5, hx197_6, hx197_7, hx197_8, hx198_0, hx198_1, hx198_2, hx198_3, hx198_4, hx198_5, hx198_6, hx198_7, hx198_8, hx200_0, hx200_1, hx200_2, hx200_3, hx200_4, hx200_5, hx200_6, hx200_7, hx200_8, hx201_0, hx201_1, hx201_2, hx201_3, hx201_4, hx201_5, hx201_6, hx201_7, hx201_8, hx203_0, hx203_1, hx203_2, hx203_3, hx203_4, hx203_5, hx203_6, hx203_7, hx203_8, hx204_0, hx204_1, hx204_2, hx204_3, hx204_4, hx204_5, hx204_6, hx204_7, hx204_8⟩ (fun hHeld => ?_); refine with_tabW rollbacknetlaw27_DeterminantChains.tab13 rollbacknetlaw27_DeterminantChains.bits13 (fun HT_ HW_ => ?_)
 generalize wr.drew = w38 at HO_11 BK172 BK173 BK174 HB hx197_0 hx197_1 hx197_2 hx197_3 hx197_4 hx197_5 hx197_6 hx197_7 hx197_8 hx198_0 hx198_1 hx198_2 hx198_3 hx198_4 hx198_5 hx198_6 hx198_7 hx198_8 hx200_0 hx200_1 hx200_2 hx200_3 hx200_4 hx200_5 hx200_6 hx200_7 hx200_8 hx201_0 hx201_1 hx201_2 hx201_3 hx201_4 hx201_5 hx201_6 hx201_7 hx201_8 hx203_0 hx203_1 hx203_2 hx203_3 hx203_4 hx203_5 hx203_6 hx203_7 hx203_8 hx204_0 hx204_1 hx204_2 hx204_3 hx204_4 hx204_5 hx204_6 hx204_7 hx204_8 hHeld ⊢
 refine pure_ (i := 0) (N := some 48) (v := ?_) (a' := ?_) #[true, false, false, false, false, false, false, false, false, false, false, false, false, false, false, false, false, false, false, false, false, false, false, false, false, false, false, false, false, false, false, false, false, false] rfl rfl (any_of HT_.out (by kernel_rfl)) (fun _ _ _ h => h) (Or.inl ⟨by rfl, ?_⟩) ?_ ?_
 rotate_left
 ·(
 intro w'
 go_simp
 with_reducible rfl)
 rotate_left
 ·(
 simp only [Act.put, List.setIfInBounds_toArray, List.set_cons_zero, List.set_cons_succ, i64_w, i32_w]
 rfl)
 refine pure_ (i := 1) (N := some 49) (v := ?_) (a' := ?_) #[true, true, false, false, false, false, false, false, false, false, false, false, false, false, false, false, false, false, false, false, false, false, false, false, false, false, false, false, false, false, false, false, false, false] rfl rfl (any_of HT_.out (by kernel_rfl)) (fun _ _ _ h => h) (Or.inl ⟨by rfl, ?_⟩) ?_ ?_
 rotate_left
 ·(
 intro w'
 go_simp
 with_reducible rfl)
 rotate_left
 ·(
 simp only [Act.put, List.setIfInBounds_toArray, List.set_cons_zero, List.set_cons_succ, i64_w, i32_w]
 rfl)
 refine pure_ (i := 2) (N := some 50) (v := ?_) (a' := ?_) #[true, true, true, false, false, false, false, false, false, false, false, false, false, false, false, false, false, false, false, false, false, false, false, false, false, false, false, false, false, false, false, false, false, false] rfl rfl (any_of HT_.out (by kernel_rfl)) (fun _ _ _ h => h) (Or.inl ⟨by rfl, ?_⟩) ?_ ?_
 rotate_left
 ·(
 intro w'
 go_simp
 with_reducible rfl)
 rotate_left
 ·(
 simp only [Act.put, List.setIfInBounds_toArray, List.set_cons_zero, List.set_cons_succ, i64_w, i32_w]
 rfl)
 refine pure_ (i := 4) (N := some 52) (v := ?_) (a' := ?_) #[true, true, true, false, true, false, false, false, false, false, false, false, false, false, false, false, false, false, false, false, false, false, false, false, false, false, false, false, false, false, false, false, false, false] rfl rfl (any_of HT_.out (by kernel_rfl)) (fun _ _ _ h => h) (Or.inl ⟨by rfl, ?_⟩) ?_ ?_
 rotate_left
 ·(
 intro w'
 go_simp
 with_reducible rfl)
 rotate_left
 ·(
 simp only [Act.put, List.setIfInBounds_toArray, List.set_cons_zero, List.set_cons_succ, i64_w, i32_w]
 rfl)
 refine pure_ (i := 5) (N := some 53) (v := ?_) (a' := ?_) #[true, true, true, false, true, true, false, false, false, false, false, false, false, false, false, false, false, false, false, false, false, false, false, false, false, false, false, false, false, false, false, false, false, false] rfl rfl (any_of HT_.out (by kernel_rfl)) (fun _ _ _ h => h) (Or.inl ⟨by rfl, ?_⟩) ?_ ?_
 rotate_left
 ·(
 intro w'
 go_simp
 with_reducible rfl)
 rotate_left
 ·(
 simp only [Act.put, List.setIfInBounds_toArray, List.set_cons_zero, List.set_cons_succ, i64_w, i32_w]
 rfl)
 refine pure_ (i := 6) (N := some 54) (v := ?_) (a' := ?_) #[true, true, true, false, true, true, true, false, false, false, false, false, false, false, false, false, false, false, false, false, false, false, false, false, false, false, false, false, false, false, false, false, false, false] rfl rfl (any_of HT_.out (by kernel_rfl)) (fun _ _ _ h => h) (Or.inl ⟨by rfl, ?_⟩) ?_ ?_
 rotate_left
 ·(
 intro w'
 go_simp
 with_reducible rfl)
 rotate_left
 ·(
 simp only [Act.put, List.setIfInBounds_toArray, List.set_cons_zero, List.set_cons_succ, i64_w, i32_w]
 rfl)
 refine take_ (i := 3) (N := some 51) (v := ?_) (a' := ?_) #[true, true, true, true, true, true, true, false, false, false, false, false, false, false, false, false, false, false, false, false, false, false, false, false, false, false, false, false, false, false, false, false, false, false] rfl rfl (take_ofW HT_.out HW_.out (by kernel_rfl)) (fun _ _ _ h => h) (Or.inl ⟨by rfl, ?_⟩) hHeld ?_ ?_
 rotate_left
 ·(
 rintro w' ⟨s0, s1, s2, s3, s4, s5, s6, s7, s8, s9, s10, s11, s12, s13, s14, s15, s16, s17, s18, s19, s20, s21, s22, s23, s24, s25, s26, s27, s28, s29, s30, s31, s32, s33, s34, s35, s36, s37, s38, s39, s40, s41, s42, s43, s44, s45, s46, s47, s48, s49, s50, s51, s52, s53⟩
 go_simp
 with_reducible rfl)
 rotate_left
 ·(
 simp only [Act.put, List.setIfInBounds_toArray, List.set_cons_zero, List.set_cons_succ, i64_w, i32_w]
 rfl)
 refine take_ (i := 7) (N := some 55) (v := ?_) (a' := ?_) #[true, true, true, true, true, true, true, true, false, false, false, false, false, false, false, false, false, false, false, false, false, false, false, false, false, false, false, false, false, false, false, false, false, false] rfl rfl (take_ofW HT_.out HW_.out (by kernel_rfl)) (fun _ _ _ h => h) (Or.inl ⟨by rfl, ?_⟩) hHeld ?_ ?_
 rotate_left
 ·(
 rintro w' ⟨s0, s1, s2, s3, s4, s5, s6, s7, s8, s9, s10, s11, s12, s13, s14, s15, s16, s17, s18, s19, s20, s21, s22, s23, s24, s25, s26, s27, s28, s29, s30, s31, s32, s33, s34, s35, s36, s37, s38, s39, s40, s41, s42, s43, s44, s45, s46, s47, s48, s49, s50, s51, s52, s53⟩
 go_simp
 with_reducible rfl)
 rotate_left
 ·(
 simp only [Act.put, List.setIfInBounds_toArray, List.set_cons_zero, List.set_cons_succ, i64_w, i32_w]
 rfl)
 refine one_ (i := 8) (N := some 56) #[true, true, true, true, true, true, true, true, true, false, false, false, false, false, false, false, false, false, false, false, false, false, false, false, false, false, false, false, false, false, false, false, false, false] rfl rfl (one_of HT_.out (by kernel_rfl)) (by decide) (fun K hK => ?_)
 refine goes_ Try.func21 (by kernel_rfl) rfl #[.agg #[.int .i64 ((rd_T39 y194 x12_1).f0), .int .i64 ((rd_T39 y194 x12_1).f1), .int .i64 ((rd_T39 y194 x12_1).f2.f0), .int .i64 ((rd_T39 y194 x12_1).f2.f1), .int .i64 ((rd_T39 y194 x12_1).f2.f2), .int .i64 ((rd_T39 y194 x12_1).f2.f3.f0), .int .i64 ((rd_T39 y194 x12_1).f2.f3.f1), .int .i64 ((rd_T39 y194 x12_1).f2.f4), .int .i64 ((rd_T39 y194 x12_1).f2.f5)], .agg #[.int .i64 ((rd_T39 y194 x13_2).f0), .int .i64 ((rd_T39 y194 x13_2).f1), .int .i64 ((rd_T39 y194 x13_2).f2.f0), .int .i64 ((rd_T39 y194 x13_2).f2.f1), .int .i64 ((rd_T39 y194 x13_2).f2.f2), .int .i64 ((rd_T39 y194 x13_2).f2.f3.f0), .int .i64 ((rd_T39 y194 x13_2).f2.f3.f1), .int .i64 ((rd_T39 y194 x13_2).f2.f4), .int .i64 ((rd_T39 y194 x13_2).f2.f5)]] (by first | rfl | (refine wanted_on rfl rfl rfl ?_; first | assumption | (simp [*]; done))) rfl rfl (by (try simp only [List.map_toArray, List.map_cons, List.map_nil]); first | done | rfl | (simp only [List.length_drop, List.length_take]; rfl)) ?_
 with_reducible refine (determinant_Compare.calls k3 ((rd_T39 y194 x12_1).f0) ((rd_T39 y194 x12_1).f1) ((rd_T39 y194 x12_1).f2.f0) ((rd_T39 y194 x12_1).f2.f1) ((rd_T39 y194 x12_1).f2.f2) ((rd_T39 y194 x12_1).f2.f3.f0) ((rd_T39 y194 x12_1).f2.f3.f1) ((rd_T39 y194 x12_1).f2.f4) ((rd_T39 y194 x12_1).f2.f5) ((rd_T39 y194 x13_2).f0) ((rd_T39 y194 x13_2).f1) ((rd_T39 y194 x13_2).f2.f0) ((rd_T39 y194 x13_2).f2.f1) ((rd_T39 y194 x13_2).f2.f2) ((rd_T39 y194 x13_2).f2.f3.f0) ((rd_T39 y194 x13_2).f2.f3.f1) ((rd_T39 y194 x13_2).f2.f4) ((rd_T39 y194 x13_2).f2.f5) t199 _ A27.out).mono ?_
 rintro e w39 ⟨rfl, hb⟩
 have HS0_ := (hb.cell (World.block_lt_of_cell? _ _ (hHeld.1))).trans (hHeld.1)
 have HS1_ := (hb.cell (World.block_lt_of_cell? _ _ (hHeld.2.1))).trans (hHeld.2.1)
 have HS2_ := (hb.cell (World.block_lt_of_cell? _ _ (hHeld.2.2.1))).trans (hHeld.2.2.1)
 have HS3_ := (hb.cell (World.block_lt_of_cell? _ _ (hHeld.2.2.2.1))).trans (hHeld.2.2.2.1)
 have HS4_ := (hb.cell (World.block_lt_of_cell? _ _ (hHeld.2.2.2.2.1))).trans (hHeld.2.2.2.2.1)
 have HS5_ := (hb.cell (World.block_lt_of_cell? _ _ (hHeld.2.2.2.2.2.1))).trans (hHeld.2.2.2.2.2.1)
 have HS6_ := (hb.cell (World.block_lt_of_cell? _ _ (hHeld.2.2.2.2.2.2.1))).trans (hHeld.2.2.2.2.2.2.1)
 have HS7_ := (hb.cell (World.block_lt_of_cell? _ _ (hHeld.2.2.2.2.2.2.2.1))).trans (hHeld.2.2.2.2.2.2.2.1)
 have HS8_ := (hb.cell (World.block_lt_of_cell? _ _ (hHeld.2.2.2.2.2.2.2.2.1))).trans (hHeld.2.2.2.2.2.2.2.2.1)
 have HS9_ := (hb.cell (World.block_lt_of_cell? _ _ (hHeld.2.2.2.2.2.2.2.2.2.1))).trans (hHeld.2.2.2.2.2.2.2.2.2.1)
 have HS10_ := (hb.cell (World.block_lt_of_cell? _ _ (hHeld.2.2.2.2.2.2.2.2.2.2.1))).trans (hHeld.2.2.2.2.2.2.2.2.2.2.1)
 have HS11_ := (hb.cell (World.block_lt_of_cell? _ _ (hHeld.2.2.2.2.2.2.2.2.2.2.2.1))).trans (hHeld.2.2.2.2.2.2.2.2.2.2.2.1)
 have HS12_ := (hb.cell (World.block_lt_of_cell? _ _ (hHeld.2.2.2.2.2.2.2.2.2.2.2.2.1))).trans (hHeld.2.2.2.2.2.2.2.2.2.2.2.2.1)
 have HS13_ := (hb.cell (World.block_lt_of_cell? _ _ (hHeld.2.2.2.2.2.2.2.2.2.2.2.2.2.1))).trans (hHeld.2.2.2.2.2.2.2.2.2.2.2.2.2.1)
 have HS14_ := (hb.cell (World.block_lt_of_cell? _ _ (hHeld.2.2.2.2.2.2.2.2.2.2.2.2.2.2.1))).trans (hHeld.2.2.2.2.2.2.2.2.2.2.2.2.2.2.1)
 have HS15_ := (hb.cell (World.block_lt_of_cell? _ _ (hHeld.2.2.2.2.2.2.2.2.2.2.2.2.2.2.2.1))).trans (hHeld.2.2.2.2.2.2.2.2.2.2.2.2.2.2.2.1)
 have HS16_ := (hb.cell (World.block_lt_of_cell? _ _ (hHeld.2.2.2.2.2.2.2.2.2.2.2.2.2.2.2.2.1))).trans (hHeld.2.2.2.2.2.2.2.2.2.2.2.2.2.2.2.2.1)
 have HS17_ := (hb.cell (World.block_lt_of_cell? _ _ (hHeld.2.2.2.2.2.2.2.2.2.2.2.2.2.2.2.2.2.1))).trans (hHeld.2.2.2.2.2.2.2.2.2.2.2.2.2.2.2.2.2.1)
 have HS18_ := (hb.cell (World.block_lt_of_cell? _ _ (hHeld.2.2.2.2.2.2.2.2.2.2.2.2.2.2.2.2.2.2.1))).trans (hHeld.2.2.2.2.2.2.2.2.2.2.2.2.2.2.2.2.2.2.1)
 have HS19_ := (hb.cell (World.block_lt_of_cell? _ _ (hHeld.2.2.2.2.2.2.2.2.2.2.2.2.2.2.2.2.2.2.2.1))).trans (hHeld.2.2.2.2.2.2.2.2.2.2.2.2.2.2.2.2.2.2.2.1)
 have HS20_ := (hb.cell (World.block_lt_of_cell? _ _ (hHeld.2.2.2.2.2.2.2.2.2.2.2.2.2.2.2.2.2.2.2.2.1))).trans (hHeld.2.2.2.2.2.2.2.2.2.2.2.2.2.2.2.2.2.2.2.2.1)
 have HS21_ := (hb.cell (World.block_lt_of_cell? _ _ (hHeld.2.2.2.2.2.2.2.2.2.2.2.2.2.2.2.2.2.2.2.2.2.1))).trans (hHeld.2.2.2.2.2.2.2.2.2.2.2.2.2.2.2.2.2.2.2.2.2.1)
 have HS22_ := (hb.cell (World.block_lt_of_cell? _ _ (hHeld.2.2.2.2.2.2.2.2.2.2.2.2.2.2.2.2.2.2.2.2.2.2.1))).trans (hHeld.2.2.2.2.2.2.2.2.2.2.2.2.2.2.2.2.2.2.2.2.2.2.1)
 have HS23_ := (hb.cell (World.block_lt_of_cell? _ _ (hHeld.2.2.2.2.2.2.2.2.2.2.2.2.2.2.2.2.2.2.2.2.2.2.2.1))).trans (hHeld.2.2.2.2.2.2.2.2.2.2.2.2.2.2.2.2.2.2.2.2.2.2.2.1)
 have HS24_ := (hb.cell (World.block_lt_of_cell? _ _ (hHeld.2.2.2.2.2.2.2.2.2.2.2.2.2.2.2.2.2.2.2.2.2.2.2.2.1))).trans (hHeld.2.2.2.2.2.2.2.2.2.2.2.2.2.2.2.2.2.2.2.2.2.2.2.2.1)
 have HS25_ := (hb.cell (World.block_lt_of_cell? _ _ (hHeld.2.2.2.2.2.2.2.2.2.2.2.2.2.2.2.2.2.2.2.2.2.2.2.2.2.1))).trans (hHeld.2.2.2.2.2.2.2.2.2.2.2.2.2.2.2.2.2.2.2.2.2.2.2.2.2.1)
 have HS26_ := (hb.cell (World.block_lt_of_cell? _ _ (hHeld.2.2.2.2.2.2.2.2.2.2.2.2.2.2.2.2.2.2.2.2.2.2.2.2.2.2.1))).trans (hHeld.2.2.2.2.2.2.2.2.2.2.2.2.2.2.2.2.2.2.2.2.2.2.2.2.2.2.1)
 have HS27_ := (hb.cell (World.block_lt_of_cell? _ _ (hHeld.2.2.2.2.2.2.2.2.2.2.2.2.2.2.2.2.2.2.2.2.2.2.2.2.2.2.2.1))).trans (hHeld.2.2.2.2.2.2.2.2.2.2.2.2.2.2.2.2.2.2.2.2.2.2.2.2.2.2.2.1)
 have HS28_ := (hb.cell (World.block_lt_of_cell? _ _ (hHeld.2.2.2.2.2.2.2.2.2.2.2.2.2.2.2.2.2.2.2.2.2.2.2.2.2.2.2.2.1))).trans (hHeld.2.2.2.2.2.2.2.2.2.2.2.2.2.2.2.2.2.2.2.2.2.2.2.2.2.2.2.2.1)
 have HS29_ := (hb.cell (World.block_lt_of_cell? _ _ (hHeld.2.2.2.2.2.2.2.2.2.2.2.2.2.2.2.2.2.2.2.2.2.2.2.2.2.2.2.2.2.1))).trans (hHeld.2.2.2.2.2.2.2.2.2.2.2.2.2.2.2.2.2.2.2.2.2.2.2.2.2.2.2.2.2.1)
 have HS30_ := (hb.cell (World.block_lt_of_cell? _ _ (hHeld.2.2.2.2.2.2.2.2.2.2.2.2.2.2.2.2.2.2.2.2.2.2.2.2.2.2.2.2.2.2.1))).trans (hHeld.2.2.2.2.2.2.2.2.2.2.2.2.2.2.2.2.2.2.2.2.2.2.2.2.2.2.2.2.2.2.1)
 have HS31_ := (hb.cell (World.block_lt_of_cell? _ _ (hHeld.2.2.2.2.2.2.2.2.2.2.2.2.2.2.2.2.2.2.2.2.2.2.2.2.2.2.2.2.2.2.2.1))).trans (hHeld.2.2.2.2.2.2.2.2.2.2.2.2.2.2.2.2.2.2.2.2.2.2.2.2.2.2.2.2.2.2.2.1)
 have HS32_ := (hb.cell (World.block_lt_of_cell? _ _ (hHeld.2.2.2.2.2.2.2.2.2.2.2.2.2.2.2.2.2.2.2.2.2.2.2.2.2.2.2.2.2.2.2.2.1))).trans (hHeld.2.2.2.2.2.2.2.2.2.2.2.2.2.2.2.2.2.2.2.2.2.2.2.2.2.2.2.2.2.2.2.2.1)
 have HS33_ := (hb.cell (World.block_lt_of_cell? _ _ (hHeld.2.2.2.2.2.2.2.2.2.2.2.2.2.2.2.2.2.2.2.2.2.2.2.2.2.2.2.2.2.2.2.2.2.1))).trans (hHeld.2.2.2.2.2.2.2.2.2.2.2.2.2.2.2.2.2.2.2.2.2.2.2.2.2.2.2.2.2.2.2.2.2.1)
 have HS34_ := (hb.cell (World.block_lt_of_cell? _ _ (hHeld.2.2.2.2.2.2.2.2.2.2.2.2.2.2.2.2.2.2.2.2.2.2.2.2.2.2.2.2.2.2.2.2.2.2.1))).trans (hHeld.2.2.2.2.2.2.2.2.2.2.2.2.2.2.2.2.2.2.2.2.2.2.2.2.2.2.2.2.2.2.2.2.2.2.1)
 have HS35_ := (hb.cell (World.block_lt_of_cell? _ _ (hHeld.2.2.2.2.2.2.2.2.2.2.2.2.2.2.2.2.2.2.2.2.2.2.2.2.2.2.2.2.2.2.2.2.2.2.2.1))).trans (hHeld.2.2.2.2.2.2.2.2.2.2.2.2.2.2.2.2.2.2.2.2.2.2.2.2.2.2.2.2.2.2.2.2.2.2.2.1)
 have HS36_ := (hb.cell (World.block_lt_of_cell? _ _ (hHeld.2.2.2.2.2.2.2.2.2.2.2.2.2.2.2.2.2.2.2.2.2.2.2.2.2.2.2.2.2.2.2.2.2.2.2.2.1))).trans (hHeld.2.2.2.2.2.2.2.2.2.2.2.2.2.2.2.2.2.2.2.2.2.2.2.2.2.2.2.2.2.2.2.2.2.2.2.2.1)
 have HS37_ := (hb.cell (World.block_lt_of_cell? _ _ (hHeld.2.2.2.2.2.2.2.2.2.2.2.2.2.2.2.2.2.2.2.2.2.2.2.2.2.2.2.2.2.2.2.2.2.2.2.2.2.1))).trans (hHeld.2.2.2.2.2.2.2.2.2.2.2.2.2.2.2.2.2.2.2.2.2.2.2.2.2.2.2.2.2.2.2.2.2.2.2.2.2.1)
 have HS38_ := (hb.cell (World.block_lt_of_cell? _ _ (hHeld.2.2.2.2.2.2.2.2.2.2.2.2.2.2.2.2.2.2.2.2.2.2.2.2.2.2.2.2.2.2.2.2.2.2.2.2.2.2.1))).trans (hHeld.2.2.2.2.2.2.2.2.2.2.2.2.2.2.2.2.2.2.2.2.2.2.2.2.2.2.2.2.2.2.2.2.2.2.2.2.2.2.1)
 have HS39_ := (hb.cell (World.block_lt_of_cell? _ _ (hHeld.2.2.2.2.2.2.2.2.2.2.2.2.2.2.2.2.2.2.2.2.2.2.2.2.2.2.2.2.2.2.2.2.2.2.2.2.2.2.2.1))).trans (hHeld.2.2.2.2.2.2.2.2.2.2.2.2.2.2.2.2.2.2.2.2.2.2.2.2.2.2.2.2.2.2.2.2.2.2.2.2.2.2.2.1)
 have HS40_ := (hb.cell (World.block_lt_of_cell? _ _ (hHeld.2.2.2.2.2.2.2.2.2.2.2.2.2.2.2.2.2.2.2.2.2.2.2.2.2.2.2.2.2.2.2.2.2.2.2.2.2.2.2.2.1))).trans (hHeld.2.2.2.2.2.2.2.2.2.2.2.2.2.2.2.2.2.2.2.2.2.2.2.2.2.2.2.2.2.2.2.2.2.2.2.2.2.2.2.2.1)
 have HS41_ := (hb.cell (World.block_lt_of_cell? _ _ (hHeld.2.2.2.2.2.2.2.2.2.2.2.2.2.2.2.2.2.2.2.2.2.2.2.2.2.2.2.2.2.2.2.2.2.2.2.2.2.2.2.2.2.1))).trans (hHeld.2.2.2.2.2.2.2.2.2.2.2.2.2.2.2.2.2.2.2.2.2.2.2.2.2.2.2.2.2.2.2.2.2.2.2.2.2.2.2.2.2.1)
 have HS42_ := (hb.cell (World.block_lt_of_cell? _ _ (hHeld.2.2.2.2.2.2.2.2.2.2.2.2.2.2.2.2.2.2.2.2.2.2.2.2.2.2.2.2.2.2.2.2.2.2.2.2.2.2.2.2.2.2.1))).trans (hHeld.2.2.2.2.2.2.2.2.2.2.2.2.2.2.2.2.2.2.2.2.2.2.2.2.2.2.2.2.2.2.2.2.2.2.2.2.2.2.2.2.2.2.1)
 have HS43_ := (hb.cell (World.block_lt_of_cell? _ _ (hHeld.2.2.2.2.2.2.2.2.2.2.2.2.2.2.2.2.2.2.2.2.2.2.2.2.2.2.2.2.2.2.2.2.2.2.2.2.2.2.2.2.2.2.2.1))).trans (hHeld.2.2.2.2.2.2.2.2.2.2.2.2.2.2.2.2.2.2.2.2.2.2.2.2.2.2.2.2.2.2.2.2.2.2.2.2.2.2.2.2.2.2.2.1)
 have HS44_ := (hb.cell (World.block_lt_of_cell? _ _ (hHeld.2.2.2.2.2.2.2.2.2.2.2.2.2.2.2.2.2.2.2.2.2.2.2.2.2.2.2.2.2.2.2.2.2.2.2.2.2.2.2.2.2.2.2.2.1))).trans (hHeld.2.2.2.2.2.2.2.2.2.2.2.2.2.2.2.2.2.2.2.2.2.2.2.2.2.2.2.2.2.2.2.2.2.2.2.2.2.2.2.2.2.2.2.2.1)
 have HS45_ := (hb.cell (World.block_lt_of_cell? _ _ (hHeld.2.2.2.2.2.2.2.2.2.2.2.2.2.2.2.2.2.2.2.2.2.2.2.2.2.2.2.2.2.2.2.2.2.2.2.2.2.2.2.2.2.2.2.2.2.1))).trans (hHeld.2.2.2.2.2.2.2.2.2.2.2.2.2.2.2.2.2.2.2.2.2.2.2.2.2.2.2.2.2.2.2.2.2.2.2.2.2.2.2.2.2.2.2.2.2.1)
 have HS46_ := (hb.cell (World.block_lt_of_cell? _ _ (hHeld.2.2.2.2.2.2.2.2.2.2.2.2.2.2.2.2.2.2.2.2.2.2.2.2.2.2.2.2.2.2.2.2.2.2.2.2.2.2.2.2.2.2.2.2.2.2.1))).trans (hHeld.2.2.2.2.2.2.2.2.2.2.2.2.2.2.2.2.2.2.2.2.2.2.2.2.2.2.2.2.2.2.2.2.2.2.2.2.2.2.2.2.2.2.2.2.2.2.1)
 have HS47_ := (hb.cell (World.block_lt_of_cell? _ _ (hHeld.2.2.2.2.2.2.2.2.2.2.2.2.2.2.2.2.2.2.2.2.2.2.2.2.2.2.2.2.2.2.2.2.2.2.2.2.2.2.2.2.2.2.2.2.2.2.2.1))).trans (hHeld.2.2.2.2.2.2.2.2.2.2.2.2.2.2.2.2.2.2.2.2.2.2.2.2.2.2.2.2.2.2.2.2.2.2.2.2.2.2.2.2.2.2.2.2.2.2.2.1)
 have HS48_ := (hb.cell (World.block_lt_of_cell? _ _ (hHeld.2.2.2.2.2.2.2.2.2.2.2.2.2.2.2.2.2.2.2.2.2.2.2.2.2.2.2.2.2.2.2.2.2.2.2.2.2.2.2.2.2.2.2.2.2.2.2.2.1))).trans (hHeld.2.2.2.2.2.2.2.2.2.2.2.2.2.2.2.2.2.2.2.2.2.2.2.2.2.2.2.2.2.2.2.2.2.2.2.2.2.2.2.2.2.2.2.2.2.2.2.2.1)
 have HS49_ := (hb.cell (World.block_lt_of_cell? _ _ (hHeld.2.2.2.2.2.2.2.2.2.2.2.2.2.2.2.2.2.2.2.2.2.2.2.2.2.2.2.2.2.2.2.2.2.2.2.2.2.2.2.2.2.2.2.2.2.2.2.2.2.1))).trans (hHeld.2.2.2.2.2.2.2.2.2.2.2.2.2.2.2.2.2.2.2.2.2.2.2.2.2.2.2.2.2.2.2.2.2.2.2.2.2.2.2.2.2.2.2.2.2.2.2.2.2.1)
 have HS50_ := (hb.cell (World.block_lt_of_cell? _ _ (hHeld.2.2.2.2.2.2.2.2.2.2.2.2.2.2.2.2.2.2.2.2.2.2.2.2.2.2.2.2.2.2.2.2.2.2.2.2.2.2.2.2.2.2.2.2.2.2.2.2.2.2.1))).trans (hHeld.2.2.2.2.2.2.2.2.2.2.2.2.2.2.2.2.2.2.2.2.2.2.2.2.2.2.2.2.2.2.2.2.2.2.2.2.2.2.2.2.2.2.2.2.2.2.2.2.2.2.1)
 have HS51_ := (hb.cell (World.block_lt_of_cell? _ _ (hHeld.2.2.2.2.2.2.2.2.2.2.2.2.2.2.2.2.2.2.2.2.2.2.2.2.2.2.2.2.2.2.2.2.2.2.2.2.2.2.2.2.2.2.2.2.2.2.2.2.2.2.2.1))).trans (hHeld.2.2.2.2.2.2.2.2.2.2.2.2.2.2.2.2.2.2.2.2.2.2.2.2.2.2.2.2.2.2.2.2.2.2.2.2.2.2.2.2.2.2.2.2.2.2.2.2.2.2.2.1)
 have HS52_ := (hb.cell (World.block_lt_of_cell? _ _ (hHeld.2.2.2.2.2.2.2.2.2.2.2.2.2.2.2.2.2.2.2.2.2.2.2.2.2.2.2.2.2.2.2.2.2.2.2.2.2.2.2.2.2.2.2.2.2.2.2.2.2.2.2.2.1))).trans (hHeld.2.2.2.2.2.2.2.2.2.2.2.2.2.2.2.2.2.2.2.2.2.2.2.2.2.2.2.2.2.2.2.2.2.2.2.2.2.2.2.2.2.2.2.2.2.2.2.2.2.2.2.2.1)
 have HS53_ := (hb.cell (World.block_lt_of_cell? _ _ (hHeld.2.2.2.2.2.2.2.2.2.2.2.2.2.2.2.2.2.2.2.2.2.2.2.2.2.2.2.2.2.2.2.2.2.2.2.2.2.2.2.2.2.2.2.2.2.2.2.2.2.2.2.2.2))).trans (hHeld.2.2.2.2.2.2.2.2.2.2.2.2.2.2.2.2.2.2.2.2.2.2.2.2.2.2.2.2.2.2.2.2.2.2.2.2.2.2.2.2.2.2.2.2.2.2.2.2.2.2.2.2.2)
 refine ⟨_, rfl, ?_⟩
 have n0_ := Aside0.mk (Kd.R_below (rq HO_11.out) hb)
 have n1_ := Aside0.mk (blk_below (g := gb172) (o := .cells #[.int .i64 a0_0, .int .i64 a0_1, .int .i64 a0_2, .int .i64 a0_3, .int .i64 a0_4, .int .i64 a0_5, .int .i64 a0_6, .int .i64 a0_7, .int .i64 a0_8] 39 (0, 0)) (kq BK172.out) hb)
 have n2_ := Aside0.mk (blk_below (g := gb173) (o := .cells #[.int .i64 a1_0, .int .i64 a1_1, .int .i64 a1_2, .int .i64 a1_3, .int .i64 a1_4, .int .i64 a1_5, .int .i64 a1_6, .int .i64 a1_7, .int .i64 a1_8] 39 (0, 0)) (kq BK173.out) hb)
 have n3_ := Aside0.mk (blk_below (g := gb174) (o := .cells #[.int .i64 a2_0, .int .i64 a2_1, .int .i64 a2_2, .int .i64 a2_3, .int .i64 a2_4, .int .i64 a2_5, .int .i64 a2_6, .int .i64 a2_7, .int .i64 a2_8] 39 (0, 0)) (kq BK174.out) hb)
 have n4_ := Aside0.mk (below_step (bq3 HB.out GE172.out GE173.out GE174.out) hb)
 clear HO_11
 clear BK172
 clear BK173
 clear BK174
 clear HB
 have HO_11 := n0_
 have BK172 := n1_
 have BK173 := n2_
 have BK174 := n3_
 have HB := n4_
 clear n0_ n1_ n2_ n3_ n4_
 (try clear hb)
 (try clear hb2)
 (try clear hk)
 (try clear hi)
 refine hK.out _ _ ⟨HS0_, HS1_, HS2_, HS3_, HS4_, HS5_, HS6_, HS7_, HS8_, HS9_, HS10_, HS11_, HS12_, HS13_, HS14_, HS15_, HS16_, HS17_, HS18_, HS19_, HS20_, HS21_, HS22_, HS23_, HS24_, HS25_, HS26_, HS27_, HS28_, HS29_, HS30_, HS31_, HS32_, HS33_, HS34_, HS35_, HS36_, HS37_, HS38_, HS39_, HS40_, HS41_, HS42_, HS43_, HS44_, HS45_, HS46_, HS47_, HS48_, HS49_, HS50_, HS51_, HS52_, HS53_⟩ (fun hHeld => ?_)
 clear hK K
 refine norm_ (a' := ?_) ?_ ?_
 rotate_left
 ·(
 show Act.put _ (some 56) _ = _
 simp only [Act.put, List.setIfInBounds_toArray, List.set_cons_zero, List.set_cons_succ, i64_w, i32_w]
 rfl)
 refine pure_ (i := 9) (N := some 57) (v := ?_) (a' := ?_) #[true, true, true, true, true, true, true, true, true, true, false, false, false, false, false, false, false, false, false, false, false, false, false, false, false, false, false, false, false, false, false, false, false, false] rfl rfl (any_of HT_.out (by kernel_rfl)) (fun _ _ _ h => h) (Or.inl ⟨by rfl, ?_⟩) ?_ ?_
 rotate_left
 ·(
 intro w'
 go_simp
 with_reducible rfl)
 rotate_left
 ·(
 simp only [Act.put, List.setIfInBounds_toArray, List.set_cons_zero, List.set_cons_succ, i64_w, i32_w]
 rfl)
 refine pure_ (i := 10) (N := some 58) (v := ?_) (a' := ?_) #[true, true, true, true, true, true, true, true, true, true, true, false, false, false, false, false, false, false, false, false, false, false, false, false, false, false, false, false, false, false, false, false, false, false] rfl rfl (any_of HT_.out (by kernel_rfl)) (fun _ _ _ h => h) (Or.inl ⟨by rfl, ?_⟩) ?_ ?_
 rotate_left
 ·(
 intro w'
 go_simp
 with_reducible rfl)
 rotate_left
 ·(
 simp only [Act.put, List.setIfInBounds_toArray, List.set_cons_zero, List.set_cons_succ, i64_w, i32_w]
 rfl)
 refine pure_ (i := 11) (N := some 59) (v := ?_) (a' := ?_) #[true, true, true, true, true, true, true, true, true, true, true, true, false, false, false, false, false, false, false, false, false, false, false, false, false, false, false, false, false, false, false, false, false, false] rfl rfl (any_of HT_.out (by kernel_rfl)) (fun _ _ _ h => h) (Or.inl ⟨by rfl, ?_⟩) ?_ ?_
 rotate_left
 ·(
 intro w'
 go_simp
 with_reducible rfl)
 rotate_left
 ·(
 simp only [Act.put, List.setIfInBounds_toArray, List.set_cons_zero, List.set_cons_succ, i64_w, i32_w]
 rfl)
 refine pure_ (i := 12) (N := some 60) (v := ?_) (a' := ?_) #[true, true, true, true, true, true, true, true, true, true, true, true, true, false, false, false, false, false, false, false, false, false, false, false, false, false, false, false, false, false, false, false, false, false] rfl rfl (any_of HT_.out (by kernel_rfl)) (fun _ _ _ h => h) (Or.inl ⟨by rfl, ?_⟩) ?_ ?_
 rotate_left
 ·(
 intro w'
 go_simp
 with_reducible rfl)
 rotate_left
 ·(
 simp only [Act.put, List.setIfInBounds_toArray, List.set_cons_zero, List.set_cons_succ, i64_w, i32_w]
 rfl)
 refine pure_ (i := 13) (N := some 61) (v := ?_) (a' := ?_) #[true, true, true, true, true, true, true, true, true, true, true, true, true, true, false, false, false, false, false, false, false, false, false, false, false, false, false, false, false, false, false, false, false, false] rfl rfl (any_of HT_.out (by kernel_rfl)) (fun _ _ _ h => h) (Or.inl ⟨by rfl, ?_⟩) ?_ ?_
 rotate_left
 ·(
 intro w'
 go_simp
 with_reducible rfl)
 rotate_left
 ·(
 simp only [Act.put, List.setIfInBounds_toArray, List.set_cons_zero, List.set_cons_succ, i64_w, i32_w]
 rfl)
 refine pure_ (i := 15) (N := some 63) (v := ?_) (a' := ?_) #[true, true, true, true, true, true, true, true, true, true, true, true, true, true, false, true, false, false, false, false, false, false, false, false, false, false, false, false, false, false, false, false, false, false] rfl rfl (any_of HT_.out (by kernel_rfl)) (fun _ _ _ h => h) (Or.inl ⟨by rfl, ?_⟩) ?_ ?_
 rotate_left
 ·(
 intro w'
 go_simp
 with_reducible rfl)
 rotate_left
 ·(
 simp only [Act.put, List.setIfInBounds_toArray, List.set_cons_zero, List.set_cons_succ, i64_w, i32_w]
 rfl)
 refine pure_ (i := 16) (N := some 64) (v := ?_) (a' := ?_) #[true, true, true, true, true, true, true, true, true, true, true, true, true, true, false, true, true, false, false, false, false, false, false, false, false, false, false, false, false, false, false, false, false, false] rfl rfl (any_of HT_.out (by kernel_rfl)) (fun _ _ _ h => h) (Or.inl ⟨by rfl, ?_⟩) ?_ ?_
 rotate_left
 ·(
 intro w'
 go_simp
 with_reducible rfl)
 rotate_left
 ·(
 simp only [Act.put, List.setIfInBounds_toArray, List.set_cons_zero, List.set_cons_succ, i64_w, i32_w]
 rfl)
 refine pure_ (i := 17) (N := some 65) (v := ?_) (a' := ?_) #[true, true, true, true, true, true, true, true, true, true, true, true, true, true, false, true, true, true, false, false, false, false, false, false, false, false, false, false, false, false, false, false, false, false] rfl rfl (any_of HT_.out (by kernel_rfl)) (fun _ _ _ h => h) (Or.inl ⟨by rfl, ?_⟩) ?_ ?_
 rotate_left
 ·(
 intro w'
 go_simp
 with_reducible rfl)
 rotate_left
 ·(
 simp only [Act.put, List.setIfInBounds_toArray, List.set_cons_zero, List.set_cons_succ, i64_w, i32_w]
 rfl)
 refine take_ (i := 14) (N := some 62) (v := ?_) (a' := ?_) #[true, true, true, true, true, true, true, true, true, true, true, true, true, true, true, true, true, true, false, false, false, false, false, false, false, false, false, false, false, false, false, false, false, false] rfl rfl (take_ofW HT_.out HW_.out (by kernel_rfl)) (fun _ _ _ h => h) (Or.inl ⟨by rfl, ?_⟩) hHeld ?_ ?_
 rotate_left
 ·(
 rintro w' ⟨s0, s1, s2, s3, s4, s5, s6, s7, s8, s9, s10, s11, s12, s13, s14, s15, s16, s17, s18, s19, s20, s21, s22, s23, s24, s25, s26, s27, s28, s29, s30, s31, s32, s33, s34, s35, s36, s37, s38, s39, s40, s41, s42, s43, s44, s45, s46, s47, s48, s49, s50, s51, s52, s53⟩
 go_simp
 with_reducible rfl)
 rotate_left
 ·(
 simp only [Act.put, List.setIfInBounds_toArray, List.set_cons_zero, List.set_cons_succ, i64_w, i32_w]
 rfl)
 refine take_ (i := 18) (N := some 66) (v := ?_) (a' := ?_) #[true, true, true, true, true, true, true, true, true, true, true, true, true, true, true, true, true, true, true, false, false, false, false, false, false, false, false, false, false, false, false, false, false, false] rfl rfl (take_ofW HT_.out HW_.out (by kernel_rfl)) (fun _ _ _ h => h) (Or.inl ⟨by rfl, ?_⟩) hHeld ?_ ?_
 rotate_left
 ·(
 rintro w' ⟨s0, s1, s2, s3, s4, s5, s6, s7, s8, s9, s10, s11, s12, s13, s14, s15, s16, s17, s18, s19, s20, s21, s22, s23, s24, s25, s26, s27, s28, s29, s30, s31, s32, s33, s34, s35, s36, s37, s38, s39, s40, s41, s42, s43, s44, s45, s46, s47, s48, s49, s50, s51, s52, s53⟩
 go_simp
 with_reducible rfl)
 rotate_left
 ·(
 simp only [Act.put, List.setIfInBounds_toArray, List.set_cons_zero, List.set_cons_succ, i64_w, i32_w]
 rfl)
 refine one_ (i := 19) (N := some 67) #[true, true, true, true, true, true, true, true, true, true, true, true, true, true, true, true, true, true, true, true, false, false, false, false, false, false, false, false, false, false, false, false, false, false] rfl rfl (one_of HT_.out (by kernel_rfl)) (by decide) (fun K hK => ?_)
 refine goes_ Try.func21 (by kernel_rfl) rfl #[.agg #[.int .i64 ((rd_T39 y194 x13_2).f0), .int .i64 ((rd_T39 y194 x13_2).f1), .int .i64 ((rd_T39 y194 x13_2).f2.f0), .int .i64 ((rd_T39 y194 x13_2).f2.f1), .int .i64 ((rd_T39 y194 x13_2).f2.f2), .int .i64 ((rd_T39 y194 x13_2).f2.f3.f0), .int .i64 ((rd_T39 y194 x13_2).f2.f3.f1), .int .i64 ((rd_T39 y194 x13_2).f2.f4), .int .i64 ((rd_T39 y194 x13_2).f2.f5)], .agg #[.int .i64 ((rd_T39 y194 x14_3).f0), .int .i64 ((rd_T39 y194 x14_3).f1), .int .i64 ((rd_T39 y194 x14_3).f2.f0), .int .i64 ((rd_T39 y194 x14_3).f2.f1), .int .i64 ((rd_T39 y194 x14_3).f2.f2), .int .i64 ((rd_T39 y194 x14_3).f2.f3.f0), .int .i64 ((rd_T39 y194 x14_3).f2.f3.f1), .int .i64 ((rd_T39 y194 x14_3).f2.f4), .int .i64 ((rd_T39 y194 x14_3).f2.f5)]] (by first | rfl | (refine wanted_on rfl rfl rfl ?_; first | assumption | (simp [*]; done))) rfl rfl (by (try simp only [List.map_toArray, List.map_cons, List.map_nil]); first | done | rfl | (simp only [List.length_drop, List.length_take]; rfl)) ?_
 with_reducible refine (determinant_Compare.calls k3 ((rd_T39 y194 x13_2).f0) ((rd_T39 y194 x13_2).f1) ((rd_T39 y194 x13_2).f2.f0) ((rd_T39 y194 x13_2).f2.f1) ((rd_T39 y194 x13_2).f2.f2) ((rd_T39 y194 x13_2).f2.f3.f0) ((rd_T39 y194 x13_2).f2.f3.f1) ((rd_T39 y194 x13_2).f2.f4) ((rd_T39 y194 x13_2).f2.f5) ((rd_T39 y194 x14_3).f0) ((rd_T39 y194 x14_3).f1) ((rd_T39 y194 x14_3).f2.f0) ((rd_T39 y194 x14_3).f2.f1) ((rd_T39 y194 x14_3).f2.f2) ((rd_T39 y194 x14_3).f2.f3.f0) ((rd_T39 y194 x14_3).f2.f3.f1) ((rd_T39 y194 x14_3).f2.f4) ((rd_T39 y194 x14_3).f2.f5) t202 _ A30.out).mono ?_
 rintro e w40 ⟨rfl, hb⟩
 have HS0_ := (hb.cell (World.block_lt_of_cell? _ _ (hHeld.1))).trans (hHeld.1)
 have HS1_ := (hb.cell (World.block_lt_of_cell? _ _ (hHeld.2.1))).trans (hHeld.2.1)
 have HS2_ := (hb.cell (World.block_lt_of_cell? _ _ (hHeld.2.2.1))).trans (hHeld.2.2.1)
 have HS3_ := (hb.cell (World.block_lt_of_cell? _ _ (hHeld.2.2.2.1))).trans (hHeld.2.2.2.1)
 have HS4_ := (hb.cell (World.block_lt_of_cell? _ _ (hHeld.2.2.2.2.1))).trans (hHeld.2.2.2.2.1)
 have HS5_ := (hb.cell (World.block_lt_of_cell? _ _ (hHeld.2.2.2.2.2.1))).trans (hHeld.2.2.2.2.2.1)
 have HS6_ := (hb.cell (World.block_lt_of_cell? _ _ (hHeld.2.2.2.2.2.2.1))).trans (hHeld.2.2.2.2.2.2.1)
 have HS7_ := (hb.cell (World.block_lt_of_cell? _ _ (hHeld.2.2.2.2.2.2.2.1))).trans (hHeld.2.2.2.2.2.2.2.1)
 have HS8_ := (hb.cell (World.block_lt_of_cell? _ _ (hHeld.2.2.2.2.2.2.2.2.1))).trans (hHeld.2.2.2.2.2.2.2.2.1)
 have HS9_ := (hb.cell (World.block_lt_of_cell? _ _ (hHeld.2.2.2.2.2.2.2.2.2.1))).trans (hHeld.2.2.2.2.2.2.2.2.2.1)
 have HS10_ := (hb.cell (World.block_lt_of_cell? _ _ (hHeld.2.2.2.2.2.2.2.2.2.2.1))).trans (hHeld.2.2.2.2.2.2.2.2.2.2.1)
 have HS11_ := (hb.cell (World.block_lt_of_cell? _ _ (hHeld.2.2.2.2.2.2.2.2.2.2.2.1))).trans (hHeld.2.2.2.2.2.2.2.2.2.2.2.1)
 have HS12_ := (hb.cell (World.block_lt_of_cell? _ _ (hHeld.2.2.2.2.2.2.2.2.2.2.2.2.1))).trans (hHeld.2.2.2.2.2.2.2.2.2.2.2.2.1)
 have HS13_ := (hb.cell (World.block_lt_of_cell? _ _ (hHeld.2.2.2.2.2.2.2.2.2.2.2.2.2.1))).trans (hHeld.2.2.2.2.2.2.2.2.2.2.2.2.2.1)
 have HS14_ := (hb.cell (World.block_lt_of_cell? _ _ (hHeld.2.2.2.2.2.2.2.2.2.2.2.2.2.2.1))).trans (hHeld.2.2.2.2.2.2.2.2.2.2.2.2.2.2.1)
 have HS15_ := (hb.cell (World.block_lt_of_cell? _ _ (hHeld.2.2.2.2.2.2.2.2.2.2.2.2.2.2.2.1))).trans (hHeld.2.2.2.2.2.2.2.2.2.2.2.2.2.2.2.1)
 have HS16_ := (hb.cell (World.block_lt_of_cell? _ _ (hHeld.2.2.2.2.2.2.2.2.2.2.2.2.2.2.2.2.1))).trans (hHeld.2.2.2.2.2.2.2.2.2.2.2.2.2.2.2.2.1)
 have HS17_ := (hb.cell (World.block_lt_of_cell? _ _ (hHeld.2.2.2.2.2.2.2.2.2.2.2.2.2.2.2.2.2.1))).trans (hHeld.2.2.2.2.2.2.2.2.2.2.2.2.2.2.2.2.2.1)
 have HS18_ := (hb.cell (World.block_lt_of_cell? _ _ (hHeld.2.2.2.2.2.2.2.2.2.2.2.2.2.2.2.2.2.2.1))).trans (hHeld.2.2.2.2.2.2.2.2.2.2.2.2.2.2.2.2.2.2.1)
 have HS19_ := (hb.cell (World.block_lt_of_cell? _ _ (hHeld.2.2.2.2.2.2.2.2.2.2.2.2.2.2.2.2.2.2.2.1))).trans (hHeld.2.2.2.2.2.2.2.2.2.2.2.2.2.2.2.2.2.2.2.1)
 have HS20_ := (hb.cell (World.block_lt_of_cell? _ _ (hHeld.2.2.2.2.2.2.2.2.2.2.2.2.2.2.2.2.2.2.2.2.1))).trans (hHeld.2.2.2.2.2.2.2.2.2.2.2.2.2.2.2.2.2.2.2.2.1)
 have HS21_ := (hb.cell (World.block_lt_of_cell? _ _ (hHeld.2.2.2.2.2.2.2.2.2.2.2.2.2.2.2.2.2.2.2.2.2.1))).trans (hHeld.2.2.2.2.2.2.2.2.2.2.2.2.2.2.2.2.2.2.2.2.2.1)
 have HS22_ := (hb.cell (World.block_lt_of_cell? _ _ (hHeld.2.2.2.2.2.2.2.2.2.2.2.2.2.2.2.2.2.2.2.2.2.2.1))).trans (hHeld.2.2.2.2.2.2.2.2.2.2.2.2.2.2.2.2.2.2.2.2.2.2.1)
 have HS23_ := (hb.cell (World.block_lt_of_cell? _ _ (hHeld.2.2.2.2.2.2.2.2.2.2.2.2.2.2.2.2.2.2.2.2.2.2.2.1))).trans (hHeld.2.2.2.2.2.2.2.2.2.2.2.2.2.2.2.2.2.2.2.2.2.2.2.1)
 have HS24_ := (hb.cell (World.block_lt_of_cell? _ _ (hHeld.2.2.2.2.2.2.2.2.2.2.2.2.2.2.2.2.2.2.2.2.2.2.2.2.1))).trans (hHeld.2.2.2.2.2.2.2.2.2.2.2.2.2.2.2.2.2.2.2.2.2.2.2.2.1)
 have HS25_ := (hb.cell (World.block_lt_of_cell? _ _ (hHeld.2.2.2.2.2.2.2.2.2.2.2.2.2.2.2.2.2.2.2.2.2.2.2.2.2.1))).trans (hHeld.2.2.2.2.2.2.2.2.2.2.2.2.2.2.2.2.2.2.2.2.2.2.2.2.2.1)
 have HS26_ := (hb.cell (World.block_lt_of_cell? _ _ (hHeld.2.2.2.2.2.2.2.2.2.2.2.2.2.2.2.2.2.2.2.2.2.2.2.2.2.2.1))).trans (hHeld.2.2.2.2.2.2.2.2.2.2.2.2.2.2.2.2.2.2.2.2.2.2.2.2.2.2.1)
 have HS27_ := (hb.cell (World.block_lt_of_cell? _ _ (hHeld.2.2.2.2.2.2.2.2.2.2.2.2.2.2.2.2.2.2.2.2.2.2.2.2.2.2.2.1))).trans (hHeld.2.2.2.2.2.2.2.2.2.2.2.2.2.2.2.2.2.2.2.2.2.2.2.2.2.2.2.1)
 have HS28_ := (hb.cell (World.block_lt_of_cell? _ _ (hHeld.2.2.2.2.2.2.2.2.2.2.2.2.2.2.2.2.2.2.2.2.2.2.2.2.2.2.2.2.1))).trans (hHeld.2.2.2.2.2.2.2.2.2.2.2.2.2.2.2.2.2.2.2.2.2.2.2.2.2.2.2.2.1)
 have HS29_ := (hb.cell (World.block_lt_of_cell? _ _ (hHeld.2.2.2.2.2.2.2.2.2.2.2.2.2.2.2.2.2.2.2.2.2.2.2.2.2.2.2.2.2.1))).trans (hHeld.2.2.2.2.2.2.2.2.2.2.2.2.2.2.2.2.2.2.2.2.2.2.2.2.2.2.2.2.2.1)
 have HS30_ := (hb.cell (World.block_lt_of_cell? _ _ (hHeld.2.2.2.2.2.2.2.2.2.2.2.2.2.2.2.2.2.2.2.2.2.2.2.2.2.2.2.2.2.2.1))).trans (hHeld.2.2.2.2.2.2.2.2.2.2.2.2.2.2.2.2.2.2.2.2.2.2.2.2.2.2.2.2.2.2.1)
 have HS31_ := (hb.cell (World.block_lt_of_cell? _ _ (hHeld.2.2.2.2.2.2.2.2.2.2.2.2.2.2.2.2.2.2.2.2.2.2.2.2.2.2.2.2.2.2.2.1))).trans (hHeld.2.2.2.2.2.2.2.2.2.2.2.2.2.2.2.2.2.2.2.2.2.2.2.2.2.2.2.2.2.2.2.1)
 have HS32_ := (hb.cell (World.block_lt_of_cell? _ _ (hHeld.2.2.2.2.2.2.2.2.2.2.2.2.2.2.2.2.2.2.2.2.2.2.2.2.2.2.2.2.2.2.2.2.1))).trans (hHeld.2.2.2.2.2.2.2.2.2.2.2.2.2.2.2.2.2.2.2.2.2.2.2.2.2.2.2.2.2.2.2.2.1)
 have HS33_ := (hb.cell (World.block_lt_of_cell? _ _ (hHeld.2.2.2.2.2.2.2.2.2.2.2.2.2.2.2.2.2.2.2.2.2.2.2.2.2.2.2.2.2.2.2.2.2.1))).trans (hHeld.2.2.2.2.2.2.2.2.2.2.2.2.2.2.2.2.2.2.2.2.2.2.2.2.2.2.2.2.2.2.2.2.2.1)
 have HS34_ := (hb.cell (World.block_lt_of_cell? _ _ (hHeld.2.2.2.2.2.2.2.2.2.2.2.2.2.2.2.2.2.2.2.2.2.2.2.2.2.2.2.2.2.2.2.2.2.2.1))).trans (hHeld.2.2.2.2.2.2.2.2.2.2.2.2.2.2.2.2.2.2.2.2.2.2.2.2.2.2.2.2.2.2.2.2.2.2.1)
 have HS35_ := (hb.cell (World.block_lt_of_cell? _ _ (hHeld.2.2.2.2.2.2.2.2.2.2.2.2.2.2.2.2.2.2.2.2.2.2.2.2.2.2.2.2.2.2.2.2.2.2.2.1))).trans (hHeld.2.2.2.2.2.2.2.2.2.2.2.2.2.2.2.2.2.2.2.2.2.2.2.2.2.2.2.2.2.2.2.2.2.2.2.1)
 have HS36_ := (hb.cell (World.block_lt_of_cell? _ _ (hHeld.2.2.2.2.2.2.2.2.2.2.2.2.2.2.2.2.2.2.2.2.2.2.2.2.2.2.2.2.2.2.2.2.2.2.2.2.1))).trans (hHeld.2.2.2.2.2.2.2.2.2.2.2.2.2.2.2.2.2.2.2.2.2.2.2.2.2.2.2.2.2.2.2.2.2.2.2.2.1)
 have HS37_ := (hb.cell (World.block_lt_of_cell? _ _ (hHeld.2.2.2.2.2.2.2.2.2.2.2.2.2.2.2.2.2.2.2.2.2.2.2.2.2.2.2.2.2.2.2.2.2.2.2.2.2.1))).trans (hHeld.2.2.2.2.2.2.2.2.2.2.2.2.2.2.2.2.2.2.2.2.2.2.2.2.2.2.2.2.2.2.2.2.2.2.2.2.2.1)
 have HS38_ := (hb.cell (World.block_lt_of_cell? _ _ (hHeld.2.2.2.2.2.2.2.2.2.2.2.2.2.2.2.2.2.2.2.2.2.2.2.2.2.2.2.2.2.2.2.2.2.2.2.2.2.2.1))).trans (hHeld.2.2.2.2.2.2.2.2.2.2.2.2.2.2.2.2.2.2.2.2.2.2.2.2.2.2.2.2.2.2.2.2.2.2.2.2.2.2.1)
 have HS39_ := (hb.cell (World.block_lt_of_cell? _ _ (hHeld.2.2.2.2.2.2.2.2.2.2.2.2.2.2.2.2.2.2.2.2.2.2.2.2.2.2.2.2.2.2.2.2.2.2.2.2.2.2.2.1))).trans (hHeld.2.2.2.2.2.2.2.2.2.2.2.2.2.2.2.2.2.2.2.2.2.2.2.2.2.2.2.2.2.2.2.2.2.2.2.2.2.2.2.1)
 have HS40_ := (hb.cell (World.block_lt_of_cell? _ _ (hHeld.2.2.2.2.2.2.2.2.2.2.2.2.2.2.2.2.2.2.2.2.2.2.2.2.2.2.2.2.2.2.2.2.2.2.2.2.2.2.2.2.1))).trans (hHeld.2.2.2.2.2.2.2.2.2.2.2.2.2.2.2.2.2.2.2.2.2.2.2.2.2.2.2.2.2.2.2.2.2.2.2.2.2.2.2.2.1)
 have HS41_ := (hb.cell (World.block_lt_of_cell? _ _ (hHeld.2.2.2.2.2.2.2.2.2.2.2.2.2.2.2.2.2.2.2.2.2.2.2.2.2.2.2.2.2.2.2.2.2.2.2.2.2.2.2.2.2.1))).trans (hHeld.2.2.2.2.2.2.2.2.2.2.2.2.2.2.2.2.2.2.2.2.2.2.2.2.2.2.2.2.2.2.2.2.2.2.2.2.2.2.2.2.2.1)
 have HS42_ := (hb.cell (World.block_lt_of_cell? _ _ (hHeld.2.2.2.2.2.2.2.2.2.2.2.2.2.2.2.2.2.2.2.2.2.2.2.2.2.2.2.2.2.2.2.2.2.2.2.2.2.2.2.2.2.2.1))).trans (hHeld.2.2.2.2.2.2.2.2.2.2.2.2.2.2.2.2.2.2.2.2.2.2.2.2.2.2.2.2.2.2.2.2.2.2.2.2.2.2.2.2.2.2.1)
 have HS43_ := (hb.cell (World.block_lt_of_cell? _ _ (hHeld.2.2.2.2.2.2.2.2.2.2.2.2.2.2.2.2.2.2.2.2.2.2.2.2.2.2.2.2.2.2.2.2.2.2.2.2.2.2.2.2.2.2.2.1))).trans (hHeld.2.2.2.2.2.2.2.2.2.2.2.2.2.2.2.2.2.2.2.2.2.2.2.2.2.2.2.2.2.2.2.2.2.2.2.2.2.2.2.2.2.2.2.1)
 have HS44_ := (hb.cell (World.block_lt_of_cell? _ _ (hHeld.2.2.2.2.2.2.2.2.2.2.2.2.2.2.2.2.2.2.2.2.2.2.2.2.2.2.2.2.2.2.2.2.2.2.2.2.2.2.2.2.2.2.2.2.1))).trans (hHeld.2.2.2.2.2.2.2.2.2.2.2.2.2.2.2.2.2.2.2.2.2.2.2.2.2.2.2.2.2.2.2.2.2.2.2.2.2.2.2.2.2.2.2.2.1)
 have HS45_ := (hb.cell (World.block_lt_of_cell? _ _ (hHeld.2.2.2.2.2.2.2.2.2.2.2.2.2.2.2.2.2.2.2.2.2.2.2.2.2.2.2.2.2.2.2.2.2.2.2.2.2.2.2.2.2.2.2.2.2.1))).trans (hHeld.2.2.2.2.2.2.2.2.2.2.2.2.2.2.2.2.2.2.2.2.2.2.2.2.2.2.2.2.2.2.2.2.2.2.2.2.2.2.2.2.2.2.2.2.2.1)
 have HS46_ := (hb.cell (World.block_lt_of_cell? _ _ (hHeld.2.2.2.2.2.2.2.2.2.2.2.2.2.2.2.2.2.2.2.2.2.2.2.2.2.2.2.2.2.2.2.2.2.2.2.2.2.2.2.2.2.2.2.2.2.2.1))).trans (hHeld.2.2.2.2.2.2.2.2.2.2.2.2.2.2.2.2.2.2.2.2.2.2.2.2.2.2.2.2.2.2.2.2.2.2.2.2.2.2.2.2.2.2.2.2.2.2.1)
 have HS47_ := (hb.cell (World.block_lt_of_cell? _ _ (hHeld.2.2.2.2.2.2.2.2.2.2.2.2.2.2.2.2.2.2.2.2.2.2.2.2.2.2.2.2.2.2.2.2.2.2.2.2.2.2.2.2.2.2.2.2.2.2.2.1))).trans (hHeld.2.2.2.2.2.2.2.2.2.2.2.2.2.2.2.2.2.2.2.2.2.2.2.2.2.2.2.2.2.2.2.2.2.2.2.2.2.2.2.2.2.2.2.2.2.2.2.1)
 have HS48_ := (hb.cell (World.block_lt_of_cell? _ _ (hHeld.2.2.2.2.2.2.2.2.2.2.2.2.2.2.2.2.2.2.2.2.2.2.2.2.2.2.2.2.2.2.2.2.2.2.2.2.2.2.2.2.2.2.2.2.2.2.2.2.1))).trans (hHeld.2.2.2.2.2.2.2.2.2.2.2.2.2.2.2.2.2.2.2.2.2.2.2.2.2.2.2.2.2.2.2.2.2.2.2.2.2.2.2.2.2.2.2.2.2.2.2.2.1)
 have HS49_ := (hb.cell (World.block_lt_of_cell? _ _ (hHeld.2.2.2.2.2.2.2.2.2.2.2.2.2.2.2.2.2.2.2.2.2.2.2.2.2.2.2.2.2.2.2.2.2.2.2.2.2.2.2.2.2.2.2.2.2.2.2.2.2.1))).trans (hHeld.2.2.2.2.2.2.2.2.2.2.2.2.2.2.2.2.2.2.2.2.2.2.2.2.2.2.2.2.2.2.2.2.2.2.2.2.2.2.2.2.2.2.2.2.2.2.2.2.2.1)
 have HS50_ := (hb.cell (World.block_lt_of_cell? _ _ (hHeld.2.2.2.2.2.2.2.2.2.2.2.2.2.2.2.2.2.2.2.2.2.2.2.2.2.2.2.2.2.2.2.2.2.2.2.2.2.2.2.2.2.2.2.2.2.2.2.2.2.2.1))).trans (hHeld.2.2.2.2.2.2.2.2.2.2.2.2.2.2.2.2.2.2.2.2.2.2.2.2.2.2.2.2.2.2.2.2.2.2.2.2.2.2.2.2.2.2.2.2.2.2.2.2.2.2.1)
 have HS51_ := (hb.cell (World.block_lt_of_cell? _ _ (hHeld.2.2.2.2.2.2.2.2.2.2.2.2.2.2.2.2.2.2.2.2.2.2.2.2.2.2.2.2.2.2.2.2.2.2.2.2.2.2.2.2.2.2.2.2.2.2.2.2.2.2.2.1))).trans (hHeld.2.2.2.2.2.2.2.2.2.2.2.2.2.2.2.2.2.2.2.2.2.2.2.2.2.2.2.2.2.2.2.2.2.2.2.2.2.2.2.2.2.2.2.2.2.2.2.2.2.2.2.1)
 have HS52_ := (hb.cell (World.block_lt_of_cell? _ _ (hHeld.2.2.2.2.2.2.2.2.2.2.2.2.2.2.2.2.2.2.2.2.2.2.2.2.2.2.2.2.2.2.2.2.2.2.2.2.2.2.2.2.2.2.2.2.2.2.2.2.2.2.2.2.1))).trans (hHeld.2.2.2.2.2.2.2.2.2.2.2.2.2.2.2.2.2.2.2.2.2.2.2.2.2.2.2.2.2.2.2.2.2.2.2.2.2.2.2.2.2.2.2.2.2.2.2.2.2.2.2.2.1)
 have HS53_ := (hb.cell (World.block_lt_of_cell? _ _ (hHeld.2.2.2.2.2.2.2.2.2.2.2.2.2.2.2.2.2.2.2.2.2.2.2.2.2.2.2.2.2.2.2.2.2.2.2.2.2.2.2.2.2.2.2.2.2.2.2.2.2.2.2.2.2))).trans (hHeld.2.2.2.2.2.2.2.2.2.2.2.2.2.2.2.2.2.2.2.2.2.2.2.2.2.2.2.2.2.2.2.2.2.2.2.2.2.2.2.2.2.2.2.2.2.2.2.2.2.2.2.2.2)
 refine ⟨_, rfl, ?_⟩
 have n0_ := Aside0.mk (Kd.R_below (rq HO_11.out) hb)
 have n1_ := Aside0.mk (blk_below (g := gb172) (o := .cells #[.int .i64 a0_0, .int .i64 a0_1, .int .i64 a0_2, .int .i64 a0_3, .int .i64 a0_4, .int .i64 a0_5, .int .i64 a0_6, .int .i64 a0_7, .int .i64 a0_8] 39 (0, 0)) (kq BK172.out) hb)
 have n2_ := Aside0.mk (blk_below (g := gb173) (o := .cells #[.int .i64 a1_0, .int .i64 a1_1, .int .i64 a1_2, .int .i64 a1_3, .int .i64 a1_4, .int .i64 a1_5, .int .i64 a1_6, .int .i64 a1_7, .int .i64 a1_8] 39 (0, 0)) (kq BK173.out) hb)
 have n3_ := Aside0.mk (blk_below (g := gb174) (o := .cells #[.int .i64 a2_0, .int .i64 a2_1, .int .i64 a2_2, .int .i64 a2_3, .int .i64 a2_4, .int .i64 a2_5, .int .i64 a2_6, .int .i64 a2_7, .int .i64 a2_8] 39 (0, 0)) (kq BK174.out) hb)
 have n4_ := Aside0.mk (below_step (bq3 HB.out GE172.out GE173.out GE174.out) hb)
 clear HO_11
 clear BK172
 clear BK173
 clear BK174
 clear HB
 have HO_11 := n0_
 have BK172 := n1_
 have BK173 := n2_
 have BK174 := n3_
 have HB := n4_
 clear n0_ n1_ n2_ n3_ n4_
 (try clear hb)
 (try clear hb2)
 (try clear hk)
 (try clear hi)
 refine hK.out _ _ ⟨HS0_, HS1_, HS2_, HS3_, HS4_, HS5_, HS6_, HS7_, HS8_, HS9_, HS10_, HS11_, HS12_, HS13_, HS14_, HS15_, HS16_, HS17_, HS18_, HS19_, HS20_, HS21_, HS22_, HS23_, HS24_, HS25_, HS26_, HS27_, HS28_, HS29_, HS30_, HS31_, HS32_, HS33_, HS34_, HS35_, HS36_, HS37_, HS38_, HS39_, HS40_, HS41_, HS42_, HS43_, HS44_, HS45_, HS46_, HS47_, HS48_, HS49_, HS50_, HS51_, HS52_, HS53_⟩ (fun hHeld => ?_)
 clear hK K
 refine norm_ (a' := ?_) ?_ ?_
 rotate_left
 ·(
 show Act.put _ (some 67) _ = _
 simp only [Act.put, List.setIfInBounds_toArray, List.set_cons_zero, List.set_cons_succ, i64_w, i32_w]
 rfl)
 refine pure_ (i := 20) (N := some 68) (v := ?_) (a' := ?_) #[true, true, true, true, true, true, true, true, true, true, true, true, true, true, true, true, true, true, true, true, true, false, false, false, false, false, false, false, false, false, false, false, false, false] rfl rfl (any_of HT_.out (by kernel_rfl)) (fun _ _ _ h => h) (Or.inl ⟨by rfl, ?_⟩) ?_ ?_
 rotate_left
 ·(
 intro w'
 go_simp
 with_reducible rfl)
 rotate_left
 ·(
 simp only [Act.put, List.setIfInBounds_toArray, List.set_cons_zero, List.set_cons_succ, i64_w, i32_w]
 rfl)
 refine pure_ (i := 21) (N := some 69) (v := ?_) (a' := ?_) #[true, true, true, true, true, true, true, true, true, true, true, true, true, true, true, true, true, true, true, true, true, true, false, false, false, false, false, false, false, false, false, false, false, false] rfl rfl (any_of HT_.out (by kernel_rfl)) (fun _ _ _ h => h) (Or.inl ⟨by rfl, ?_⟩) ?_ ?_
 rotate_left
 ·(
 intro w'
 go_simp
 with_reducible rfl)
 rotate_left
 ·(
 simp only [Act.put, List.setIfInBounds_toArray, List.set_cons_zero, List.set_cons_succ, i64_w, i32_w]
 rfl)
 refine pure_ (i := 22) (N := some 70) (v := ?_) (a' := ?_) #[true, true, true, true, true, true, true, true, true, true, true, true, true, true, true, true, true, true, true, true, true, true, true, false, false, false, false, false, false, false, false, false, false, false] rfl rfl (any_of HT_.out (by kernel_rfl)) (fun _ _ _ h => h) (Or.inl ⟨by rfl, ?_⟩) ?_ ?_
 rotate_left
 ·(
 intro w'
 go_simp
 with_reducible rfl)
 rotate_left
 ·(
 simp only [Act.put, List.setIfInBounds_toArray, List.set_cons_zero, List.set_cons_succ, i64_w, i32_w]
 rfl)
 refine pure_ (i := 23) (N := some 71) (v := ?_) (a' := ?_) #[true, true, true, true, true, true, true, true, true, true, true, true, true, true, true, true, true, true, true, true, true, true, true, true, false, false, false, false, false, false, false, false, false, false] rfl rfl (any_of HT_.out (by kernel_rfl)) (fun _ _ _ h => h) (Or.inl ⟨by rfl, ?_⟩) ?_ ?_
 rotate_left
 ·(
 intro w'
 go_simp
 with_reducible rfl)
 rotate_left
 ·(
 simp only [Act.put, List.setIfInBounds_toArray, List.set_cons_zero, List.set_cons_succ, i64_w, i32_w]
 rfl)
 refine pure_ (i := 24) (N := some 72) (v := ?_) (a' := ?_) #[true, true, true, true, true, true, true, true, true, true, true, true, true, true, true, true, true, true, true, true, true, true, true, true, true, false, false, false, false, false, false, false, false, false] rfl rfl (any_of HT_.out (by kernel_rfl)) (fun _ _ _ h => h) (Or.inl ⟨by rfl, ?_⟩) ?_ ?_
 rotate_left
 ·(
 intro w'
 go_simp
 with_reducible rfl)
 rotate_left
 ·(
 simp only [Act.put, List.setIfInBounds_toArray, List.set_cons_zero, List.set_cons_succ, i64_w, i32_w]
 rfl)
 refine pure_ (i := 25) (N := some 73) (v := ?_) (a' := ?_) #[true, true, true, true, true, true, true, true, true, true, true, true, true, true, true, true, true, true, true, true, true, true, true, true, true, true, false, false, false, false, false, false, false, false] rfl rfl (any_of HT_.out (by kernel_rfl)) (fun _ _ _ h => h) (Or.inl ⟨by rfl, ?_⟩) ?_ ?_
 rotate_left
 ·(
 intro w'
 go_simp
 with_reducible rfl)
 rotate_left
 ·(
 simp only [Act.put, List.setIfInBounds_toArray, List.set_cons_zero, List.set_cons_succ, i64_w, i32_w]
 rfl)
 refine pure_ (i := 27) (N := some 75) (v := ?_) (a' := ?_) #[true, true, true, true, true, true, true, true, true, true, true, true, true, true, true, true, true, true, true, true, true, true, true, true, true, true, false, true, false, false, false, false, false, false] rfl rfl (any_of HT_.out (by kernel_rfl)) (fun _ _ _ h => h) (Or.inl ⟨by rfl, ?_⟩) ?_ ?_
 rotate_left
 ·(
 intro w'
 go_simp
 with_reducible rfl)
 rotate_left
 ·(
 simp only [Act.put, List.setIfInBounds_toArray, List.set_cons_zero, List.set_cons_succ, i64_w, i32_w]
 rfl)
 refine pure_ (i := 28) (N := some 76) (v := ?_) (a' := ?_) #[true, true, true, true, true, true, true, true, true, true, true, true, true, true, true, true, true, true, true, true, true, true, true, true, true, true, false, true, true, false, false, false, false, false] rfl rfl (any_of HT_.out (by kernel_rfl)) (fun _ _ _ h => h) (Or.inl ⟨by rfl, ?_⟩) ?_ ?_
 rotate_left
 ·(
 intro w'
 go_simp
 with_reducible rfl)
 rotate_left
 ·(
 simp only [Act.put, List.setIfInBounds_toArray, List.set_cons_zero, List.set_cons_succ, i64_w, i32_w]
 rfl)
 refine pure_ (i := 29) (N := some 77) (v := ?_) (a' := ?_) #[true, true, true, true, true, true, true, true, true, true, true, true, true, true, true, true, true, true, true, true, true, true, true, true, true, true, false, true, true, true, false, false, false, false] rfl rfl (any_of HT_.out (by kernel_rfl)) (fun _ _ _ h => h) (Or.inl ⟨by rfl, ?_⟩) ?_ ?_
 rotate_left
 ·(
 intro w'
 go_simp
 with_reducible rfl)
 rotate_left
 ·(
 simp only [Act.put, List.setIfInBounds_toArray, List.set_cons_zero, List.set_cons_succ, i64_w, i32_w]
 rfl)
 refine take_ (i := 26) (N := some 74) (v := ?_) (a' := ?_) #[true, true, true, true, true, true, true, true, true, true, true, true, true, true, true, true, true, true, true, true, true, true, true, true, true, true, true, true, true, true, false, false, false, false] rfl rfl (take_ofW HT_.out HW_.out (by kernel_rfl)) (fun _ _ _ h => h) (Or.inl ⟨by rfl, ?_⟩) hHeld ?_ ?_
 rotate_left
 ·(
 rintro w' ⟨s0, s1, s2, s3, s4, s5, s6, s7, s8, s9, s10, s11, s12, s13, s14, s15, s16, s17, s18, s19, s20, s21, s22, s23, s24, s25, s26, s27, s28, s29, s30, s31, s32, s33, s34, s35, s36, s37, s38, s39, s40, s41, s42, s43, s44, s45, s46, s47, s48, s49, s50, s51, s52, s53⟩
 go_simp
 with_reducible rfl)
 rotate_left
 ·(
 simp only [Act.put, List.setIfInBounds_toArray, List.set_cons_zero, List.set_cons_succ, i64_w, i32_w]
 rfl)
 refine take_ (i := 30) (N := some 78) (v := ?_) (a' := ?_) #[true, true, true, true, true, true, true, true, true, true, true, true, true, true, true, true, true, true, true, true, true, true, true, true, true, true, true, true, true, true, true, false, false, false] rfl rfl (take_ofW HT_.out HW_.out (by kernel_rfl)) (fun _ _ _ h => h) (Or.inl ⟨by rfl, ?_⟩) hHeld ?_ ?_
 rotate_left
 ·(
 rintro w' ⟨s0, s1, s2, s3, s4, s5, s6, s7, s8, s9, s10, s11, s12, s13, s14, s15, s16, s17, s18, s19, s20, s21, s22, s23, s24, s25, s26, s27, s28, s29, s30, s31, s32, s33, s34, s35, s36, s37, s38, s39, s40, s41, s42, s43, s44, s45, s46, s47, s48, s49, s50, s51, s52, s53⟩
 go_simp
 with_reducible rfl)
 rotate_left
 ·(
 simp only [Act.put, List.setIfInBounds_toArray, List.set_cons_zero, List.set_cons_succ, i64_w, i32_w]
 rfl)
 refine one_ (i := 31) (N := some 79) #[true, true, true, true, true, true, true, true, true, true, true, true, true, true, true, true, true, true, true, true, true, true, true, true, true, true, true, true, true, true, true, true, false, false] rfl rfl (one_of HT_.out (by kernel_rfl)) (by decide) (fun K hK => ?_)
 refine goes_ Try.func21 (by kernel_rfl) rfl #[.agg #[.int .i64 ((rd_T39 y194 x12_1).f0), .int .i64 ((rd_T39 y194 x12_1).f1), .int .i64 ((rd_T39 y194 x12_1).f2.f0), .int .i64 ((rd_T39 y194 x12_1).f2.f1), .int .i64 ((rd_T39 y194 x12_1).f2.f2), .int .i64 ((rd_T39 y194 x12_1).f2.f3.f0), .int .i64 ((rd_T39 y194 x12_1).f2.f3.f1), .int .i64 ((rd_T39 y194 x12_1).f2.f4), .int .i64 ((rd_T39 y194 x12_1).f2.f5)], .agg #[.int .i64 ((rd_T39 y194 x14_3).f0), .int .i64 ((rd_T39 y194 x14_3).f1), .int .i64 ((rd_T39 y194 x14_3).f2.f0), .int .i64 ((rd_T39 y194 x14_3).f2.f1), .int .i64 ((rd_T39 y194 x14_3).f2.f2), .int .i64 ((rd_T39 y194 x14_3).f2.f3.f0), .int .i64 ((rd_T39 y194 x14_3).f2.f3.f1), .int .i64 ((rd_T39 y194 x14_3).f2.f4), .int .i64 ((rd_T39 y194 x14_3).f2.f5)]] (by first | rfl | (refine wanted_on rfl rfl rfl ?_; first | assumption | (simp [*]; done))) rfl rfl (by (try simp only [List.map_toArray, List.map_cons, List.map_nil]); first | done | rfl | (simp only [List.length_drop, List.length_take]; rfl)) ?_
 with_reducible refine (determinant_Compare.calls k3 ((rd_T39 y194 x12_1).f0) ((rd_T39 y194 x12_1).f1) ((rd_T39 y194 x12_1).f2.f0) ((rd_T39 y194 x12_1).f2.f1) ((rd_T39 y194 x12_1).f2.f2) ((rd_T39 y194 x12_1).f2.f3.f0) ((rd_T39 y194 x12_1).f2.f3.f1) ((rd_T39 y194 x12_1).f2.f4) ((rd_T39 y194 x12_1).f2.f5) ((rd_T39 y194 x14_3).f0) ((rd_T39 y194 x14_3).f1) ((rd_T39 y194 x14_3).f2.f0) ((rd_T39 y194 x14_3).f2.f1) ((rd_T39 y194 x14_3).f2.f2) ((rd_T39 y194 x14_3).f2.f3.f0) ((rd_T39 y194 x14_3).f2.f3.f1) ((rd_T39 y194 x14_3).f2.f4) ((rd_T39 y194 x14_3).f2.f5) t205 _ A32.out).mono ?_
 rintro e w41 ⟨rfl, hb⟩
 have HS0_ := (hb.cell (World.block_lt_of_cell? _ _ (hHeld.1))).trans (hHeld.1)
 have HS1_ := (hb.cell (World.block_lt_of_cell? _ _ (hHeld.2.1))).trans (hHeld.2.1)
 have HS2_ := (hb.cell (World.block_lt_of_cell? _ _ (hHeld.2.2.1))).trans (hHeld.2.2.1)
 have HS3_ := (hb.cell (World.block_lt_of_cell? _ _ (hHeld.2.2.2.1))).trans (hHeld.2.2.2.1)
 have HS4_ := (hb.cell (World.block_lt_of_cell? _ _ (hHeld.2.2.2.2.1))).trans (hHeld.2.2.2.2.1)
 have HS5_ := (hb.cell (World.block_lt_of_cell? _ _ (hHeld.2.2.2.2.2.1))).trans (hHeld.2.2.2.2.2.1)
 have HS6_ := (hb.cell (World.block_lt_of_cell? _ _ (hHeld.2.2.2.2.2.2.1))).trans (hHeld.2.2.2.2.2.2.1)
 have HS7_ := (hb.cell (World.block_lt_of_cell? _ _ (hHeld.2.2.2.2.2.2.2.1))).trans (hHeld.2.2.2.2.2.2.2.1)
 have HS8_ := (hb.cell (World.block_lt_of_cell? _ _ (hHeld.2.2.2.2.2.2.2.2.1))).trans (hHeld.2.2.2.2.2.2.2.2.1)
 have HS9_ := (hb.cell (World.block_lt_of_cell? _ _ (hHeld.2.2.2.2.2.2.2.2.2.1))).trans (hHeld.2.2.2.2.2.2.2.2.2.1)
 have HS10_ := (hb.cell (World.block_lt_of_cell? _ _ (hHeld.2.2.2.2.2.2.2.2.2.2.1))).trans (hHeld.2.2.2.2.2.2.2.2.2.2.1)
 have HS11_ := (hb.cell (World.block_lt_of_cell? _ _ (hHeld.2.2.2.2.2.2.2.2.2.2.2.1))).trans (hHeld.2.2.2.2.2.2.2.2.2.2.2.1)
 have HS12_ := (hb.cell (World.block_lt_of_cell? _ _ (hHeld.2.2.2.2.2.2.2.2.2.2.2.2.1))).trans (hHeld.2.2.2.2.2.2.2.2.2.2.2.2.1)
 have HS13_ := (hb.cell (World.block_lt_of_cell? _ _ (hHeld.2.2.2.2.2.2.2.2.2.2.2.2.2.1))).trans (hHeld.2.2.2.2.2.2.2.2.2.2.2.2.2.1)
 have HS14_ := (hb.cell (World.block_lt_of_cell? _ _ (hHeld.2.2.2.2.2.2.2.2.2.2.2.2.2.2.1))).trans (hHeld.2.2.2.2.2.2.2.2.2.2.2.2.2.2.1)
 have HS15_ := (hb.cell (World.block_lt_of_cell? _ _ (hHeld.2.2.2.2.2.2.2.2.2.2.2.2.2.2.2.1))).trans (hHeld.2.2.2.2.2.2.2.2.2.2.2.2.2.2.2.1)
 have HS16_ := (hb.cell (World.block_lt_of_cell? _ _ (hHeld.2.2.2.2.2.2.2.2.2.2.2.2.2.2.2.2.1))).trans (hHeld.2.2.2.2.2.2.2.2.2.2.2.2.2.2.2.2.1)
 have HS17_ := (hb.cell (World.block_lt_of_cell? _ _ (hHeld.2.2.2.2.2.2.2.2.2.2.2.2.2.2.2.2.2.1))).trans (hHeld.2.2.2.2.2.2.2.2.2.2.2.2.2.2.2.2.2.1)
 have HS18_ := (hb.cell (World.block_lt_of_cell? _ _ (hHeld.2.2.2.2.2.2.2.2.2.2.2.2.2.2.2.2.2.2.1))).trans (hHeld.2.2.2.2.2.2.2.2.2.2.2.2.2.2.2.2.2.2.1)
 have HS19_ := (hb.cell (World.block_lt_of_cell? _ _ (hHeld.2.2.2.2.2.2.2.2.2.2.2.2.2.2.2.2.2.2.2.1))).trans (hHeld.2.2.2.2.2.2.2.2.2.2.2.2.2.2.2.2.2.2.2.1)
 have HS20_ := (hb.cell (World.block_lt_of_cell? _ _ (hHeld.2.2.2.2.2.2.2.2.2.2.2.2.2.2.2.2.2.2.2.2.1))).trans (hHeld.2.2.2.2.2.2.2.2.2.2.2.2.2.2.2.2.2.2.2.2.1)
 have HS21_ := (hb.cell (World.block_lt_of_cell? _ _ (hHeld.2.2.2.2.2.2.2.2.2.2.2.2.2.2.2.2.2.2.2.2.2.1))).trans (hHeld.2.2.2.2.2.2.2.2.2.2.2.2.2.2.2.2.2.2.2.2.2.1)
 have HS22_ := (hb.cell (World.block_lt_of_cell? _ _ (hHeld.2.2.2.2.2.2.2.2.2.2.2.2.2.2.2.2.2.2.2.2.2.2.1))).trans (hHeld.2.2.2.2.2.2.2.2.2.2.2.2.2.2.2.2.2.2.2.2.2.2.1)
 have HS23_ := (hb.cell (World.block_lt_of_cell? _ _ (hHeld.2.2.2.2.2.2.2.2.2.2.2.2.2.2.2.2.2.2.2.2.2.2.2.1))).trans (hHeld.2.2.2.2.2.2.2.2.2.2.2.2.2.2.2.2.2.2.2.2.2.2.2.1)
 have HS24_ := (hb.cell (World.block_lt_of_cell? _ _ (hHeld.2.2.2.2.2.2.2.2.2.2.2.2.2.2.2.2.2.2.2.2.2.2.2.2.1))).trans (hHeld.2.2.2.2.2.2.2.2.2.2.2.2.2.2.2.2.2.2.2.2.2.2.2.2.1)
 have HS25_ := (hb.cell (World.block_lt_of_cell? _ _ (hHeld.2.2.2.2.2.2.2.2.2.2.2.2.2.2.2.2.2.2.2.2.2.2.2.2.2.1))).trans (hHeld.2.2.2.2.2.2.2.2.2.2.2.2.2.2.2.2.2.2.2.2.2.2.2.2.2.1)
 have HS26_ := (hb.cell (World.block_lt_of_cell? _ _ (hHeld.2.2.2.2.2.2.2.2.2.2.2.2.2.2.2.2.2.2.2.2.2.2.2.2.2.2.1))).trans (hHeld.2.2.2.2.2.2.2.2.2.2.2.2.2.2.2.2.2.2.2.2.2.2.2.2.2.2.1)
 have HS27_ := (hb.cell (World.block_lt_of_cell? _ _ (hHeld.2.2.2.2.2.2.2.2.2.2.2.2.2.2.2.2.2.2.2.2.2.2.2.2.2.2.2.1))).trans (hHeld.2.2.2.2.2.2.2.2.2.2.2.2.2.2.2.2.2.2.2.2.2.2.2.2.2.2.2.1)
 have HS28_ := (hb.cell (World.block_lt_of_cell? _ _ (hHeld.2.2.2.2.2.2.2.2.2.2.2.2.2.2.2.2.2.2.2.2.2.2.2.2.2.2.2.2.1))).trans (hHeld.2.2.2.2.2.2.2.2.2.2.2.2.2.2.2.2.2.2.2.2.2.2.2.2.2.2.2.2.1)
 have HS29_ := (hb.cell (World.block_lt_of_cell? _ _ (hHeld.2.2.2.2.2.2.2.2.2.2.2.2.2.2.2.2.2.2.2.2.2.2.2.2.2.2.2.2.2.1))).trans (hHeld.2.2.2.2.2.2.2.2.2.2.2.2.2.2.2.2.2.2.2.2.2.2.2.2.2.2.2.2.2.1)
 have HS30_ := (hb.cell (World.block_lt_of_cell? _ _ (hHeld.2.2.2.2.2.2.2.2.2.2.2.2.2.2.2.2.2.2.2.2.2.2.2.2.2.2.2.2.2.2.1))).trans (hHeld.2.2.2.2.2.2.2.2.2.2.2.2.2.2.2.2.2.2.2.2.2.2.2.2.2.2.2.2.2.2.1)
 have HS31_ := (hb.cell (World.block_lt_of_cell? _ _ (hHeld.2.2.2.2.2.2.2.2.2.2.2.2.2.2.2.2.2.2.2.2.2.2.2.2.2.2.2.2.2.2.2.1))).trans (hHeld.2.2.2.2.2.2.2.2.2.2.2.2.2.2.2.2.2.2.2.2.2.2.2.2.2.2.2.2.2.2.2.1)
 have HS32_ := (hb.cell (World.block_lt_of_cell? _ _ (hHeld.2.2.2.2.2.2.2.2.2.2.2.2.2.2.2.2.2.2.2.2.2.2.2.2.2.2.2.2.2.2.2.2.1))).trans (hHeld.2.2.2.2.2.2.2.2.2.2.2.2.2.2.2.2.2.2.2.2.2.2.2.2.2.2.2.2.2.2.2.2.1)
 have HS33_ := (hb.cell (World.block_lt_of_cell? _ _ (hHeld.2.2.2.2.2.2.2.2.2.2.2.2.2.2.2.2.2.2.2.2.2.2.2.2.2.2.2.2.2.2.2.2.2.1))).trans (hHeld.2.2.2.2.2.2.2.2.2.2.2.2.2.2.2.2.2.2.2.2.2.2.2.2.2.2.2.2.2.2.2.2.2.1)
 have HS34_ := (hb.cell (World.block_lt_of_cell? _ _ (hHeld.2.2.2.2.2.2.2.2.2.2.2.2.2.2.2.2.2.2.2.2.2.2.2.2.2.2.2.2.2.2.2.2.2.2.1))).trans (hHeld.2.2.2.2.2.2.2.2.2.2.2.2.2.2.2.2.2.2.2.2.2.2.2.2.2.2.2.2.2.2.2.2.2.2.1)
 have HS35_ := (hb.cell (World.block_lt_of_cell? _ _ (hHeld.2.2.2.2.2.2.2.2.2.2.2.2.2.2.2.2.2.2.2.2.2.2.2.2.2.2.2.2.2.2.2.2.2.2.2.1))).trans (hHeld.2.2.2.2.2.2.2.2.2.2.2.2.2.2.2.2.2.2.2.2.2.2.2.2.2.2.2.2.2.2.2.2.2.2.2.1)
 have HS36_ := (hb.cell (World.block_lt_of_cell? _ _ (hHeld.2.2.2.2.2.2.2.2.2.2.2.2.2.2.2.2.2.2.2.2.2.2.2.2.2.2.2.2.2.2.2.2.2.2.2.2.1))).trans (hHeld.2.2.2.2.2.2.2.2.2.2.2.2.2.2.2.2.2.2.2.2.2.2.2.2.2.2.2.2.2.2.2.2.2.2.2.2.1)
 have HS37_ := (hb.cell (World.block_lt_of_cell? _ _ (hHeld.2.2.2.2.2.2.2.2.2.2.2.2.2.2.2.2.2.2.2.2.2.2.2.2.2.2.2.2.2.2.2.2.2.2.2.2.2.1))).trans (hHeld.2.2.2.2.2.2.2.2.2.2.2.2.2.2.2.2.2.2.2.2.2.2.2.2.2.2.2.2.2.2.2.2.2.2.2.2.2.1)
 have HS38_ := (hb.cell (World.block_lt_of_cell? _ _ (hHeld.2.2.2.2.2.2.2.2.2.2.2.2.2.2.2.2.2.2.2.2.2.2.2.2.2.2.2.2.2.2.2.2.2.2.2.2.2.2.1))).trans (hHeld.2.2.2.2.2.2.2.2.2.2.2.2.2.2.2.2.2.2.2.2.2.2.2.2.2.2.2.2.2.2.2.2.2.2.2.2.2.2.1)
 have HS39_ := (hb.cell (World.block_lt_of_cell? _ _ (hHeld.2.2.2.2.2.2.2.2.2.2.2.2.2.2.2.2.2.2.2.2.2.2.2.2.2.2.2.2.2.2.2.2.2.2.2.2.2.2.2.1))).trans (hHeld.2.2.2.2.2.2.2.2.2.2.2.2.2.2.2.2.2.2.2.2.2.2.2.2.2.2.2.2.2.2.2.2.2.2.2.2.2.2.2.1)
 have HS40_ := (hb.cell (World.block_lt_of_cell? _ _ (hHeld.2.2.2.2.2.2.2.2.2.2.2.2.2.2.2.2.2.2.2.2.2.2.2.2.2.2.2.2.2.2.2.2.2.2.2.2.2.2.2.2.1))).trans (hHeld.2.2.2.2.2.2.2.2.2.2.2.2.2.2.2.2.2.2.2.2.2.2.2.2.2.2.2.2.2.2.2.2.2.2.2.2.2.2.2.2.1)
 have HS41_ := (hb.cell (World.block_lt_of_cell? _ _ (hHeld.2.2.2.2.2.2.2.2.2.2.2.2.2.2.2.2.2.2.2.2.2.2.2.2.2.2.2.2.2.2.2.2.2.2.2.2.2.2.2.2.2.1))).trans (hHeld.2.2.2.2.2.2.2.2.2.2.2.2.2.2.2.2.2.2.2.2.2.2.2.2.2.2.2.2.2.2.2.2.2.2.2.2.2.2.2.2.2.1)
 have HS42_ := (hb.cell (World.block_lt_of_cell? _ _ (hHeld.2.2.2.2.2.2.2.2.2.2.2.2.2.2.2.2.2.2.2.2.2.2.2.2.2.2.2.2.2.2.2.2.2.2.2.2.2.2.2.2.2.2.1))).trans (hHeld.2.2.2.2.2.2.2.2.2.2.2.2.2.2.2.2.2.2.2.2.2.2.2.2.2.2.2.2.2.2.2.2.2.2.2.2.2.2.2.2.2.2.1)
 have HS43_ := (hb.cell (World.block_lt_of_cell? _ _ (hHeld.2.2.2.2.2.2.2.2.2.2.2.2.2.2.2.2.2.2.2.2.2.2.2.2.2.2.2.2.2.2.2.2.2.2.2.2.2.2.2.2.2.2.2.1))).trans (hHeld.2.2.2.2.2.2.2.2.2.2.2.2.2.2.2.2.2.2.2.2.2.2.2.2.2.2.2.2.2.2.2.2.2.2.2.2.2.2.2.2.2.2.2.1)
 have HS44_ := (hb.cell (World.block_lt_of_cell? _ _ (hHeld.2.2.2.2.2.2.2.2.2.2.2.2.2.2.2.2.2.2.2.2.2.2.2.2.2.2.2.2.2.2.2.2.2.2.2.2.2.2.2.2.2.2.2.2.1))).trans (hHeld.2.2.2.2.2.2.2.2.2.2.2.2.2.2.2.2.2.2.2.2.2.2.2.2.2.2.2.2.2.2.2.2.2.2.2.2.2.2.2.2.2.2.2.2.1)
 have HS45_ := (hb.cell (World.block_lt_of_cell? _ _ (hHeld.2.2.2.2.2.2.2.2.2.2.2.2.2.2.2.2.2.2.2.2.2.2.2.2.2.2.2.2.2.2.2.2.2.2.2.2.2.2.2.2.2.2.2.2.2.1))).trans (hHeld.2.2.2.2.2.2.2.2.2.2.2.2.2.2.2.2.2.2.2.2.2.2.2.2.2.2.2.2.2.2.2.2.2.2.2.2.2.2.2.2.2.2.2.2.2.1)
 have HS46_ := (hb.cell (World.block_lt_of_cell? _ _ (hHeld.2.2.2.2.2.2.2.2.2.2.2.2.2.2.2.2.2.2.2.2.2.2.2.2.2.2.2.2.2.2.2.2.2.2.2.2.2.2.2.2.2.2.2.2.2.2.1))).trans (hHeld.2.2.2.2.2.2.2.2.2.2.2.2.2.2.2.2.2.2.2.2.2.2.2.2.2.2.2.2.2.2.2.2.2.2.2.2.2.2.2.2.2.2.2.2.2.2.1)
 have HS47_ := (hb.cell (World.block_lt_of_cell? _ _ (hHeld.2.2.2.2.2.2.2.2.2.2.2.2.2.2.2.2.2.2.2.2.2.2.2.2.2.2.2.2.2.2.2.2.2.2.2.2.2.2.2.2.2.2.2.2.2.2.2.1))).trans (hHeld.2.2.2.2.2.2.2.2.2.2.2.2.2.2.2.2.2.2.2.2.2.2.2.2.2.2.2.2.2.2.2.2.2.2.2.2.2.2.2.2.2.2.2.2.2.2.2.1)
 have HS48_ := (hb.cell (World.block_lt_of_cell? _ _ (hHeld.2.2.2.2.2.2.2.2.2.2.2.2.2.2.2.2.2.2.2.2.2.2.2.2.2.2.2.2.2.2.2.2.2.2.2.2.2.2.2.2.2.2.2.2.2.2.2.2.1))).trans (hHeld.2.2.2.2.2.2.2.2.2.2.2.2.2.2.2.2.2.2.2.2.2.2.2.2.2.2.2.2.2.2.2.2.2.2.2.2.2.2.2.2.2.2.2.2.2.2.2.2.1)
 have HS49_ := (hb.cell (World.block_lt_of_cell? _ _ (hHeld.2.2.2.2.2.2.2.2.2.2.2.2.2.2.2.2.2.2.2.2.2.2.2.2.2.2.2.2.2.2.2.2.2.2.2.2.2.2.2.2.2.2.2.2.2.2.2.2.2.1))).trans (hHeld.2.2.2.2.2.2.2.2.2.2.2.2.2.2.2.2.2.2.2.2.2.2.2.2.2.2.2.2.2.2.2.2.2.2.2.2.2.2.2.2.2.2.2.2.2.2.2.2.2.1)
 have HS50_ := (hb.cell (World.block_lt_of_cell? _ _ (hHeld.2.2.2.2.2.2.2.2.2.2.2.2.2.2.2.2.2.2.2.2.2.2.2.2.2.2.2.2.2.2.2.2.2.2.2.2.2.2.2.2.2.2.2.2.2.2.2.2.2.2.1))).trans (hHeld.2.2.2.2.2.2.2.2.2.2.2.2.2.2.2.2.2.2.2.2.2.2.2.2.2.2.2.2.2.2.2.2.2.2.2.2.2.2.2.2.2.2.2.2.2.2.2.2.2.2.1)
 have HS51_ := (hb.cell (World.block_lt_of_cell? _ _ (hHeld.2.2.2.2.2.2.2.2.2.2.2.2.2.2.2.2.2.2.2.2.2.2.2.2.2.2.2.2.2.2.2.2.2.2.2.2.2.2.2.2.2.2.2.2.2.2.2.2.2.2.2.1))).trans (hHeld.2.2.2.2.2.2.2.2.2.2.2.2.2.2.2.2.2.2.2.2.2.2.2.2.2.2.2.2.2.2.2.2.2.2.2.2.2.2.2.2.2.2.2.2.2.2.2.2.2.2.2.1)
 have HS52_ := (hb.cell (World.block_lt_of_cell? _ _ (hHeld.2.2.2.2.2.2.2.2.2.2.2.2.2.2.2.2.2.2.2.2.2.2.2.2.2.2.2.2.2.2.2.2.2.2.2.2.2.2.2.2.2.2.2.2.2.2.2.2.2.2.2.2.1))).trans (hHeld.2.2.2.2.2.2.2.2.2.2.2.2.2.2.2.2.2.2.2.2.2.2.2.2.2.2.2.2.2.2.2.2.2.2.2.2.2.2.2.2.2.2.2.2.2.2.2.2.2.2.2.2.1)
 have HS53_ := (hb.cell (World.block_lt_of_cell? _ _ (hHeld.2.2.2.2.2.2.2.2.2.2.2.2.2.2.2.2.2.2.2.2.2.2.2.2.2.2.2.2.2.2.2.2.2.2.2.2.2.2.2.2.2.2.2.2.2.2.2.2.2.2.2.2.2))).trans (hHeld.2.2.2.2.2.2.2.2.2.2.2.2.2.2.2.2.2.2.2.2.2.2.2.2.2.2.2.2.2.2.2.2.2.2.2.2.2.2.2.2.2.2.2.2.2.2.2.2.2.2.2.2.2)
 refine ⟨_, rfl, ?_⟩
 have n0_ := Aside0.mk (Kd.R_below (rq HO_11.out) hb)
 have n1_ := Aside0.mk (blk_below (g := gb172) (o := .cells #[.int .i64 a0_0, .int .i64 a0_1, .int .i64 a0_2, .int .i64 a0_3, .int .i64 a0_4, .int .i64 a0_5, .int .i64 a0_6, .int .i64 a0_7, .int .i64 a0_8] 39 (0, 0)) (kq BK172.out) hb)
 have n2_ := Aside0.mk (blk_below (g := gb173) (o := .cells #[.int .i64 a1_0, .int .i64 a1_1, .int .i64 a1_2, .int .i64 a1_3, .int .i64 a1_4, .int .i64 a1_5, .int .i64 a1_6, .int .i64 a1_7, .int .i64 a1_8] 39 (0, 0)) (kq BK173.out) hb)
 have n3_ := Aside0.mk (blk_below (g := gb174) (o := .cells #[.int .i64 a2_0, .int .i64 a2_1, .int .i64 a2_2, .int .i64 a2_3, .int .i64 a2_4, .int .i64 a2_5, .int .i64 a2_6, .int .i64 a2_7, .int .i64 a2_8] 39 (0, 0)) (kq BK174.out) hb)
 have n4_ := Aside0.mk (below_step (bq3 HB.out GE172.out GE173.out GE174.out) hb)
 clear HO_11
 clear BK172
 clear BK173
 clear BK174
 clear HB
 have HO_11 := n0_
 have BK172 := n1_
 have BK173 := n2_
 have BK174 := n3_
 have HB := n4_
 clear n0_ n1_ n2_ n3_ n4_
 (try clear hb)
 (try clear hb2)
 (try clear hk)
 (try clear hi)
 refine hK.out _ _ ⟨HS0_, HS1_, HS2_, HS3_, HS4_, HS5_, HS6_, HS7_, HS8_, HS9_, HS10_, HS11_, HS12_, HS13_, HS14_, HS15_, HS16_, HS17_, HS18_, HS19_, HS20_, HS21_, HS22_, HS23_, HS24_, HS25_, HS26_, HS27_, HS28_, HS29_, HS30_, HS31_, HS32_, HS33_, HS34_, HS35_, HS36_, HS37_, HS38_, HS39_, HS40_, HS41_, HS42_, HS43_, HS44_, HS45_, HS46_, HS47_, HS48_, HS49_, HS50_, HS51_, HS52_, HS53_⟩ (fun hHeld => ?_)
 clear hK K
 refine norm_ (a' := ?_) ?_ ?_
 rotate_left
 ·(
 show Act.put _ (some 79) _ = _
 simp only [Act.put, List.setIfInBounds_toArray, List.set_cons_zero, List.set_cons_succ, i64_w, i32_w]
 rfl)
 refine pure_ (i := 32) (N := some 80) (v := ?_) (a' := ?_) #[true, true, true, true, true, true, true, true, true, true, true, true, true, true, true, true, true, true, true, true, true, true, true, true, true, true, true, true, true, true, true, true, true, false] rfl rfl (any_of HT_.out (by kernel_rfl)) (fun _ _ _ h => h) (Or.inl ⟨by rfl, ?_⟩) ?_ ?_
 rotate_left
 ·(
 intro w'
 go_simp
 with_reducible rfl)
 rotate_left
 ·(
 simp only [Act.put, List.setIfInBounds_toArray, List.set_cons_zero, List.set_cons_succ, i64_w, i32_w]
 rfl)
 refine pure_ (i := 33) (N := some 81) (v := ?_) (a' := ?_) #[true, true, true, true, true, true, true, true, true, true, true, true, true, true, true, true, true, true, true, true, true, true, true, true, true, true, true, true, true, true, true, true, true, true] rfl rfl (any_of HT_.out (by kernel_rfl)) (fun _ _ _ h => h) (Or.inl ⟨by rfl, ?_⟩) ?_ ?_
 rotate_left
 ·(
 intro w'
 go_simp
 with_reducible rfl)
 rotate_left
 ·(
 simp only [Act.put, List.setIfInBounds_toArray, List.set_cons_zero, List.set_cons_succ, i64_w, i32_w]
 rfl)
 refine done_ (done_of HT_.out (by kernel_rfl)) ?_
 try go_wp2
 go_roundg k3
 case measure => have := HK1.out; have := HK2.out; have := HK3.out; omega
 case rel => exact ⟨(wrap64 (x14_3 + 1)), (by first | rfl | (simp; done) | (simp [*]; done)), H', ⟨by have := HK1.out; have := HK2.out; have := HK3.out; omega⟩, ⟨rq HO_11.out⟩, ⟨kq BK172.out⟩, ⟨kq BK173.out⟩, ⟨kq BK174.out⟩, ⟨bq3 HB.out GE172.out GE173.out GE174.out⟩⟩))
 ·(
 rw [if_neg c31] at H
 have c31b0 : decide (t202 ≤ 0) = false := decide_eq_false c31
 clear c31
 have H' := Aside0.mk H
 clear H
 try go_wp2
 have n0_ := Aside0.mk (Kd.R_drew HO_11.out)
 have n1_ := Aside0.mk (blk_drew BK172.out)
 have n2_ := Aside0.mk (blk_drew BK173.out)
 have n3_ := Aside0.mk (blk_drew BK174.out)
 have n4_ := Aside0.mk (below_drew1 HB.out)
 clear HO_11
 clear BK172
 clear BK173
 clear BK174
 clear HB
 have HO_11 := n0_
 have BK172 := n1_
 have BK173 := n2_
 have BK174 := n3_
 have HB := n4_
 clear n0_ n1_ n2_ n3_ n4_
 have p197 : 0 ≤ (x12_1 : Int) := of_decide_eq_true (by first | (with_reducible assumption) | assumption)
 have q197 : x12_1 < (y194.length : Int) := of_decide_eq_true (by first | (with_reducible assumption) | assumption)
 obtain ⟨ad197, e197, hx197_0, hx197_1, hx197_2, hx197_3, hx197_4, hx197_5, hx197_6, hx197_7, hx197_8⟩ := at_T39 (Kd.R_reads' HO_11.out).2.2 x12_1 p197 q197
 cases e197
 replace p197 := eq_true p197
 replace q197 := eq_true q197
 have p198 : 0 ≤ (x13_2 : Int) := of_decide_eq_true (by first | (with_reducible assumption) | assumption)
 have q198 : x13_2 < (y194.length : Int) := of_decide_eq_true (by first | (with_reducible assumption) | assumption)
 obtain ⟨ad198, e198, hx198_0, hx198_1, hx198_2, hx198_3, hx198_4, hx198_5, hx198_6, hx198_7, hx198_8⟩ := at_T39 (Kd.R_reads' HO_11.out).2.2 x13_2 p198 q198
 obtain rfl : ad197 = ad198 := (by injection e198)
 replace p198 := eq_true p198
 replace q198 := eq_true q198
 have p200 : 0 ≤ (x13_2 : Int) := of_decide_eq_true (by first | (with_reducible assumption) | assumption)
 have q200 : x13_2 < (y194.length : Int) := of_decide_eq_true (by first | (with_reducible assumption) | assumption)
 obtain ⟨ad200, e200, hx200_0, hx200_1, hx200_2, hx200_3, hx200_4, hx200_5, hx200_6, hx200_7, hx200_8⟩ := at_T39 (Kd.R_reads' HO_11.out).2.2 x13_2 p200 q200
 obtain rfl : ad197 = ad200 := (by injection e200)
 replace p200 := eq_true p200
 replace q200 := eq_true q200
 have p201 : 0 ≤ (x14_3 : Int) := of_decide_eq_true (by first | (with_reducible assumption) | assumption)
 have q201 : x14_3 < (y194.length : Int) := of_decide_eq_true (by first | (with_reducible assumption) | assumption)
 obtain ⟨ad201, e201, hx201_0, hx201_1, hx201_2, hx201_3, hx201_4, hx201_5, hx201_6, hx201_7, hx201_8⟩ := at_T39 (Kd.R_reads' HO_11.out).2.2 x14_3 p201 q201
 obtain rfl : ad197 = ad201 := (by injection e201)
 replace p201 := eq_true p201
 replace q201 := eq_true q201
 refine start_ (n := 34) (S := fun w' => w'.cell? (ad197.add ((x12_1).toNat * 9)) = some (.int .i64 ((rd_T39 y194 x12_1).f0)) ∧ w'.cell? ⟨(ad197.add ((x12_1).toNat * 9)).block, (ad197.add ((x12_1).toNat * 9)).off + 1, none⟩ = some (.int .i64 ((rd_T39 y194 x12_1).f1)) ∧ w'.cell? ⟨(ad197.add ((x12_1).toNat * 9)).block, (ad197.add ((x12_1).toNat * 9)).off + 2, none⟩ = some (.int .i64 ((rd_T39 y194 x12_1).f2.f0)) ∧ w'.cell? ⟨(ad197.add ((x12_1).toNat * 9)).block, (ad197.add ((x12_1).toNat * 9)).off + 3, none⟩ = some (.int .i64 ((rd_T39 y194 x12_1).f2.f1)) ∧ w'.cell? ⟨(ad197.add ((x12_1).toNat * 9)).block, (ad197.add ((x12_1).toNat * 9)).off + 4, none⟩ = some (.int .i64 ((rd_T39 y194 x12_1).f2.f2)) ∧ w'.cell? ⟨(ad197.add ((x12_1).toNat * 9)).block, (ad197.add ((x12_1).toNat * 9)).off + 5, none⟩ = some (.int .i64 ((rd_T39 y194 x12_1).f2.f3.f0)) ∧ w'.cell? ⟨(ad197.add ((x12_1).toNat * 9)).block, (ad197.add ((x12_1).toNat * 9)).off + 6, none⟩ = some (.int .i64 ((rd_T39 y194 x12_1).f2.f3.f1)) ∧ w'.cell? ⟨(ad197.add ((x12_1).toNat * 9)).block, (ad197.add ((x12_1).toNat * 9)).off + 7, none⟩ = some (.int .i64 ((rd_T39 y194 x12_1).f2.f4)) ∧ w'.cell? ⟨(ad197.add ((x12_1).toNat * 9)).block, (ad197.add ((x12_1).toNat * 9)).off + 8, none⟩ = some (.int .i64 ((rd_T39 y194 x12_1).f2.f5)) ∧ w'.cell? (ad197.add ((x13_2).toNat * 9)) = some (.int .i64 ((rd_T39 y194 x13_2).f0)) ∧ w'.cell? ⟨(ad197.add ((x13_2).toNat * 9)).block, (ad197.add ((x13_2).toNat * 9)).off + 1, none⟩ = some (.int .i64 ((rd_T39 y194 x13_2).f1)) ∧ w'.cell? ⟨(ad197.add ((x13_2).toNat * 9)).block, (ad197.add ((x13_2).toNat * 9)).off + 2, none⟩ = some (.int .i64 ((rd_T39 y194 x13_2).f2.f0)) ∧ w'.cell? ⟨(ad197.add ((x13_2).toNat * 9)).block, (ad197.add ((x13_2).toNat * 9)).off + 3, none⟩ = some (.int .i64 ((rd_T39 y194 x13_2).f2.f1)) ∧ w'.cell? ⟨(ad197.add ((x13_2).toNat * 9)).block, (ad197.add ((x13_2).toNat * 9)).off + 4, none⟩ = some (.int .i64 ((rd_T39 y194 x13_2).f2.f2)) ∧ w'.cell? ⟨(ad197.add ((x13_2).toNat * 9)).block, (ad197.add ((x13_2).toNat * 9)).off + 5, none⟩ = some (.int .i64 ((rd_T39 y194 x13_2).f2.f3.f0)) ∧ w'.cell? ⟨(ad197.add ((x13_2).toNat * 9)).block, (ad197.add ((x13_2).toNat * 9)).off + 6, none⟩ = some (.int .i64 ((rd_T39 y194 x13_2).f2.f3.f1)) ∧ w'.cell? ⟨(ad197.add ((x13_2).toNat * 9)).block, (ad197.add ((x13_2).toNat * 9)).off + 7, none⟩ = some (.int .i64 ((rd_T39 y194 x13_2).f2.f4)) ∧ w'.cell? ⟨(ad197.add ((x13_2).toNat * 9)).block, (ad197.add ((x13_2).toNat * 9)).off + 8, none⟩ = some (.int .i64 ((rd_T39 y194 x13_2).f2.f5)) ∧ w'.cell? (ad197.add ((x13_2).toNat * 9)) = some (.int .i64 ((rd_T39 y194 x13_2).f0)) ∧ w'.cell? ⟨(ad197.add ((x13_2).toNat * 9)).block, (ad197.add ((x13_2).toNat * 9)).off + 1, none⟩ = some (.int .i64 ((rd_T39 y194 x13_2).f1)) ∧ w'.cell? ⟨(ad197.add ((x13_2).toNat * 9)).block, (ad197.add ((x13_2).toNat * 9)).off + 2, none⟩ = some (.int .i64 ((rd_T39 y194 x13_2).f2.f0)) ∧ w'.cell? ⟨(ad197.add ((x13_2).toNat * 9)).block, (ad197.add ((x13_2).toNat * 9)).off + 3, none⟩ = some (.int .i64 ((rd_T39 y194 x13_2).f2.f1)) ∧ w'.cell? ⟨(ad197.add ((x13_2).toNat * 9)).block, (ad197.add ((x13_2).toNat * 9)).off + 4, none⟩ = some (.int .i64 ((rd_T39 y194 x13_2).f2.f2)) ∧ w'.cell? ⟨(ad197.add ((x13_2).toNat * 9)).block, (ad197.add ((x13_2).toNat * 9)).off + 5, none⟩ = some (.int .i64 ((rd_T39 y194 x13_2).f2.f3.f0)) ∧ w'.cell? ⟨(ad197.add ((x13_2).toNat * 9)).block, (ad197.add ((x13_2).toNat * 9)).off + 6, none⟩ = some (.int .i64 ((rd_T39 y194 x13_2).f2.f3.f1)) ∧ w'.cell? ⟨(ad197.add ((x13_2).toNat * 9)).block, (ad197.add ((x13_2).toNat * 9)).off + 7, none⟩ = some (.int .i64 ((rd_T39 y194 x13_2).f2.f4)) ∧ w'.cell? ⟨(ad197.add ((x13_2).toNat * 9)).block, (ad197.add ((x13_2).toNat * 9)).off + 8, none⟩ = some (.int .i64 ((rd_T39 y194 x13_2).f2.f5)) ∧ w'.cell? (ad197.add ((x14_3).toNat * 9)) = some (.int .i64 ((rd_T39 y194 x14_3).f0)) ∧ w'.cell? ⟨(ad197.add ((x14_3).toNat * 9)).block, (ad197.add ((x14_3).toNat * 9)).off + 1, none⟩ = some (.int .i64 ((rd_T39 y194 x14_3).f1)) ∧ w'.cell? ⟨(ad197.add ((x14_3).toNat * 9)).block, (ad197.add ((x14_3).toNat * 9)).off + 2, none⟩ = some (.int .i64 ((rd_T39 y194 x14_3).f2.f0)) ∧ w'.cell? ⟨(ad197.add ((x14_3).toNat * 9)).block, (ad197.add ((x14_3).toNat * 9)).off + 3, none⟩ = some (.int .i64 ((rd_T39 y194 x14_3).f2.f1)) ∧ w'.cell? ⟨(ad197.add ((x14_3).toNat * 9)).block, (ad197.add ((x14_3).toNat * 9)).off + 4, none⟩ = some (.int .i64 ((rd_T39 y194 x14_3).f2.f2)) ∧ w'.cell? ⟨(ad197.add ((x14_3).toNat * 9)).block, (ad197.add ((x14_3).toNat * 9)).off + 5, none⟩ = some (.int .i64 ((rd_T39 y194 x14_3).f2.f3.f0)) ∧ w'.cell? ⟨(ad197.add ((x14_3).toNat * 9)).block, (ad197.add ((x14_3).toNat * 9)).off + 6, none⟩ = some (.int .i64 ((rd_T39 y194 x14_3).f2.f3.f1)) ∧ w'.cell? ⟨(ad197.add ((x14_3).toNat * 9)).block, (ad197.add ((x14_3).toNat * 9)).off + 7, none⟩ = some (.int .i64 ((rd_T39 y194 x14_3).f2.f4)) ∧ w'.cell? ⟨(ad197.add ((x14_3).toNat * 9)).block, (ad197.add ((x14_3).toNat * 9)).off + 8, none⟩ = some (.int .i64 ((rd_T39 y194 x14_3).f2.f5))) (ds := []) #[false, false, false, false, false, false, false, false, false, false, false, false, false, false, false, false, false, false, false, false, false, false, false, false, false, false, false, false, false, false, false, false, false, false] (by kernel_rfl) rfl rfl ⟨hx197_0, hx197_1, hx197_2, hx197_3, hx197_4, hx197_5, hx197_6, hx197_7, hx197_8, hx198_0, hx198_1, hx198_2, hx198_3, hx198_4, hx198_5, hx198_6, hx198_7, hx198_8, hx200_0, hx200_1, hx200_2, hx200_3, hx200_4, hx200_5, hx200_6, hx200_7, hx200_8, hx201_0, hx201_1, hx201_2, hx201_3, hx201_4, hx201_5, hx201_6, hx201_7, hx201_8⟩ (fun hHeld => ?_); refine with_tabW rollbacknetlaw27_DeterminantChains.tab13 rollbacknetlaw27_DeterminantChains.bits13 (fun HT_ HW_ => ?_)
 generalize wr.drew = w42 at HO_11 BK172 BK173 BK174 HB hx197_0 hx197_1 hx197_2 hx197_3 hx197_4 hx197_5 hx197_6 hx197_7 hx197_8 hx198_0 hx198_1 hx198_2 hx198_3 hx198_4 hx198_5 hx198_6 hx198_7 hx198_8 hx200_0 hx200_1 hx200_2 hx200_3 hx200_4 hx200_5 hx200_6 hx200_7 hx200_8 hx201_0 hx201_1 hx201_2 hx201_3 hx201_4 hx201_5 hx201_6 hx201_7 hx201_8 hHeld ⊢
 refine pure_ (i := 0) (N := some 48) (v := ?_) (a' := ?_) #[true, false, false, false, false, false, false, false, false, false, false, false, false, false, false, false, false, false, false, false, false, false, false, false, false, false, false, false, false, false, false, false, false, false] rfl rfl (any_of HT_.out (by kernel_rfl)) (fun _ _ _ h => h) (Or.inl ⟨by rfl, ?_⟩) ?_ ?_
 rotate_left
 ·(
 intro w'
 go_simp
 with_reducible rfl)
 rotate_left
 ·(
 simp only [Act.put, List.setIfInBounds_toArray, List.set_cons_zero, List.set_cons_succ, i64_w, i32_w]
 rfl)
 refine pure_ (i := 1) (N := some 49) (v := ?_) (a' := ?_) #[true, true, false, false, false, false, false, false, false, false, false, false, false, false, false, false, false, false, false, false, false, false, false, false, false, false, false, false, false, false, false, false, false, false] rfl rfl (any_of HT_.out (by kernel_rfl)) (fun _ _ _ h => h) (Or.inl ⟨by rfl, ?_⟩) ?_ ?_
 rotate_left
 ·(
 intro w'
 go_simp
 with_reducible rfl)
 rotate_left
 ·(
 simp only [Act.put, List.setIfInBounds_toArray, List.set_cons_zero, List.set_cons_succ, i64_w, i32_w]
 rfl)
 refine pure_ (i := 2) (N := some 50) (v := ?_) (a' := ?_) #[true, true, true, false, false, false, false, false, false, false, false, false, false, false, false, false, false, false, false, false, false, false, false, false, false, false, false, false, false, false, false, false, false, false] rfl rfl (any_of HT_.out (by kernel_rfl)) (fun _ _ _ h => h) (Or.inl ⟨by rfl, ?_⟩) ?_ ?_
 rotate_left
 ·(
 intro w'
 go_simp
 with_reducible rfl)
 rotate_left
 ·(
 simp only [Act.put, List.setIfInBounds_toArray, List.set_cons_zero, List.set_cons_succ, i64_w, i32_w]
 rfl)
 refine pure_ (i := 4) (N := some 52) (v := ?_) (a' := ?_) #[true, true, true, false, true, false, false, false, false, false, false, false, false, false, false, false, false, false, false, false, false, false, false, false, false, false, false, false, false, false, false, false, false, false] rfl rfl (any_of HT_.out (by kernel_rfl)) (fun _ _ _ h => h) (Or.inl ⟨by rfl, ?_⟩) ?_ ?_
 rotate_left
 ·(
 intro w'
 go_simp
 with_reducible rfl)
 rotate_left
 ·(
 simp only [Act.put, List.setIfInBounds_toArray, List.set_cons_zero, List.set_cons_succ, i64_w, i32_w]
 rfl)
 refine pure_ (i := 5) (N := some 53) (v := ?_) (a' := ?_) #[true, true, true, false, true, true, false, false, false, false, false, false, false, false, false, false, false, false, false, false, false, false, false, false, false, false, false, false, false, false, false, false, false, false] rfl rfl (any_of HT_.out (by kernel_rfl)) (fun _ _ _ h => h) (Or.inl ⟨by rfl, ?_⟩) ?_ ?_
 rotate_left
 ·(
 intro w'
 go_simp
 with_reducible rfl)
 rotate_left
 ·(
 simp only [Act.put, List.setIfInBounds_toArray, List.set_cons_zero, List.set_cons_succ, i64_w, i32_w]
 rfl)
 refine pure_ (i := 6) (N := some 54) (v := ?_) (a' := ?_) #[true, true, true, false, true, true, true, false, false, false, false, false, false, false, false, false, false, false, false, false, false, false, false, false, false, false, false, false, false, false, false, false, false, false] rfl rfl (any_of HT_.out (by kernel_rfl)) (fun _ _ _ h => h) (Or.inl ⟨by rfl, ?_⟩) ?_ ?_
 rotate_left
 ·(
 intro w'
 go_simp
 with_reducible rfl)
 rotate_left
 ·(
 simp only [Act.put, List.setIfInBounds_toArray, List.set_cons_zero, List.set_cons_succ, i64_w, i32_w]
 rfl)
 refine take_ (i := 3) (N := some 51) (v := ?_) (a' := ?_) #[true, true, true, true, true, true, true, false, false, false, false, false, false, false, false, false, false, false, false, false, false, false, false, false, false, false, false, false, false, false, false, false, false, false] rfl rfl (take_ofW HT_.out HW_.out (by kernel_rfl)) (fun _ _ _ h => h) (Or.inl ⟨by rfl, ?_⟩) hHeld ?_ ?_
 rotate_left
 ·(
 rintro w' ⟨s0, s1, s2, s3, s4, s5, s6, s7, s8, s9, s10, s11, s12, s13, s14, s15, s16, s17, s18, s19, s20, s21, s22, s23, s24, s25, s26, s27, s28, s29, s30, s31, s32, s33, s34, s35⟩
 go_simp
 with_reducible rfl)
 rotate_left
 ·(
 simp only [Act.put, List.setIfInBounds_toArray, List.set_cons_zero, List.set_cons_succ, i64_w, i32_w]
 rfl)
 refine take_ (i := 7) (N := some 55) (v := ?_) (a' := ?_) #[true, true, true, true, true, true, true, true, false, false, false, false, false, false, false, false, false, false, false, false, false, false, false, false, false, false, false, false, false, false, false, false, false, false] rfl rfl (take_ofW HT_.out HW_.out (by kernel_rfl)) (fun _ _ _ h => h) (Or.inl ⟨by rfl, ?_⟩) hHeld ?_ ?_
 rotate_left
 ·(
 rintro w' ⟨s0, s1, s2, s3, s4, s5, s6, s7, s8, s9, s10, s11, s12, s13, s14, s15, s16, s17, s18, s19, s20, s21, s22, s23, s24, s25, s26, s27, s28, s29, s30, s31, s32, s33, s34, s35⟩
 go_simp
 with_reducible rfl)
 rotate_left
 ·(
 simp only [Act.put, List.setIfInBounds_toArray, List.set_cons_zero, List.set_cons_succ, i64_w, i32_w]
 rfl)
 refine one_ (i := 8) (N := some 56) #[true, true, true, true, true, true, true, true, true, false, false, false, false, false, false, false, false, false, false, false, false, false, false, false, false, false, false, false, false, false, false, false, false, false] rfl rfl (one_of HT_.out (by kernel_rfl)) (by decide) (fun K hK => ?_)
 refine goes_ Try.func21 (by kernel_rfl) rfl #[.agg #[.int .i64 ((rd_T39 y194 x12_1).f0), .int .i64 ((rd_T39 y194 x12_1).f1), .int .i64 ((rd_T39 y194 x12_1).f2.f0), .int .i64 ((rd_T39 y194 x12_1).f2.f1), .int .i64 ((rd_T39 y194 x12_1).f2.f2), .int .i64 ((rd_T39 y194 x12_1).f2.f3.f0), .int .i64 ((rd_T39 y194 x12_1).f2.f3.f1), .int .i64 ((rd_T39 y194 x12_1).f2.f4), .int .i64 ((rd_T39 y194 x12_1).f2.f5)], .agg #[.int .i64 ((rd_T39 y194 x13_2).f0), .int .i64 ((rd_T39 y194 x13_2).f1), .int .i64 ((rd_T39 y194 x13_2).f2.f0), .int .i64 ((rd_T39 y194 x13_2).f2.f1), .int .i64 ((rd_T39 y194 x13_2).f2.f2), .int .i64 ((rd_T39 y194 x13_2).f2.f3.f0), .int .i64 ((rd_T39 y194 x13_2).f2.f3.f1), .int .i64 ((rd_T39 y194 x13_2).f2.f4), .int .i64 ((rd_T39 y194 x13_2).f2.f5)]] (by first | rfl | (refine wanted_on rfl rfl rfl ?_; first | assumption | (simp [*]; done))) rfl rfl (by (try simp only [List.map_toArray, List.map_cons, List.map_nil]); first | done | rfl | (simp only [List.length_drop, List.length_take]; rfl)) ?_
 with_reducible refine (determinant_Compare.calls k3 ((rd_T39 y194 x12_1).f0) ((rd_T39 y194 x12_1).f1) ((rd_T39 y194 x12_1).f2.f0) ((rd_T39 y194 x12_1).f2.f1) ((rd_T39 y194 x12_1).f2.f2) ((rd_T39 y194 x12_1).f2.f3.f0) ((rd_T39 y194 x12_1).f2.f3.f1) ((rd_T39 y194 x12_1).f2.f4) ((rd_T39 y194 x12_1).f2.f5) ((rd_T39 y194 x13_2).f0) ((rd_T39 y194 x13_2).f1) ((rd_T39 y194 x13_2).f2.f0) ((rd_T39 y194 x13_2).f2.f1) ((rd_T39 y194 x13_2).f2.f2) ((rd_T39 y194 x13_2).f2.f3.f0) ((rd_T39 y194 x13_2).f2.f3.f1) ((rd_T39 y194 x13_2).f2.f4) ((rd_T39 y194 x13_2).f2.f5) t199 _ A27.out).mono ?_
 rintro e w43 ⟨rfl, hb⟩
 have HS0_ := (hb.cell (World.block_lt_of_cell? _ _ (hHeld.1))).trans (hHeld.1)
 have HS1_ := (hb.cell (World.block_lt_of_cell? _ _ (hHeld.2.1))).trans (hHeld.2.1)
 have HS2_ := (hb.cell (World.block_lt_of_cell? _ _ (hHeld.2.2.1))).trans (hHeld.2.2.1)
 have HS3_ := (hb.cell (World.block_lt_of_cell? _ _ (hHeld.2.2.2.1))).trans (hHeld.2.2.2.1)
 have HS4_ := (hb.cell (World.block_lt_of_cell? _ _ (hHeld.2.2.2.2.1))).trans (hHeld.2.2.2.2.1)
 have HS5_ := (hb.cell (World.block_lt_of_cell? _ _ (hHeld.2.2.2.2.2.1))).trans (hHeld.2.2.2.2.2.1)
 have HS6_ := (hb.cell (World.block_lt_of_cell? _ _ (hHeld.2.2.2.2.2.2.1))).trans (hHeld.2.2.2.2.2.2.1)
 have HS7_ := (hb.cell (World.block_lt_of_cell? _ _ (hHeld.2.2.2.2.2.2.2.1))).trans (hHeld.2.2.2.2.2.2.2.1)
 have HS8_ := (hb.cell (World.block_lt_of_cell? _ _ (hHeld.2.2.2.2.2.2.2.2.1))).trans (hHeld.2.2.2.2.2.2.2.2.1)
 have HS9_ := (hb.cell (World.block_lt_of_cell? _ _ (hHeld.2.2.2.2.2.2.2.2.2.1))).trans (hHeld.2.2.2.2.2.2.2.2.2.1)
 have HS10_ := (hb.cell (World.block_lt_of_cell? _ _ (hHeld.2.2.2.2.2.2.2.2.2.2.1))).trans (hHeld.2.2.2.2.2.2.2.2.2.2.1)
 have HS11_ := (hb.cell (World.block_lt_of_cell? _ _ (hHeld.2.2.2.2.2.2.2.2.2.2.2.1))).trans (hHeld.2.2.2.2.2.2.2.2.2.2.2.1)
 have HS12_ := (hb.cell (World.block_lt_of_cell? _ _ (hHeld.2.2.2.2.2.2.2.2.2.2.2.2.1))).trans (hHeld.2.2.2.2.2.2.2.2.2.2.2.2.1)
 have HS13_ := (hb.cell (World.block_lt_of_cell? _ _ (hHeld.2.2.2.2.2.2.2.2.2.2.2.2.2.1))).trans (hHeld.2.2.2.2.2.2.2.2.2.2.2.2.2.1)
 have HS14_ := (hb.cell (World.block_lt_of_cell? _ _ (hHeld.2.2.2.2.2.2.2.2.2.2.2.2.2.2.1))).trans (hHeld.2.2.2.2.2.2.2.2.2.2.2.2.2.2.1)
 have HS15_ := (hb.cell (World.block_lt_of_cell? _ _ (hHeld.2.2.2.2.2.2.2.2.2.2.2.2.2.2.2.1))).trans (hHeld.2.2.2.2.2.2.2.2.2.2.2.2.2.2.2.1)
 have HS16_ := (hb.cell (World.block_lt_of_cell? _ _ (hHeld.2.2.2.2.2.2.2.2.2.2.2.2.2.2.2.2.1))).trans (hHeld.2.2.2.2.2.2.2.2.2.2.2.2.2.2.2.2.1)
 have HS17_ := (hb.cell (World.block_lt_of_cell? _ _ (hHeld.2.2.2.2.2.2.2.2.2.2.2.2.2.2.2.2.2.1))).trans (hHeld.2.2.2.2.2.2.2.2.2.2.2.2.2.2.2.2.2.1)
 have HS18_ := (hb.cell (World.block_lt_of_cell? _ _ (hHeld.2.2.2.2.2.2.2.2.2.2.2.2.2.2.2.2.2.2.1))).trans (hHeld.2.2.2.2.2.2.2.2.2.2.2.2.2.2.2.2.2.2.1)
 have HS19_ := (hb.cell (World.block_lt_of_cell? _ _ (hHeld.2.2.2.2.2.2.2.2.2.2.2.2.2.2.2.2.2.2.2.1))).trans (hHeld.2.2.2.2.2.2.2.2.2.2.2.2.2.2.2.2.2.2.2.1)
 have HS20_ := (hb.cell (World.block_lt_of_cell? _ _ (hHeld.2.2.2.2.2.2.2.2.2.2.2.2.2.2.2.2.2.2.2.2.1))).trans (hHeld.2.2.2.2.2.2.2.2.2.2.2.2.2.2.2.2.2.2.2.2.1)
 have HS21_ := (hb.cell (World.block_lt_of_cell? _ _ (hHeld.2.2.2.2.2.2.2.2.2.2.2.2.2.2.2.2.2.2.2.2.2.1))).trans (hHeld.2.2.2.2.2.2.2.2.2.2.2.2.2.2.2.2.2.2.2.2.2.1)
 have HS22_ := (hb.cell (World.block_lt_of_cell? _ _ (hHeld.2.2.2.2.2.2.2.2.2.2.2.2.2.2.2.2.2.2.2.2.2.2.1))).trans (hHeld.2.2.2.2.2.2.2.2.2.2.2.2.2.2.2.2.2.2.2.2.2.2.1)
 have HS23_ := (hb.cell (World.block_lt_of_cell? _ _ (hHeld.2.2.2.2.2.2.2.2.2.2.2.2.2.2.2.2.2.2.2.2.2.2.2.1))).trans (hHeld.2.2.2.2.2.2.2.2.2.2.2.2.2.2.2.2.2.2.2.2.2.2.2.1)
 have HS24_ := (hb.cell (World.block_lt_of_cell? _ _ (hHeld.2.2.2.2.2.2.2.2.2.2.2.2.2.2.2.2.2.2.2.2.2.2.2.2.1))).trans (hHeld.2.2.2.2.2.2.2.2.2.2.2.2.2.2.2.2.2.2.2.2.2.2.2.2.1)
 have HS25_ := (hb.cell (World.block_lt_of_cell? _ _ (hHeld.2.2.2.2.2.2.2.2.2.2.2.2.2.2.2.2.2.2.2.2.2.2.2.2.2.1))).trans (hHeld.2.2.2.2.2.2.2.2.2.2.2.2.2.2.2.2.2.2.2.2.2.2.2.2.2.1)
 have HS26_ := (hb.cell (World.block_lt_of_cell? _ _ (hHeld.2.2.2.2.2.2.2.2.2.2.2.2.2.2.2.2.2.2.2.2.2.2.2.2.2.2.1))).trans (hHeld.2.2.2.2.2.2.2.2.2.2.2.2.2.2.2.2.2.2.2.2.2.2.2.2.2.2.1)
 have HS27_ := (hb.cell (World.block_lt_of_cell? _ _ (hHeld.2.2.2.2.2.2.2.2.2.2.2.2.2.2.2.2.2.2.2.2.2.2.2.2.2.2.2.1))).trans (hHeld.2.2.2.2.2.2.2.2.2.2.2.2.2.2.2.2.2.2.2.2.2.2.2.2.2.2.2.1)
 have HS28_ := (hb.cell (World.block_lt_of_cell? _ _ (hHeld.2.2.2.2.2.2.2.2.2.2.2.2.2.2.2.2.2.2.2.2.2.2.2.2.2.2.2.2.1))).trans (hHeld.2.2.2.2.2.2.2.2.2.2.2.2.2.2.2.2.2.2.2.2.2.2.2.2.2.2.2.2.1)
 have HS29_ := (hb.cell (World.block_lt_of_cell? _ _ (hHeld.2.2.2.2.2.2.2.2.2.2.2.2.2.2.2.2.2.2.2.2.2.2.2.2.2.2.2.2.2.1))).trans (hHeld.2.2.2.2.2.2.2.2.2.2.2.2.2.2.2.2.2.2.2.2.2.2.2.2.2.2.2.2.2.1)
 have HS30_ := (hb.cell (World.block_lt_of_cell? _ _ (hHeld.2.2.2.2.2.2.2.2.2.2.2.2.2.2.2.2.2.2.2.2.2.2.2.2.2.2.2.2.2.2.1))).trans (hHeld.2.2.2.2.2.2.2.2.2.2.2.2.2.2.2.2.2.2.2.2.2.2.2.2.2.2.2.2.2.2.1)
 have HS31_ := (hb.cell (World.block_lt_of_cell? _ _ (hHeld.2.2.2.2.2.2.2.2.2.2.2.2.2.2.2.2.2.2.2.2.2.2.2.2.2.2.2.2.2.2.2.1))).trans (hHeld.2.2.2.2.2.2.2.2.2.2.2.2.2.2.2.2.2.2.2.2.2.2.2.2.2.2.2.2.2.2.2.1)
 have HS32_ := (hb.cell (World.block_lt_of_cell? _ _ (hHeld.2.2.2.2.2.2.2.2.2.2.2.2.2.2.2.2.2.2.2.2.2.2.2.2.2.2.2.2.2.2.2.2.1))).trans (hHeld.2.2.2.2.2.2.2.2.2.2.2.2.2.2.2.2.2.2.2.2.2.2.2.2.2.2.2.2.2.2.2.2.1)
 have HS33_ := (hb.cell (World.block_lt_of_cell? _ _ (hHeld.2.2.2.2.2.2.2.2.2.2.2.2.2.2.2.2.2.2.2.2.2.2.2.2.2.2.2.2.2.2.2.2.2.1))).trans (hHeld.2.2.2.2.2.2.2.2.2.2.2.2.2.2.2.2.2.2.2.2.2.2.2.2.2.2.2.2.2.2.2.2.2.1)
 have HS34_ := (hb.cell (World.block_lt_of_cell? _ _ (hHeld.2.2.2.2.2.2.2.2.2.2.2.2.2.2.2.2.2.2.2.2.2.2.2.2.2.2.2.2.2.2.2.2.2.2.1))).trans (hHeld.2.2.2.2.2.2.2.2.2.2.2.2.2.2.2.2.2.2.2.2.2.2.2.2.2.2.2.2.2.2.2.2.2.2.1)
 have HS35_ := (hb.cell (World.block_lt_of_cell? _ _ (hHeld.2.2.2.2.2.2.2.2.2.2.2.2.2.2.2.2.2.2.2.2.2.2.2.2.2.2.2.2.2.2.2.2.2.2.2))).trans (hHeld.2.2.2.2.2.2.2.2.2.2.2.2.2.2.2.2.2.2.2.2.2.2.2.2.2.2.2.2.2.2.2.2.2.2.2)
 refine ⟨_, rfl, ?_⟩
 have n0_ := Aside0.mk (Kd.R_below (rq HO_11.out) hb)
 have n1_ := Aside0.mk (blk_below (g := gb172) (o := .cells #[.int .i64 a0_0, .int .i64 a0_1, .int .i64 a0_2, .int .i64 a0_3, .int .i64 a0_4, .int .i64 a0_5, .int .i64 a0_6, .int .i64 a0_7, .int .i64 a0_8] 39 (0, 0)) (kq BK172.out) hb)
 have n2_ := Aside0.mk (blk_below (g := gb173) (o := .cells #[.int .i64 a1_0, .int .i64 a1_1, .int .i64 a1_2, .int .i64 a1_3, .int .i64 a1_4, .int .i64 a1_5, .int .i64 a1_6, .int .i64 a1_7, .int .i64 a1_8] 39 (0, 0)) (kq BK173.out) hb)
 have n3_ := Aside0.mk (blk_below (g := gb174) (o := .cells #[.int .i64 a2_0, .int .i64 a2_1, .int .i64 a2_2, .int .i64 a2_3, .int .i64 a2_4, .int .i64 a2_5, .int .i64 a2_6, .int .i64 a2_7, .int .i64 a2_8] 39 (0, 0)) (kq BK174.out) hb)
 have n4_ := Aside0.mk (below_step (bq3 HB.out GE172.out GE173.out GE174.out) hb)
 clear HO_11
 clear BK172
 clear BK173
 clear BK174
 clear HB
 have HO_11 := n0_
 have BK172 := n1_
 have BK173 := n2_
 have BK174 := n3_
 have HB := n4_
 clear n0_ n1_ n2_ n3_ n4_
 (try clear hb)
 (try clear hb2)
 (try clear hk)
 (try clear hi)
 refine hK.out _ _ ⟨HS0_, HS1_, HS2_, HS3_, HS4_, HS5_, HS6_, HS7_, HS8_, HS9_, HS10_, HS11_, HS12_, HS13_, HS14_, HS15_, HS16_, HS17_, HS18_, HS19_, HS20_, HS21_, HS22_, HS23_, HS24_, HS25_, HS26_, HS27_, HS28_, HS29_, HS30_, HS31_, HS32_, HS33_, HS34_, HS35_⟩ (fun hHeld => ?_)
 clear hK K
 refine norm_ (a' := ?_) ?_ ?_
 rotate_left
 ·(
 show Act.put _ (some 56) _ = _
 simp only [Act.put, List.setIfInBounds_toArray, List.set_cons_zero, List.set_cons_succ, i64_w, i32_w]
 rfl)
 refine pure_ (i := 9) (N := some 57) (v := ?_) (a' := ?_) #[true, true, true, true, true, true, true, true, true, true, false, false, false, false, false, false, false, false, false, false, false, false, false, false, false, false, false, false, false, false, false, false, false, false] rfl rfl (any_of HT_.out (by kernel_rfl)) (fun _ _ _ h => h) (Or.inl ⟨by rfl, ?_⟩) ?_ ?_
 rotate_left
 ·(
 intro w'
 go_simp
 with_reducible rfl)
 rotate_left
 ·(
 simp only [Act.put, List.setIfInBounds_toArray, List.set_cons_zero, List.set_cons_succ, i64_w, i32_w]
 rfl)
 refine pure_ (i := 10) (N := some 58) (v := ?_) (a' := ?_) #[true, true, true, true, true, true, true, true, true, true, true, false, false, false, false, false, false, false, false, false, false, false, false, false, false, false, false, false, false, false, false, false, false, false] rfl rfl (any_of HT_.out (by kernel_rfl)) (fun _ _ _ h => h) (Or.inl ⟨by rfl, ?_⟩) ?_ ?_
 rotate_left
 ·(
 intro w'
 go_simp
 with_reducible rfl)
 rotate_left
 ·(
 simp only [Act.put, List.setIfInBounds_toArray, List.set_cons_zero, List.set_cons_succ, i64_w, i32_w]
 rfl)
 refine pure_ (i := 11) (N := some 59) (v := ?_) (a' := ?_) #[true, true, true, true, true, true, true, true, true, true, true, true, false, false, false, false, false, false, false, false, false, false, false, false, false, false, false, false, false, false, false, false, false, false] rfl rfl (any_of HT_.out (by kernel_rfl)) (fun _ _ _ h => h) (Or.inl ⟨by rfl, ?_⟩) ?_ ?_
 rotate_left
 ·(
 intro w'
 go_simp
 with_reducible rfl)
 rotate_left
 ·(
 simp only [Act.put, List.setIfInBounds_toArray, List.set_cons_zero, List.set_cons_succ, i64_w, i32_w]
 rfl)
 refine pure_ (i := 12) (N := some 60) (v := ?_) (a' := ?_) #[true, true, true, true, true, true, true, true, true, true, true, true, true, false, false, false, false, false, false, false, false, false, false, false, false, false, false, false, false, false, false, false, false, false] rfl rfl (any_of HT_.out (by kernel_rfl)) (fun _ _ _ h => h) (Or.inl ⟨by rfl, ?_⟩) ?_ ?_
 rotate_left
 ·(
 intro w'
 go_simp
 with_reducible rfl)
 rotate_left
 ·(
 simp only [Act.put, List.setIfInBounds_toArray, List.set_cons_zero, List.set_cons_succ, i64_w, i32_w]
 rfl)
 refine pure_ (i := 13) (N := some 61) (v := ?_) (a' := ?_) #[true, true, true, true, true, true, true, true, true, true, true, true, true, true, false, false, false, false, false, false, false, false, false, false, false, false, false, false, false, false, false, false, false, false] rfl rfl (any_of HT_.out (by kernel_rfl)) (fun _ _ _ h => h) (Or.inl ⟨by rfl, ?_⟩) ?_ ?_
 rotate_left
 ·(
 intro w'
 go_simp
 with_reducible rfl)
 rotate_left
 ·(
 simp only [Act.put, List.setIfInBounds_toArray, List.set_cons_zero, List.set_cons_succ, i64_w, i32_w]
 rfl)
 refine pure_ (i := 15) (N := some 63) (v := ?_) (a' := ?_) #[true, true, true, true, true, true, true, true, true, true, true, true, true, true, false, true, false, false, false, false, false, false, false, false, false, false, false, false, false, false, false, false, false, false] rfl rfl (any_of HT_.out (by kernel_rfl)) (fun _ _ _ h => h) (Or.inl ⟨by rfl, ?_⟩) ?_ ?_
 rotate_left
 ·(
 intro w'
 go_simp
 with_reducible rfl)
 rotate_left
 ·(
 simp only [Act.put, List.setIfInBounds_toArray, List.set_cons_zero, List.set_cons_succ, i64_w, i32_w]
 rfl)
 refine pure_ (i := 16) (N := some 64) (v := ?_) (a' := ?_) #[true, true, true, true, true, true, true, true, true, true, true, true, true, true, false, true, true, false, false, false, false, false, false, false, false, false, false, false, false, false, false, false, false, false] rfl rfl (any_of HT_.out (by kernel_rfl)) (fun _ _ _ h => h) (Or.inl ⟨by rfl, ?_⟩) ?_ ?_
 rotate_left
 ·(
 intro w'
 go_simp
 with_reducible rfl)
 rotate_left
 ·(
 simp only [Act.put, List.setIfInBounds_toArray, List.set_cons_zero, List.set_cons_succ, i64_w, i32_w]
 rfl)
 refine pure_ (i := 17) (N := some 65) (v := ?_) (a' := ?_) #[true, true, true, true, true, true, true, true, true, true, true, true, true, true, false, true, true, true, false, false, false, false, false, false, false, false, false, false, false, false, false, false, false, false] rfl rfl (any_of HT_.out (by kernel_rfl)) (fun _ _ _ h => h) (Or.inl ⟨by rfl, ?_⟩) ?_ ?_
 rotate_left
 ·(
 intro w'
 go_simp
 with_reducible rfl)
 rotate_left
 ·(
 simp only [Act.put, List.setIfInBounds_toArray, List.set_cons_zero, List.set_cons_succ, i64_w, i32_w]
 rfl)
 refine take_ (i := 14) (N := some 62) (v := ?_) (a' := ?_) #[true, true, true, true, true, true, true, true, true, true, true, true, true, true, true, true, true, true, false, false, false, false, false, false, false, false, false, false, false, false, false, false, false, false] rfl rfl (take_ofW HT_.out HW_.out (by kernel_rfl)) (fun _ _ _ h => h) (Or.inl ⟨by rfl, ?_⟩) hHeld ?_ ?_
 rotate_left
 ·(
 rintro w' ⟨s0, s1, s2, s3, s4, s5, s6, s7, s8, s9, s10, s11, s12, s13, s14, s15, s16, s17, s18, s19, s20, s21, s22, s23, s24, s25, s26, s27, s28, s29, s30, s31, s32, s33, s34, s35⟩
 go_simp
 with_reducible rfl)
 rotate_left
 ·(
 simp only [Act.put, List.setIfInBounds_toArray, List.set_cons_zero, List.set_cons_succ, i64_w, i32_w]
 rfl)
 refine take_ (i := 18) (N := some 66) (v := ?_) (a' := ?_) #[true, true, true, true, true, true, true, true, true, true, true, true, true, true, true, true, true, true, true, false, false, false, false, false, false, false, false, false, false, false, false, false, false, false] rfl rfl (take_ofW HT_.out HW_.out (by kernel_rfl)) (fun _ _ _ h => h) (Or.inl ⟨by rfl, ?_⟩) hHeld ?_ ?_
 rotate_left
 ·(
 rintro w' ⟨s0, s1, s2, s3, s4, s5, s6, s7, s8, s9, s10, s11, s12, s13, s14, s15, s16, s17, s18, s19, s20, s21, s22, s23, s24, s25, s26, s27, s28, s29, s30, s31, s32, s33, s34, s35⟩
 go_simp
 with_reducible rfl)
 rotate_left
 ·(
 simp only [Act.put, List.setIfInBounds_toArray, List.set_cons_zero, List.set_cons_succ, i64_w, i32_w]
 rfl)
 refine one_ (i := 19) (N := some 67) #[true, true, true, true, true, true, true, true, true, true, true, true, true, true, true, true, true, true, true, true, false, false, false, false, false, false, false, false, false, false, false, false, false, false] rfl rfl (one_of HT_.out (by kernel_rfl)) (by decide) (fun K hK => ?_)
 refine goes_ Try.func21 (by kernel_rfl) rfl #[.agg #[.int .i64 ((rd_T39 y194 x13_2).f0), .int .i64 ((rd_T39 y194 x13_2).f1), .int .i64 ((rd_T39 y194 x13_2).f2.f0), .int .i64 ((rd_T39 y194 x13_2).f2.f1), .int .i64 ((rd_T39 y194 x13_2).f2.f2), .int .i64 ((rd_T39 y194 x13_2).f2.f3.f0), .int .i64 ((rd_T39 y194 x13_2).f2.f3.f1), .int .i64 ((rd_T39 y194 x13_2).f2.f4), .int .i64 ((rd_T39 y194 x13_2).f2.f5)], .agg #[.int .i64 ((rd_T39 y194 x14_3).f0), .int .i64 ((rd_T39 y194 x14_3).f1), .int .i64 ((rd_T39 y194 x14_3).f2.f0), .int .i64 ((rd_T39 y194 x14_3).f2.f1), .int .i64 ((rd_T39 y194 x14_3).f2.f2), .int .i64 ((rd_T39 y194 x14_3).f2.f3.f0), .int .i64 ((rd_T39 y194 x14_3).f2.f3.f1), .int .i64 ((rd_T39 y194 x14_3).f2.f4), .int .i64 ((rd_T39 y194 x14_3).f2.f5)]] (by first | rfl | (refine wanted_on rfl rfl rfl ?_; first | assumption | (simp [*]; done))) rfl rfl (by (try simp only [List.map_toArray, List.map_cons, List.map_nil]); first | done | rfl | (simp only [List.length_drop, List.length_take]; rfl)) ?_
 with_reducible refine (determinant_Compare.calls k3 ((rd_T39 y194 x13_2).f0) ((rd_T39 y194 x13_2).f1) ((rd_T39 y194 x13_2).f2.f0) ((rd_T39 y194 x13_2).f2.f1) ((rd_T39 y194 x13_2).f2.f2) ((rd_T39 y194 x13_2).f2.f3.f0) ((rd_T39 y194 x13_2).f2.f3.f1) ((rd_T39 y194 x13_2).f2.f4) ((rd_T39 y194 x13_2).f2.f5) ((rd_T39 y194 x14_3).f0) ((rd_T39 y194 x14_3).f1) ((rd_T39 y194 x14_3).f2.f0) ((rd_T39 y194 x14_3).f2.f1) ((rd_T39 y194 x14_3).f2.f2) ((rd_T39 y194 x14_3).f2.f3.f0) ((rd_T39 y194 x14_3).f2.f3.f1) ((rd_T39 y194 x14_3).f2.f4) ((rd_T39 y194 x14_3).f2.f5) t202 _ A30.out).mono ?_
 rintro e w44 ⟨rfl, hb⟩
 have HS0_ := (hb.cell (World.block_lt_of_cell? _ _ (hHeld.1))).trans (hHeld.1)
 have HS1_ := (hb.cell (World.block_lt_of_cell? _ _ (hHeld.2.1))).trans (hHeld.2.1)
 have HS2_ := (hb.cell (World.block_lt_of_cell? _ _ (hHeld.2.2.1))).trans (hHeld.2.2.1)
 have HS3_ := (hb.cell (World.block_lt_of_cell? _ _ (hHeld.2.2.2.1))).trans (hHeld.2.2.2.1)
 have HS4_ := (hb.cell (World.block_lt_of_cell? _ _ (hHeld.2.2.2.2.1))).trans (hHeld.2.2.2.2.1)
 have HS5_ := (hb.cell (World.block_lt_of_cell? _ _ (hHeld.2.2.2.2.2.1))).trans (hHeld.2.2.2.2.2.1)
 have HS6_ := (hb.cell (World.block_lt_of_cell? _ _ (hHeld.2.2.2.2.2.2.1))).trans (hHeld.2.2.2.2.2.2.1)
 have HS7_ := (hb.cell (World.block_lt_of_cell? _ _ (hHeld.2.2.2.2.2.2.2.1))).trans (hHeld.2.2.2.2.2.2.2.1)
 have HS8_ := (hb.cell (World.block_lt_of_cell? _ _ (hHeld.2.2.2.2.2.2.2.2.1))).trans (hHeld.2.2.2.2.2.2.2.2.1)
 have HS9_ := (hb.cell (World.block_lt_of_cell? _ _ (hHeld.2.2.2.2.2.2.2.2.2.1))).trans (hHeld.2.2.2.2.2.2.2.2.2.1)
 have HS10_ := (hb.cell (World.block_lt_of_cell? _ _ (hHeld.2.2.2.2.2.2.2.2.2.2.1))).trans (hHeld.2.2.2.2.2.2.2.2.2.2.1)
 have HS11_ := (hb.cell (World.block_lt_of_cell? _ _ (hHeld.2.2.2.2.2.2.2.2.2.2.2.1))).trans (hHeld.2.2.2.2.2.2.2.2.2.2.2.1)
 have HS12_ := (hb.cell (World.block_lt_of_cell? _ _ (hHeld.2.2.2.2.2.2.2.2.2.2.2.2.1))).trans (hHeld.2.2.2.2.2.2.2.2.2.2.2.2.1)
 have HS13_ := (hb.cell (World.block_lt_of_cell? _ _ (hHeld.2.2.2.2.2.2.2.2.2.2.2.2.2.1))).trans (hHeld.2.2.2.2.2.2.2.2.2.2.2.2.2.1)
 have HS14_ := (hb.cell (World.block_lt_of_cell? _ _ (hHeld.2.2.2.2.2.2.2.2.2.2.2.2.2.2.1))).trans (hHeld.2.2.2.2.2.2.2.2.2.2.2.2.2.2.1)
 have HS15_ := (hb.cell (World.block_lt_of_cell? _ _ (hHeld.2.2.2.2.2.2.2.2.2.2.2.2.2.2.2.1))).trans (hHeld.2.2.2.2.2.2.2.2.2.2.2.2.2.2.2.1)
 have HS16_ := (hb.cell (World.block_lt_of_cell? _ _ (hHeld.2.2.2.2.2.2.2.2.2.2.2.2.2.2.2.2.1))).trans (hHeld.2.2.2.2.2.2.2.2.2.2.2.2.2.2.2.2.1)
 have HS17_ := (hb.cell (World.block_lt_of_cell? _ _ (hHeld.2.2.2.2.2.2.2.2.2.2.2.2.2.2.2.2.2.1))).trans (hHeld.2.2.2.2.2.2.2.2.2.2.2.2.2.2.2.2.2.1)
 have HS18_ := (hb.cell (World.block_lt_of_cell? _ _ (hHeld.2.2.2.2.2.2.2.2.2.2.2.2.2.2.2.2.2.2.1))).trans (hHeld.2.2.2.2.2.2.2.2.2.2.2.2.2.2.2.2.2.2.1)
 have HS19_ := (hb.cell (World.block_lt_of_cell? _ _ (hHeld.2.2.2.2.2.2.2.2.2.2.2.2.2.2.2.2.2.2.2.1))).trans (hHeld.2.2.2.2.2.2.2.2.2.2.2.2.2.2.2.2.2.2.2.1)
 have HS20_ := (hb.cell (World.block_lt_of_cell? _ _ (hHeld.2.2.2.2.2.2.2.2.2.2.2.2.2.2.2.2.2.2.2.2.1))).trans (hHeld.2.2.2.2.2.2.2.2.2.2.2.2.2.2.2.2.2.2.2.2.1)
 have HS21_ := (hb.cell (World.block_lt_of_cell? _ _ (hHeld.2.2.2.2.2.2.2.2.2.2.2.2.2.2.2.2.2.2.2.2.2.1))).trans (hHeld.2.2.2.2.2.2.2.2.2.2.2.2.2.2.2.2.2.2.2.2.2.1)
 have HS22_ := (hb.cell (World.block_lt_of_cell? _ _ (hHeld.2.2.2.2.2.2.2.2.2.2.2.2.2.2.2.2.2.2.2.2.2.2.1))).trans (hHeld.2.2.2.2.2.2.2.2.2.2.2.2.2.2.2.2.2.2.2.2.2.2.1)
 have HS23_ := (hb.cell (World.block_lt_of_cell? _ _ (hHeld.2.2.2.2.2.2.2.2.2.2.2.2.2.2.2.2.2.2.2.2.2.2.2.1))).trans (hHeld.2.2.2.2.2.2.2.2.2.2.2.2.2.2.2.2.2.2.2.2.2.2.2.1)
 have HS24_ := (hb.cell (World.block_lt_of_cell? _ _ (hHeld.2.2.2.2.2.2.2.2.2.2.2.2.2.2.2.2.2.2.2.2.2.2.2.2.1))).trans (hHeld.2.2.2.2.2.2.2.2.2.2.2.2.2.2.2.2.2.2.2.2.2.2.2.2.1)
 have HS25_ := (hb.cell (World.block_lt_of_cell? _ _ (hHeld.2.2.2.2.2.2.2.2.2.2.2.2.2.2.2.2.2.2.2.2.2.2.2.2.2.1))).trans (hHeld.2.2.2.2.2.2.2.2.2.2.2.2.2.2.2.2.2.2.2.2.2.2.2.2.2.1)
 have HS26_ := (hb.cell (World.block_lt_of_cell? _ _ (hHeld.2.2.2.2.2.2.2.2.2.2.2.2.2.2.2.2.2.2.2.2.2.2.2.2.2.2.1))).trans (hHeld.2.2.2.2.2.2.2.2.2.2.2.2.2.2.2.2.2.2.2.2.2.2.2.2.2.2.1)
 have HS27_ := (hb.cell (World.block_lt_of_cell? _ _ (hHeld.2.2.2.2.2.2.2.2.2.2.2.2.2.2.2.2.2.2.2.2.2.2.2.2.2.2.2.1))).trans (hHeld.2.2.2.2.2.2.2.2.2.2.2.2.2.2.2.2.2.2.2.2.2.2.2.2.2.2.2.1)
 have HS28_ := (hb.cell (World.block_lt_of_cell? _ _ (hHeld.2.2.2.2.2.2.2.2.2.2.2.2.2.2.2.2.2.2.2.2.2.2.2.2.2.2.2.2.1))).trans (hHeld.2.2.2.2.2.2.2.2.2.2.2.2.2.2.2.2.2.2.2.2.2.2.2.2.2.2.2.2.1)
 have HS29_ := (hb.cell (World.block_lt_of_cell? _ _ (hHeld.2.2.2.2.2.2.2.2.2.2.2.2.2.2.2.2.2.2.2.2.2.2.2.2.2.2.2.2.2.1))).trans (hHeld.2.2.2.2.2.2.2.2.2.2.2.2.2.2.2.2.2.2.2.2.2.2.2.2.2.2.2.2.2.1)
 have HS30_ := (hb.cell (World.block_lt_of_cell? _ _ (hHeld.2.2.2.2.2.2.2.2.2.2.2.2.2.2.2.2.2.2.2.2.2.2.2.2.2.2.2.2.2.2.1))).trans (hHeld.2.2.2.2.2.2.2.2.2.2.2.2.2.2.2.2.2.2.2.2.2.2.2.2.2.2.2.2.2.2.1)
 have HS31_ := (hb.cell (World.block_lt_of_cell? _ _ (hHeld.2.2.2.2.2.2.2.2.2.2.2.2.2.2.2.2.2.2.2.2.2.2.2.2.2.2.2.2.2.2.2.1))).trans (hHeld.2.2.2.2.2.2.2.2.2.2.2.2.2.2.2.2.2.2.2.2.2.2.2.2.2.2.2.2.2.2.2.1)
 have HS32_ := (hb.cell (World.block_lt_of_cell? _ _ (hHeld.2.2.2.2.2.2.2.2.2.2.2.2.2.2.2.2.2.2.2.2.2.2.2.2.2.2.2.2.2.2.2.2.1))).trans (hHeld.2.2.2.2.2.2.2.2.2.2.2.2.2.2.2.2.2.2.2.2.2.2.2.2.2.2.2.2.2.2.2.2.1)
 have HS33_ := (hb.cell (World.block_lt_of_cell? _ _ (hHeld.2.2.2.2.2.2.2.2.2.2.2.2.2.2.2.2.2.2.2.2.2.2.2.2.2.2.2.2.2.2.2.2.2.1))).trans (hHeld.2.2.2.2.2.2.2.2.2.2.2.2.2.2.2.2.2.2.2.2.2.2.2.2.2.2.2.2.2.2.2.2.2.1)
 have HS34_ := (hb.cell (World.block_lt_of_cell? _ _ (hHeld.2.2.2.2.2.2.2.2.2.2.2.2.2.2.2.2.2.2.2.2.2.2.2.2.2.2.2.2.2.2.2.2.2.2.1))).trans (hHeld.2.2.2.2.2.2.2.2.2.2.2.2.2.2.2.2.2.2.2.2.2.2.2.2.2.2.2.2.2.2.2.2.2.2.1)
 have HS35_ := (hb.cell (World.block_lt_of_cell? _ _ (hHeld.2.2.2.2.2.2.2.2.2.2.2.2.2.2.2.2.2.2.2.2.2.2.2.2.2.2.2.2.2.2.2.2.2.2.2))).trans (hHeld.2.2.2.2.2.2.2.2.2.2.2.2.2.2.2.2.2.2.2.2.2.2.2.2.2.2.2.2.2.2.2.2.2.2.2)
 refine ⟨_, rfl, ?_⟩
 have n0_ := Aside0.mk (Kd.R_below (rq HO_11.out) hb)
 have n1_ := Aside0.mk (blk_below (g := gb172) (o := .cells #[.int .i64 a0_0, .int .i64 a0_1, .int .i64 a0_2, .int .i64 a0_3, .int .i64 a0_4, .int .i64 a0_5, .int .i64 a0_6, .int .i64 a0_7, .int .i64 a0_8] 39 (0, 0)) (kq BK172.out) hb)
 have n2_ := Aside0.mk (blk_below (g := gb173) (o := .cells #[.int .i64 a1_0, .int .i64 a1_1, .int .i64 a1_2, .int .i64 a1_3, .int .i64 a1_4, .int .i64 a1_5, .int .i64 a1_6, .int .i64 a1_7, .int .i64 a1_8] 39 (0, 0)) (kq BK173.out) hb)
 have n3_ := Aside0.mk (blk_below (g := gb174) (o := .cells #[.int .i64 a2_0, .int .i64 a2_1, .int .i64 a2_2, .int .i64 a2_3, .int .i64 a2_4, .int .i64 a2_5, .int .i64 a2_6, .int .i64 a2_7, .int .i64 a2_8] 39 (0, 0)) (kq BK174.out) hb)
 have n4_ := Aside0.mk (below_step (bq3 HB.out GE172.out GE173.out GE174.out) hb)
 clear HO_11
 clear BK172
 clear BK173
 clear BK174
 clear HB
 have HO_11 := n0_
 have BK172 := n1_
 have BK173 := n2_
 have BK174 := n3_
 have HB := n4_
 clear n0_ n1_ n2_ n3_ n4_
 (try clear hb)
 (try clear hb2)
 (try clear hk)
 (try clear hi)
 refine hK.out _ _ ⟨HS0_, HS1_, HS2_, HS3_, HS4_, HS5_, HS6_, HS7_, HS8_, HS9_, HS10_, HS11_, HS12_, HS13_, HS14_, HS15_, HS16_, HS17_, HS18_, HS19_, HS20_, HS21_, HS22_, HS23_, HS24_, HS25_, HS26_, HS27_, HS28_, HS29_, HS30_, HS31_, HS32_, HS33_, HS34_, HS35_⟩ (fun hHeld => ?_)
 clear hK K
 refine norm_ (a' := ?_) ?_ ?_
 rotate_left
 ·(
 show Act.put _ (some 67) _ = _
 simp only [Act.put, List.setIfInBounds_toArray, List.set_cons_zero, List.set_cons_succ, i64_w, i32_w]
 rfl)
 refine pure_ (i := 20) (N := some 68) (v := ?_) (a' := ?_) #[true, true, true, true, true, true, true, true, true, true, true, true, true, true, true, true, true, true, true, true, true, false, false, false, false, false, false, false, false, false, false, false, false, false] rfl rfl (any_of HT_.out (by kernel_rfl)) (fun _ _ _ h => h) (Or.inl ⟨by rfl, ?_⟩) ?_ ?_
 rotate_left
 ·(
 intro w'
 go_simp
 with_reducible rfl)
 rotate_left
 ·(
 simp only [Act.put, List.setIfInBounds_toArray, List.set_cons_zero, List.set_cons_succ, i64_w, i32_w]
 rfl)
 refine pure_ (i := 21) (N := some 69) (v := ?_) (a' := ?_) #[true, true, true, true, true, true, true, true, true, true, true, true, true, true, true, true, true, true, true, true, true, true, false, false, false, false, false, false, false, false, false, false, false, false] rfl rfl (any_of HT_.out (by kernel_rfl)) (fun _ _ _ h => h) (Or.inl ⟨by rfl, ?_⟩) ?_ ?_
 rotate_left
 ·(
 intro w'
 go_simp
 with_reducible rfl)
 rotate_left
 ·(
 simp only [Act.put, List.setIfInBounds_toArray, List.set_cons_zero, List.set_cons_succ, i64_w, i32_w]
 rfl)
 refine pure_ (i := 22) (N := some 70) (v := ?_) (a' := ?_) #[true, true, true, true, true, true, true, true, true, true, true, true, true, true, true, true, true, true, true, true, true, true, true, false, false, false, false, false, false, false, false, false, false, false] rfl rfl (any_of HT_.out (by kernel_rfl)) (fun _ _ _ h => h) (Or.inl ⟨by rfl, ?_⟩) ?_ ?_
 rotate_left
 ·(
 intro w'
 go_simp
 with_reducible rfl)
 rotate_left
 ·(
 simp only [Act.put, List.setIfInBounds_toArray, List.set_cons_zero, List.set_cons_succ, i64_w, i32_w]
 rfl)
 refine pure_ (i := 23) (N := some 71) (v := undef) (a' := ?_) #[true, true, true, true, true, true, true, true, true, true, true, true, true, true, true, true, true, true, true, true, true, true, true, true, false, false, false, false, false, false, false, false, false, false] rfl rfl (any_of HT_.out (by kernel_rfl)) (fun _ _ _ h => h) (Or.inr ⟨by rfl, rfl⟩) ?_ ?_
 rotate_left
 ·(
 simp only [Act.put, List.setIfInBounds_toArray, List.set_cons_zero, List.set_cons_succ, i64_w, i32_w]
 rfl)
 refine pure_ (i := 24) (N := some 72) (v := undef) (a' := ?_) #[true, true, true, true, true, true, true, true, true, true, true, true, true, true, true, true, true, true, true, true, true, true, true, true, true, false, false, false, false, false, false, false, false, false] rfl rfl (any_of HT_.out (by kernel_rfl)) (fun _ _ _ h => h) (Or.inr ⟨by rfl, rfl⟩) ?_ ?_
 rotate_left
 ·(
 simp only [Act.put, List.setIfInBounds_toArray, List.set_cons_zero, List.set_cons_succ, i64_w, i32_w]
 rfl)
 refine pure_ (i := 25) (N := some 73) (v := undef) (a' := ?_) #[true, true, true, true, true, true, true, true, true, true, true, true, true, true, true, true, true, true, true, true, true, true, true, true, true, true, false, false, false, false, false, false, false, false] rfl rfl (any_of HT_.out (by kernel_rfl)) (fun _ _ _ h => h) (Or.inr ⟨by rfl, rfl⟩) ?_ ?_
 rotate_left
 ·(
 simp only [Act.put, List.setIfInBounds_toArray, List.set_cons_zero, List.set_cons_succ, i64_w, i32_w]
 rfl)
 refine pure_ (i := 26) (N := some 74) (v := undef) (a' := ?_) #[true, true, true, true, true, true, true, true, true, true, true, true, true, true, true, true, true, true, true, true, true, true, true, true, true, true, true, false, false, false, false, false, false, false] rfl rfl (any_of HT_.out (by kernel_rfl)) (fun _ _ _ h => h) (Or.inr ⟨by rfl, rfl⟩) ?_ ?_
 rotate_left
 ·(
 simp only [Act.put, List.setIfInBounds_toArray, List.set_cons_zero, List.set_cons_succ, i64_w, i32_w]
 rfl)
 refine pure_ (i := 27) (N := some 75) (v := undef) (a' := ?_) #[true, true, true, true, true, true, true, true, true, true, true, true, true, true, true, true, true, true, true, true, true, true, true, true, true, true, true, true, false, false, false, false, false, false] rfl rfl (any_of HT_.out (by kernel_rfl)) (fun _ _ _ h => h) (Or.inr ⟨by rfl, rfl⟩) ?_ ?_
 rotate_left
 ·(
 simp only [Act.put, List.setIfInBounds_toArray, List.set_cons_zero, List.set_cons_succ, i64_w, i32_w]
 rfl)
 refine pure_ (i := 28) (N := some 76) (v := undef) (a' := ?_) #[true, true, true, true, true, true, true, true, true, true, true, true, true, true, true, true, true, true, true, true, true, true, true, true, true, true, true, true, true, false, false, false, false, false] rfl rfl (any_of HT_.out (by kernel_rfl)) (fun _ _ _ h => h) (Or.inr ⟨by rfl, rfl⟩) ?_ ?_
 rotate_left
 ·(
 simp only [Act.put, List.setIfInBounds_toArray, List.set_cons_zero, List.set_cons_succ, i64_w, i32_w]
 rfl)
 refine pure_ (i := 29) (N := some 77) (v := undef) (a' := ?_) #[true, true, true, true, true, true, true, true, true, true, true, true, true, true, true, true, true, true, true, true, true, true, true, true, true, true, true, true, true, true, false, false, false, false] rfl rfl (any_of HT_.out (by kernel_rfl)) (fun _ _ _ h => h) (Or.inr ⟨by rfl, rfl⟩) ?_ ?_
 rotate_left
 ·(
 simp only [Act.put, List.setIfInBounds_toArray, List.set_cons_zero, List.set_cons_succ, i64_w, i32_w]
 rfl)
 refine pure_ (i := 30) (N := some 78) (v := undef) (a' := ?_) #[true, true, true, true, true, true, true, true, true, true, true, true, true, true, true, true, true, true, true, true, true, true, true, true, true, true, true, true, true, true, true, false, false, false] rfl rfl (any_of HT_.out (by kernel_rfl)) (fun _ _ _ h => h) (Or.inr ⟨by rfl, rfl⟩) ?_ ?_
 rotate_left
 ·(
 simp only [Act.put, List.setIfInBounds_toArray, List.set_cons_zero, List.set_cons_succ, i64_w, i32_w]
 rfl)
 refine pure_ (i := 31) (N := some 79) (v := undef) (a' := ?_) #[true, true, true, true, true, true, true, true, true, true, true, true, true, true, true, true, true, true, true, true, true, true, true, true, true, true, true, true, true, true, true, true, false, false] rfl rfl (any_of HT_.out (by kernel_rfl)) (fun _ _ _ h => h) (Or.inr ⟨by rfl, rfl⟩) ?_ ?_
 rotate_left
 ·(
 simp only [Act.put, List.setIfInBounds_toArray, List.set_cons_zero, List.set_cons_succ, i64_w, i32_w]
 rfl)
 refine pure_ (i := 32) (N := some 80) (v := undef) (a' := ?_) #[true, true, true, true, true, true, true, true, true, true, true, true, true, true, true, true, true, true, true, true, true, true, true, true, true, true, true, true, true, true, true, true, true, false] rfl rfl (any_of HT_.out (by kernel_rfl)) (fun _ _ _ h => h) (Or.inr ⟨by rfl, rfl⟩) ?_ ?_
 rotate_left
 ·(
 simp only [Act.put, List.setIfInBounds_toArray, List.set_cons_zero, List.set_cons_succ, i64_w, i32_w]
 rfl)
 refine pure_ (i := 33) (N := some 81) (v := ?_) (a' := ?_) #[true, true, true, true, true, true, true, true, true, true, true, true, true, true, true, true, true, true, true, true, true, true, true, true, true, true, true, true, true, true, true, true, true, true] rfl rfl (any_of HT_.out (by kernel_rfl)) (fun _ _ _ h => h) (Or.inl ⟨by rfl, ?_⟩) ?_ ?_
 rotate_left
 ·(
 intro w'
 go_simp
 with_reducible rfl)
 rotate_left
 ·(
 simp only [Act.put, List.setIfInBounds_toArray, List.set_cons_zero, List.set_cons_succ, i64_w, i32_w]
 rfl)
 refine done_ (done_of HT_.out (by kernel_rfl)) ?_
 try go_wp2
 go_roundg k3
 case measure => have := HK1.out; have := HK2.out; have := HK3.out; omega
 case rel => exact ⟨(wrap64 (x14_3 + 1)), (by first | rfl | (simp; done) | (simp [*]; done)), H', ⟨by have := HK1.out; have := HK2.out; have := HK3.out; omega⟩, ⟨rq HO_11.out⟩, ⟨kq BK172.out⟩, ⟨kq BK173.out⟩, ⟨kq BK174.out⟩, ⟨bq3 HB.out GE172.out GE173.out GE174.out⟩⟩))
 ·(
 rw [if_neg c29] at H
 exact absurd H (by simp)))
 ·(
 rw [if_neg c28] at H
 have c28b0 : decide (t199 ≤ 0) = false := decide_eq_false c28
 clear c28
 have H' := Aside0.mk H
 clear H
 try go_wp2
 have n0_ := Aside0.mk (Kd.R_drew HO_11.out)
 have n1_ := Aside0.mk (blk_drew BK172.out)
 have n2_ := Aside0.mk (blk_drew BK173.out)
 have n3_ := Aside0.mk (blk_drew BK174.out)
 have n4_ := Aside0.mk (below_drew1 HB.out)
 clear HO_11
 clear BK172
 clear BK173
 clear BK174
 clear HB
 have HO_11 := n0_
 have BK172 := n1_
 have BK173 := n2_
 have BK174 := n3_
 have HB := n4_
 clear n0_ n1_ n2_ n3_ n4_
 have p197 : 0 ≤ (x12_1 : Int) := of_decide_eq_true (by first | (with_reducible assumption) | assumption)
 have q197 : x12_1 < (y194.length : Int) := of_decide_eq_true (by first | (with_reducible assumption) | assumption)
 obtain ⟨ad197, e197, hx197_0, hx197_1, hx197_2, hx197_3, hx197_4, hx197_5, hx197_6, hx197_7, hx197_8⟩ := at_T39 (Kd.R_reads' HO_11.out).2.2 x12_1 p197 q197
 cases e197
 replace p197 := eq_true p197
 replace q197 := eq_true q197
 have p198 : 0 ≤ (x13_2 : Int) := of_decide_eq_true (by first | (with_reducible assumption) | assumption)
 have q198 : x13_2 < (y194.length : Int) := of_decide_eq_true (by first | (with_reducible assumption) | assumption)
 obtain ⟨ad198, e198, hx198_0, hx198_1, hx198_2, hx198_3, hx198_4, hx198_5, hx198_6, hx198_7, hx198_8⟩ := at_T39 (Kd.R_reads' HO_11.out).2.2 x13_2 p198 q198
 obtain rfl : ad197 = ad198 := (by injection e198)
 replace p198 := eq_true p198
 replace q198 := eq_true q198
 refine start_ (n := 34) (S := fun w' => w'.cell? (ad197.add ((x12_1).toNat * 9)) = some (.int .i64 ((rd_T39 y194 x12_1).f0)) ∧ w'.cell? ⟨(ad197.add ((x12_1).toNat * 9)).block, (ad197.add ((x12_1).toNat * 9)).off + 1, none⟩ = some (.int .i64 ((rd_T39 y194 x12_1).f1)) ∧ w'.cell? ⟨(ad197.add ((x12_1).toNat * 9)).block, (ad197.add ((x12_1).toNat * 9)).off + 2, none⟩ = some (.int .i64 ((rd_T39 y194 x12_1).f2.f0)) ∧ w'.cell? ⟨(ad197.add ((x12_1).toNat * 9)).block, (ad197.add ((x12_1).toNat * 9)).off + 3, none⟩ = some (.int .i64 ((rd_T39 y194 x12_1).f2.f1)) ∧ w'.cell? ⟨(ad197.add ((x12_1).toNat * 9)).block, (ad197.add ((x12_1).toNat * 9)).off + 4, none⟩ = some (.int .i64 ((rd_T39 y194 x12_1).f2.f2)) ∧ w'.cell? ⟨(ad197.add ((x12_1).toNat * 9)).block, (ad197.add ((x12_1).toNat * 9)).off + 5, none⟩ = some (.int .i64 ((rd_T39 y194 x12_1).f2.f3.f0)) ∧ w'.cell? ⟨(ad197.add ((x12_1).toNat * 9)).block, (ad197.add ((x12_1).toNat * 9)).off + 6, none⟩ = some (.int .i64 ((rd_T39 y194 x12_1).f2.f3.f1)) ∧ w'.cell? ⟨(ad197.add ((x12_1).toNat * 9)).block, (ad197.add ((x12_1).toNat * 9)).off + 7, none⟩ = some (.int .i64 ((rd_T39 y194 x12_1).f2.f4)) ∧ w'.cell? ⟨(ad197.add ((x12_1).toNat * 9)).block, (ad197.add ((x12_1).toNat * 9)).off + 8, none⟩ = some (.int .i64 ((rd_T39 y194 x12_1).f2.f5)) ∧ w'.cell? (ad197.add ((x13_2).toNat * 9)) = some (.int .i64 ((rd_T39 y194 x13_2).f0)) ∧ w'.cell? ⟨(ad197.add ((x13_2).toNat * 9)).block, (ad197.add ((x13_2).toNat * 9)).off + 1, none⟩ = some (.int .i64 ((rd_T39 y194 x13_2).f1)) ∧ w'.cell? ⟨(ad197.add ((x13_2).toNat * 9)).block, (ad197.add ((x13_2).toNat * 9)).off + 2, none⟩ = some (.int .i64 ((rd_T39 y194 x13_2).f2.f0)) ∧ w'.cell? ⟨(ad197.add ((x13_2).toNat * 9)).block, (ad197.add ((x13_2).toNat * 9)).off + 3, none⟩ = some (.int .i64 ((rd_T39 y194 x13_2).f2.f1)) ∧ w'.cell? ⟨(ad197.add ((x13_2).toNat * 9)).block, (ad197.add ((x13_2).toNat * 9)).off + 4, none⟩ = some (.int .i64 ((rd_T39 y194 x13_2).f2.f2)) ∧ w'.cell? ⟨(ad197.add ((x13_2).toNat * 9)).block, (ad197.add ((x13_2).toNat * 9)).off + 5, none⟩ = some (.int .i64 ((rd_T39 y194 x13_2).f2.f3.f0)) ∧ w'.cell? ⟨(ad197.add ((x13_2).toNat * 9)).block, (ad197.add ((x13_2).toNat * 9)).off + 6, none⟩ = some (.int .i64 ((rd_T39 y194 x13_2).f2.f3.f1)) ∧ w'.cell? ⟨(ad197.add ((x13_2).toNat * 9)).block, (ad197.add ((x13_2).toNat * 9)).off + 7, none⟩ = some (.int .i64 ((rd_T39 y194 x13_2).f2.f4)) ∧ w'.cell? ⟨(ad197.add ((x13_2).toNat * 9)).block, (ad197.add ((x13_2).toNat * 9)).off + 8, none⟩ = some (.int .i64 ((rd_T39 y194 x13_2).f2.f5))) (ds := []) #[false, false, false, false, false, false, false, false, false, false, false, false, false, false, false, false, false, false, false, false, false, false, false, false, false, false, false, false, false, false, false, false, false, false] (by kernel_rfl) rfl rfl ⟨hx197_0, hx197_1, hx197_2, hx197_3, hx197_4, hx197_5, hx197_6, hx197_7, hx197_8, hx198_0, hx198_1, hx198_2, hx198_3, hx198_4, hx198_5, hx198_6, hx198_7, hx198_8⟩ (fun hHeld => ?_); refine with_tabW rollbacknetlaw27_DeterminantChains.tab13 rollbacknetlaw27_DeterminantChains.bits13 (fun HT_ HW_ => ?_)
 generalize wr.drew = w45 at HO_11 BK172 BK173 BK174 HB hx197_0 hx197_1 hx197_2 hx197_3 hx197_4 hx197_5 hx197_6 hx197_7 hx197_8 hx198_0 hx198_1 hx198_2 hx198_3 hx198_4 hx198_5 hx198_6 hx198_7 hx198_8 hHeld ⊢
 refine pure_ (i := 0) (N := some 48) (v := ?_) (a' := ?_) #[true, false, false, false, false, false, false, false, false, false, false, false, false, false, false, false, false, false, false, false, false, false, false, false, false, false, false, false, false, false, false, false, false, false] rfl rfl (any_of HT_.out (by kernel_rfl)) (fun _ _ _ h => h) (Or.inl ⟨by rfl, ?_⟩) ?_ ?_
 rotate_left
 ·(
 intro w'
 go_simp
 with_reducible rfl)
 rotate_left
 ·(
 simp only [Act.put, List.setIfInBounds_toArray, List.set_cons_zero, List.set_cons_succ, i64_w, i32_w]
 rfl)
 refine pure_ (i := 1) (N := some 49) (v := ?_) (a' := ?_) #[true, true, false, false, false, false, false, false, false, false, false, false, false, false, false, false, false, false, false, false, false, false, false, false, false, false, false, false, false, false, false, false, false, false] rfl rfl (any_of HT_.out (by kernel_rfl)) (fun _ _ _ h => h) (Or.inl ⟨by rfl, ?_⟩) ?_ ?_
 rotate_left
 ·(
 intro w'
 go_simp
 with_reducible rfl)
 rotate_left
 ·(
 simp only [Act.put, List.setIfInBounds_toArray, List.set_cons_zero, List.set_cons_succ, i64_w, i32_w]
 rfl)
 refine pure_ (i := 2) (N := some 50) (v := ?_) (a' := ?_) #[true, true, true, false, false, false, false, false, false, false, false, false, false, false, false, false, false, false, false, false, false, false, false, false, false, false, false, false, false, false, false, false, false, false] rfl rfl (any_of HT_.out (by kernel_rfl)) (fun _ _ _ h => h) (Or.inl ⟨by rfl, ?_⟩) ?_ ?_
 rotate_left
 ·(
 intro w'
 go_simp
 with_reducible rfl)
 rotate_left
 ·(
 simp only [Act.put, List.setIfInBounds_toArray, List.set_cons_zero, List.set_cons_succ, i64_w, i32_w]
 rfl)
 refine pure_ (i := 4) (N := some 52) (v := ?_) (a' := ?_) #[true, true, true, false, true, false, false, false, false, false, false, false, false, false, false, false, false, false, false, false, false, false, false, false, false, false, false, false, false, false, false, false, false, false] rfl rfl (any_of HT_.out (by kernel_rfl)) (fun _ _ _ h => h) (Or.inl ⟨by rfl, ?_⟩) ?_ ?_
 rotate_left
 ·(
 intro w'
 go_simp
 with_reducible rfl)
 rotate_left
 ·(
 simp only [Act.put, List.setIfInBounds_toArray, List.set_cons_zero, List.set_cons_succ, i64_w, i32_w]
 rfl)
 refine pure_ (i := 5) (N := some 53) (v := ?_) (a' := ?_) #[true, true, true, false, true, true, false, false, false, false, false, false, false, false, false, false, false, false, false, false, false, false, false, false, false, false, false, false, false, false, false, false, false, false] rfl rfl (any_of HT_.out (by kernel_rfl)) (fun _ _ _ h => h) (Or.inl ⟨by rfl, ?_⟩) ?_ ?_
 rotate_left
 ·(
 intro w'
 go_simp
 with_reducible rfl)
 rotate_left
 ·(
 simp only [Act.put, List.setIfInBounds_toArray, List.set_cons_zero, List.set_cons_succ, i64_w, i32_w]
 rfl)
 refine pure_ (i := 6) (N := some 54) (v := ?_) (a' := ?_) #[true, true, true, false, true, true, true, false, false, false, false, false, false, false, false, false, false, false, false, false, false, false, false, false, false, false, false, false, false, false, false, false, false, false] rfl rfl (any_of HT_.out (by kernel_rfl)) (fun _ _ _ h => h) (Or.inl ⟨by rfl, ?_⟩) ?_ ?_
 rotate_left
 ·(
 intro w'
 go_simp
 with_reducible rfl)
 rotate_left
 ·(
 simp only [Act.put, List.setIfInBounds_toArray, List.set_cons_zero, List.set_cons_succ, i64_w, i32_w]
 rfl)
 refine take_ (i := 3) (N := some 51) (v := ?_) (a' := ?_) #[true, true, true, true, true, true, true, false, false, false, false, false, false, false, false, false, false, false, false, false, false, false, false, false, false, false, false, false, false, false, false, false, false, false] rfl rfl (take_ofW HT_.out HW_.out (by kernel_rfl)) (fun _ _ _ h => h) (Or.inl ⟨by rfl, ?_⟩) hHeld ?_ ?_
 rotate_left
 ·(
 rintro w' ⟨s0, s1, s2, s3, s4, s5, s6, s7, s8, s9, s10, s11, s12, s13, s14, s15, s16, s17⟩
 go_simp
 with_reducible rfl)
 rotate_left
 ·(
 simp only [Act.put, List.setIfInBounds_toArray, List.set_cons_zero, List.set_cons_succ, i64_w, i32_w]
 rfl)
 refine take_ (i := 7) (N := some 55) (v := ?_) (a' := ?_) #[true, true, true, true, true, true, true, true, false, false, false, false, false, false, false, false, false, false, false, false, false, false, false, false, false, false, false, false, false, false, false, false, false, false] rfl rfl (take_ofW HT_.out HW_.out (by kernel_rfl)) (fun _ _ _ h => h) (Or.inl ⟨by rfl, ?_⟩) hHeld ?_ ?_
 rotate_left
 ·(
 rintro w' ⟨s0, s1, s2, s3, s4, s5, s6, s7, s8, s9, s10, s11, s12, s13, s14, s15, s16, s17⟩
 go_simp
 with_reducible rfl)
 rotate_left
 ·(
 simp only [Act.put, List.setIfInBounds_toArray, List.set_cons_zero, List.set_cons_succ, i64_w, i32_w]
 rfl)
 refine one_ (i := 8) (N := some 56) #[true, true, true, true, true, true, true, true, true, false, false, false, false, false, false, false, false, false, false, false, false, false, false, false, false, false, false, false, false, false, false, false, false, false] rfl rfl (one_of HT_.out (by kernel_rfl)) (by decide) (fun K hK => ?_)
 refine goes_ Try.func21 (by kernel_rfl) rfl #[.agg #[.int .i64 ((rd_T39 y194 x12_1).f0), .int .i64 ((rd_T39 y194 x12_1).f1), .int .i64 ((rd_T39 y194 x12_1).f2.f0), .int .i64 ((rd_T39 y194 x12_1).f2.f1), .int .i64 ((rd_T39 y194 x12_1).f2.f2), .int .i64 ((rd_T39 y194 x12_1).f2.f3.f0), .int .i64 ((rd_T39 y194 x12_1).f2.f3.f1), .int .i64 ((rd_T39 y194 x12_1).f2.f4), .int .i64 ((rd_T39 y194 x12_1).f2.f5)], .agg #[.int .i64 ((rd_T39 y194 x13_2).f0), .int .i64 ((rd_T39 y194 x13_2).f1), .int .i64 ((rd_T39 y194 x13_2).f2.f0), .int .i64 ((rd_T39 y194 x13_2).f2.f1), .int .i64 ((rd_T39 y194 x13_2).f2.f2), .int .i64 ((rd_T39 y194 x13_2).f2.f3.f0), .int .i64 ((rd_T39 y194 x13_2).f2.f3.f1), .int .i64 ((rd_T39 y194 x13_2).f2.f4), .int .i64 ((rd_T39 y194 x13_2).f2.f5)]] (by first | rfl | (refine wanted_on rfl rfl rfl ?_; first | assumption | (simp [*]; done))) rfl rfl (by (try simp only [List.map_toArray, List.map_cons, List.map_nil]); first | done | rfl | (simp only [List.length_drop, List.length_take]; rfl)) ?_
 with_reducible refine (determinant_Compare.calls k3 ((rd_T39 y194 x12_1).f0) ((rd_T39 y194 x12_1).f1) ((rd_T39 y194 x12_1).f2.f0) ((rd_T39 y194 x12_1).f2.f1) ((rd_T39 y194 x12_1).f2.f2) ((rd_T39 y194 x12_1).f2.f3.f0) ((rd_T39 y194 x12_1).f2.f3.f1) ((rd_T39 y194 x12_1).f2.f4) ((rd_T39 y194 x12_1).f2.f5) ((rd_T39 y194 x13_2).f0) ((rd_T39 y194 x13_2).f1) ((rd_T39 y194 x13_2).f2.f0) ((rd_T39 y194 x13_2).f2.f1) ((rd_T39 y194 x13_2).f2.f2) ((rd_T39 y194 x13_2).f2.f3.f0) ((rd_T39 y194 x13_2).f2.f3.f1) ((rd_T39 y194 x13_2).f2.f4) ((rd_T39 y194 x13_2).f2.f5) t199 _ A27.out).mono ?_
 rintro e w46 ⟨rfl, hb⟩
 have HS0_ := (hb.cell (World.block_lt_of_cell? _ _ (hHeld.1))).trans (hHeld.1)
 have HS1_ := (hb.cell (World.block_lt_of_cell? _ _ (hHeld.2.1))).trans (hHeld.2.1)
 have HS2_ := (hb.cell (World.block_lt_of_cell? _ _ (hHeld.2.2.1))).trans (hHeld.2.2.1)
 have HS3_ := (hb.cell (World.block_lt_of_cell? _ _ (hHeld.2.2.2.1))).trans (hHeld.2.2.2.1)
 have HS4_ := (hb.cell (World.block_lt_of_cell? _ _ (hHeld.2.2.2.2.1))).trans (hHeld.2.2.2.2.1)
 have HS5_ := (hb.cell (World.block_lt_of_cell? _ _ (hHeld.2.2.2.2.2.1))).trans (hHeld.2.2.2.2.2.1)
 have HS6_ := (hb.cell (World.block_lt_of_cell? _ _ (hHeld.2.2.2.2.2.2.1))).trans (hHeld.2.2.2.2.2.2.1)
 have HS7_ := (hb.cell (World.block_lt_of_cell? _ _ (hHeld.2.2.2.2.2.2.2.1))).trans (hHeld.2.2.2.2.2.2.2.1)
 have HS8_ := (hb.cell (World.block_lt_of_cell? _ _ (hHeld.2.2.2.2.2.2.2.2.1))).trans (hHeld.2.2.2.2.2.2.2.2.1)
 have HS9_ := (hb.cell (World.block_lt_of_cell? _ _ (hHeld.2.2.2.2.2.2.2.2.2.1))).trans (hHeld.2.2.2.2.2.2.2.2.2.1)
 have HS10_ := (hb.cell (World.block_lt_of_cell? _ _ (hHeld.2.2.2.2.2.2.2.2.2.2.1))).trans (hHeld.2.2.2.2.2.2.2.2.2.2.1)
 have HS11_ := (hb.cell (World.block_lt_of_cell? _ _ (hHeld.2.2.2.2.2.2.2.2.2.2.2.1))).trans (hHeld.2.2.2.2.2.2.2.2.2.2.2.1)
 have HS12_ := (hb.cell (World.block_lt_of_cell? _ _ (hHeld.2.2.2.2.2.2.2.2.2.2.2.2.1))).trans (hHeld.2.2.2.2.2.2.2.2.2.2.2.2.1)
 have HS13_ := (hb.cell (World.block_lt_of_cell? _ _ (hHeld.2.2.2.2.2.2.2.2.2.2.2.2.2.1))).trans (hHeld.2.2.2.2.2.2.2.2.2.2.2.2.2.1)
 have HS14_ := (hb.cell (World.block_lt_of_cell? _ _ (hHeld.2.2.2.2.2.2.2.2.2.2.2.2.2.2.1))).trans (hHeld.2.2.2.2.2.2.2.2.2.2.2.2.2.2.1)
 have HS15_ := (hb.cell (World.block_lt_of_cell? _ _ (hHeld.2.2.2.2.2.2.2.2.2.2.2.2.2.2.2.1))).trans (hHeld.2.2.2.2.2.2.2.2.2.2.2.2.2.2.2.1)
 have HS16_ := (hb.cell (World.block_lt_of_cell? _ _ (hHeld.2.2.2.2.2.2.2.2.2.2.2.2.2.2.2.2.1))).trans (hHeld.2.2.2.2.2.2.2.2.2.2.2.2.2.2.2.2.1)
 have HS17_ := (hb.cell (World.block_lt_of_cell? _ _ (hHeld.2.2.2.2.2.2.2.2.2.2.2.2.2.2.2.2.2))).trans (hHeld.2.2.2.2.2.2.2.2.2.2.2.2.2.2.2.2.2)
 refine ⟨_, rfl, ?_⟩
 have n0_ := Aside0.mk (Kd.R_below (rq HO_11.out) hb)
 have n1_ := Aside0.mk (blk_below (g := gb172) (o := .cells #[.int .i64 a0_0, .int .i64 a0_1, .int .i64 a0_2, .int .i64 a0_3, .int .i64 a0_4, .int .i64 a0_5, .int .i64 a0_6, .int .i64 a0_7, .int .i64 a0_8] 39 (0, 0)) (kq BK172.out) hb)
 have n2_ := Aside0.mk (blk_below (g := gb173) (o := .cells #[.int .i64 a1_0, .int .i64 a1_1, .int .i64 a1_2, .int .i64 a1_3, .int .i64 a1_4, .int .i64 a1_5, .int .i64 a1_6, .int .i64 a1_7, .int .i64 a1_8] 39 (0, 0)) (kq BK173.out) hb)
 have n3_ := Aside0.mk (blk_below (g := gb174) (o := .cells #[.int .i64 a2_0, .int .i64 a2_1, .int .i64 a2_2, .int .i64 a2_3, .int .i64 a2_4, .int .i64 a2_5, .int .i64 a2_6, .int .i64 a2_7, .int .i64 a2_8] 39 (0, 0)) (kq BK174.out) hb)
 have n4_ := Aside0.mk (below_step (bq3 HB.out GE172.out GE173.out GE174.out) hb)
 clear HO_11
 clear BK172
 clear BK173
 clear BK174
 clear HB
 have HO_11 := n0_
 have BK172 := n1_
 have BK173 := n2_
 have BK174 := n3_
 have HB := n4_
 clear n0_ n1_ n2_ n3_ n4_
 (try clear hb)
 (try clear hb2)
 (try clear hk)
 (try clear hi)
 refine hK.out _ _ ⟨HS0_, HS1_, HS2_, HS3_, HS4_, HS5_, HS6_, HS7_, HS8_, HS9_, HS10_, HS11_, HS12_, HS13_, HS14_, HS15_, HS16_, HS17_⟩ (fun hHeld => ?_)
 clear hK K
 refine norm_ (a' := ?_) ?_ ?_
 rotate_left
 ·(
 show Act.put _ (some 56) _ = _
 simp only [Act.put, List.setIfInBounds_toArray, List.set_cons_zero, List.set_cons_succ, i64_w, i32_w]
 rfl)
 refine pure_ (i := 9) (N := some 57) (v := ?_) (a' := ?_) #[true, true, true, true, true, true, true, true, true, true, false, false, false, false, false, false, false, false, false, false, false, false, false, false, false, false, false, false, false, false, false, false, false, false] rfl rfl (any_of HT_.out (by kernel_rfl)) (fun _ _ _ h => h) (Or.inl ⟨by rfl, ?_⟩) ?_ ?_
 rotate_left
 ·(
 intro w'
 go_simp
 with_reducible rfl)
 rotate_left
 ·(
 simp only [Act.put, List.setIfInBounds_toArray, List.set_cons_zero, List.set_cons_succ, i64_w, i32_w]
 rfl)
 refine pure_ (i := 10) (N := some 58) (v := ?_) (a' := ?_) #[true, true, true, true, true, true, true, true, true, true, true, false, false, false, false, false, false, false, false, false, false, false, false, false, false, false, false, false, false, false, false, false, false, false] rfl rfl (any_of HT_.out (by kernel_rfl)) (fun _ _ _ h => h) (Or.inl ⟨by rfl, ?_⟩) ?_ ?_
 rotate_left
 ·(
 intro w'
 go_simp
 with_reducible rfl)
 rotate_left
 ·(
 simp only [Act.put, List.setIfInBounds_toArray, List.set_cons_zero, List.set_cons_succ, i64_w, i32_w]
 rfl)
 refine pure_ (i := 11) (N := some 59) (v := undef) (a' := ?_) #[true, true, true, true, true, true, true, true, true, true, true, true, false, false, false, false, false, false, false, false, false, false, false, false, false, false, false, false, false, false, false, false, false, false] rfl rfl (any_of HT_.out (by kernel_rfl)) (fun _ _ _ h => h) (Or.inr ⟨by rfl, rfl⟩) ?_ ?_
 rotate_left
 ·(
 simp only [Act.put, List.setIfInBounds_toArray, List.set_cons_zero, List.set_cons_succ, i64_w, i32_w]
 rfl)
 refine pure_ (i := 12) (N := some 60) (v := undef) (a' := ?_) #[true, true, true, true, true, true, true, true, true, true, true, true, true, false, false, false, false, false, false, false, false, false, false, false, false, false, false, false, false, false, false, false, false, false] rfl rfl (any_of HT_.out (by kernel_rfl)) (fun _ _ _ h => h) (Or.inr ⟨by rfl, rfl⟩) ?_ ?_
 rotate_left
 ·(
 simp only [Act.put, List.setIfInBounds_toArray, List.set_cons_zero, List.set_cons_succ, i64_w, i32_w]
 rfl)
 refine pure_ (i := 13) (N := some 61) (v := undef) (a' := ?_) #[true, true, true, true, true, true, true, true, true, true, true, true, true, true, false, false, false, false, false, false, false, false, false, false, false, false, false, false, false, false, false, false, false, false] rfl rfl (any_of HT_.out (by kernel_rfl)) (fun _ _ _ h => h) (Or.inr ⟨by rfl, rfl⟩) ?_ ?_
 rotate_left
 ·(
 simp only [Act.put, List.setIfInBounds_toArray, List.set_cons_zero, List.set_cons_succ, i64_w, i32_w]
 rfl)
 refine pure_ (i := 14) (N := some 62) (v := undef) (a' := ?_) #[true, true, true, true, true, true, true, true, true, true, true, true, true, true, true, false, false, false, false, false, false, false, false, false, false, false, false, false, false, false, false, false, false, false] rfl rfl (any_of HT_.out (by kernel_rfl)) (fun _ _ _ h => h) (Or.inr ⟨by rfl, rfl⟩) ?_ ?_
 rotate_left
 ·(
 simp only [Act.put, List.setIfInBounds_toArray, List.set_cons_zero, List.set_cons_succ, i64_w, i32_w]
 rfl)
 refine pure_ (i := 15) (N := some 63) (v := undef) (a' := ?_) #[true, true, true, true, true, true, true, true, true, true, true, true, true, true, true, true, false, false, false, false, false, false, false, false, false, false, false, false, false, false, false, false, false, false] rfl rfl (any_of HT_.out (by kernel_rfl)) (fun _ _ _ h => h) (Or.inr ⟨by rfl, rfl⟩) ?_ ?_
 rotate_left
 ·(
 simp only [Act.put, List.setIfInBounds_toArray, List.set_cons_zero, List.set_cons_succ, i64_w, i32_w]
 rfl)
 refine pure_ (i := 16) (N := some 64) (v := undef) (a' := ?_) #[true, true, true, true, true, true, true, true, true, true, true, true, true, true, true, true, true, false, false, false, false, false, false, false, false, false, false, false, false, false, false, false, false, false] rfl rfl (any_of HT_.out (by kernel_rfl)) (fun _ _ _ h => h) (Or.inr ⟨by rfl, rfl⟩) ?_ ?_
 rotate_left
 ·(
 simp only [Act.put, List.setIfInBounds_toArray, List.set_cons_zero, List.set_cons_succ, i64_w, i32_w]
 rfl)
 refine pure_ (i := 17) (N := some 65) (v := undef) (a' := ?_) #[true, true, true, true, true, true, true, true, true, true, true, true, true, true, true, true, true, true, false, false, false, false, false, false, false, false, false, false, false, false, false, false, false, false] rfl rfl (any_of HT_.out (by kernel_rfl)) (fun _ _ _ h => h) (Or.inr ⟨by rfl, rfl⟩) ?_ ?_
 rotate_left
 ·(
 simp only [Act.put, List.setIfInBounds_toArray, List.set_cons_zero, List.set_cons_succ, i64_w, i32_w]
 rfl)
 refine pure_ (i := 18) (N := some 66) (v := undef) (a' := ?_) #[true, true, true, true, true, true, true, true, true, true, true, true, true, true, true, true, true, true, true, false, false, false, false, false, false, false, false, false, false, false, false, false, false, false] rfl rfl (any_of HT_.out (by kernel_rfl)) (fun _ _ _ h => h) (Or.inr ⟨by rfl, rfl⟩) ?_ ?_
 rotate_left
 ·(
 simp only [Act.put, List.setIfInBounds_toArray, List.set_cons_zero, List.set_cons_succ, i64_w, i32_w]
 rfl)
 refine pure_ (i := 19) (N := some 67) (v := undef) (a' := ?_) #[true, true, true, true, true, true, true, true, true, true, true, true, true, true, true, true, true, true, true, true, false, false, false, false, false, false, false, false, false, false, false, false, false, false] rfl rfl (any_of HT_.out (by kernel_rfl)) (fun _ _ _ h => h) (Or.inr ⟨by rfl, rfl⟩) ?_ ?_
 rotate_left
 ·(
 simp only [Act.put, List.setIfInBounds_toArray, List.set_cons_zero, List.set_cons_succ, i64_w, i32_w]
 rfl)
 refine pure_ (i := 20) (N := some 68) (v := undef) (a' := ?_) #[true, true, true, true, true, true, true, true, true, true, true, true, true, true, true, true, true, true, true, true, true, false, false, false, false, false, false, false, false, false, false, false, false, false] rfl rfl (any_of HT_.out (by kernel_rfl)) (fun _ _ _ h => h) (Or.inr ⟨by rfl, rfl⟩) ?_ ?_
 rotate_left
 ·(
 simp only [Act.put, List.setIfInBounds_toArray, List.set_cons_zero, List.set_cons_succ, i64_w, i32_w]
 rfl)
 refine pure_ (i := 21) (N := some 69) (v := ?_) (a' := ?_) #[true, true, true, true, true, true, true, true, true, true, true, true, true, true, true, true, true, true, true, true, true, true, false, false, false, false, false, false, false, false, false, false, false, false] rfl rfl (any_of HT_.out (by kernel_rfl)) (fun _ _ _ h => h) (Or.inl ⟨by rfl, ?_⟩) ?_ ?_
 rotate_left
 ·(
 intro w'
 go_simp
 with_reducible rfl)
 rotate_left
 ·(
 simp only [Act.put, List.setIfInBounds_toArray, List.set_cons_zero, List.set_cons_succ, i64_w, i32_w]
 rfl)
 refine pure_ (i := 22) (N := some 70) (v := ?_) (a' := ?_) #[true, true, true, true, true, true, true, true, true, true, true, true, true, true, true, true, true, true, true, true, true, true, true, false, false, false, false, false, false, false, false, false, false, false] rfl rfl (any_of HT_.out (by kernel_rfl)) (fun _ _ _ h => h) (Or.inl ⟨by rfl, ?_⟩) ?_ ?_
 rotate_left
 ·(
 intro w'
 go_simp
 with_reducible rfl)
 rotate_left
 ·(
 simp only [Act.put, List.setIfInBounds_toArray, List.set_cons_zero, List.set_cons_succ, i64_w, i32_w]
 rfl)
 refine pure_ (i := 23) (N := some 71) (v := undef) (a' := ?_) #[true, true, true, true, true, true, true, true, true, true, true, true, true, true, true, true, true, true, true, true, true, true, true, true, false, false, false, false, false, false, false, false, false, false] rfl rfl (any_of HT_.out (by kernel_rfl)) (fun _ _ _ h => h) (Or.inr ⟨by rfl, rfl⟩) ?_ ?_
 rotate_left
 ·(
 simp only [Act.put, List.setIfInBounds_toArray, List.set_cons_zero, List.set_cons_succ, i64_w, i32_w]
 rfl)
 refine pure_ (i := 24) (N := some 72) (v := undef) (a' := ?_) #[true, true, true, true, true, true, true, true, true, true, true, true, true, true, true, true, true, true, true, true, true, true, true, true, true, false, false, false, false, false, false, false, false, false] rfl rfl (any_of HT_.out (by kernel_rfl)) (fun _ _ _ h => h) (Or.inr ⟨by rfl, rfl⟩) ?_ ?_
 rotate_left
 ·(
 simp only [Act.put, List.setIfInBounds_toArray, List.set_cons_zero, List.set_cons_succ, i64_w, i32_w]
 rfl)
 refine pure_ (i := 25) (N := some 73) (v := undef) (a' := ?_) #[true, true, true, true, true, true, true, true, true, true, true, true, true, true, true, true, true, true, true, true, true, true, true, true, true, true, false, false, false, false, false, false, false, false] rfl rfl (any_of HT_.out (by kernel_rfl)) (fun _ _ _ h => h) (Or.inr ⟨by rfl, rfl⟩) ?_ ?_
 rotate_left
 ·(
 simp only [Act.put, List.setIfInBounds_toArray, List.set_cons_zero, List.set_cons_succ, i64_w, i32_w]
 rfl)
 refine pure_ (i := 26) (N := some 74) (v := undef) (a' := ?_) #[true, true, true, true, true, true, true, true, true, true, true, true, true, true, true, true, true, true, true, true, true, true, true, true, true, true, true, false, false, false, false, false, false, false] rfl rfl (any_of HT_.out (by kernel_rfl)) (fun _ _ _ h => h) (Or.inr ⟨by rfl, rfl⟩) ?_ ?_
 rotate_left
 ·(
 simp only [Act.put, List.setIfInBounds_toArray, List.set_cons_zero, List.set_cons_succ, i64_w, i32_w]
 rfl)
 refine pure_ (i := 27) (N := some 75) (v := undef) (a' := ?_) #[true, true, true, true, true, true, true, true, true, true, true, true, true, true, true, true, true, true, true, true, true, true, true, true, true, true, true, true, false, false, false, false, false, false] rfl rfl (any_of HT_.out (by kernel_rfl)) (fun _ _ _ h => h) (Or.inr ⟨by rfl, rfl⟩) ?_ ?_
 rotate_left
 ·(
 simp only [Act.put, List.setIfInBounds_toArray, List.set_cons_zero, List.set_cons_succ, i64_w, i32_w]
 rfl)
 refine pure_ (i := 28) (N := some 76) (v := undef) (a' := ?_) #[true, true, true, true, true, true, true, true, true, true, true, true, true, true, true, true, true, true, true, true, true, true, true, true, true, true, true, true, true, false, false, false, false, false] rfl rfl (any_of HT_.out (by kernel_rfl)) (fun _ _ _ h => h) (Or.inr ⟨by rfl, rfl⟩) ?_ ?_
 rotate_left
 ·(
 simp only [Act.put, List.setIfInBounds_toArray, List.set_cons_zero, List.set_cons_succ, i64_w, i32_w]
 rfl)
 refine pure_ (i := 29) (N := some 77) (v := undef) (a' := ?_) #[true, true, true, true, true, true, true, true, true, true, true, true, true, true, true, true, true, true, true, true, true, true, true, true, true, true, true, true, true, true, false, false, false, false] rfl rfl (any_of HT_.out (by kernel_rfl)) (fun _ _ _ h => h) (Or.inr ⟨by rfl, rfl⟩) ?_ ?_
 rotate_left
 ·(
 simp only [Act.put, List.setIfInBounds_toArray, List.set_cons_zero, List.set_cons_succ, i64_w, i32_w]
 rfl)
 refine pure_ (i := 30) (N := some 78) (v := undef) (a' := ?_) #[true, true, true, true, true, true, true, true, true, true, true, true, true, true, true, true, true, true, true, true, true, true, true, true, true, true, true, true, true, true, true, false, false, false] rfl rfl (any_of HT_.out (by kernel_rfl)) (fun _ _ _ h => h) (Or.inr ⟨by rfl, rfl⟩) ?_ ?_
 rotate_left
 ·(
 simp only [Act.put, List.setIfInBounds_toArray, List.set_cons_zero, List.set_cons_succ, i64_w, i32_w]
 rfl)
 refine pure_ (i := 31) (N := some 79) (v := undef) (a' := ?_) #[true, true, true, true, true, true, true, true, true, true, true, true, true, true, true, true, true, true, true, true, true, true, true, true, true, true, true, true, true, true, true, true, false, false] rfl rfl (any_of HT_.out (by kernel_rfl)) (fun _ _ _ h => h) (Or.inr ⟨by rfl, rfl⟩) ?_ ?_
 rotate_left
 ·(
 simp only [Act.put, List.setIfInBounds_toArray, List.set_cons_zero, List.set_cons_succ, i64_w, i32_w]
 rfl)
 refine pure_ (i := 32) (N := some 80) (v := undef) (a' := ?_) #[true, true, true, true, true, true, true, true, true, true, true, true, true, true, true, true, true, true, true, true, true, true, true, true, true, true, true, true, true, true, true, true, true, false] rfl rfl (any_of HT_.out (by kernel_rfl)) (fun _ _ _ h => h) (Or.inr ⟨by rfl, rfl⟩) ?_ ?_
 rotate_left
 ·(
 simp only [Act.put, List.setIfInBounds_toArray, List.set_cons_zero, List.set_cons_succ, i64_w, i32_w]
 rfl)
 refine pure_ (i := 33) (N := some 81) (v := ?_) (a' := ?_) #[true, true, true, true, true, true, true, true, true, true, true, true, true, true, true, true, true, true, true, true, true, true, true, true, true, true, true, true, true, true, true, true, true, true] rfl rfl (any_of HT_.out (by kernel_rfl)) (fun _ _ _ h => h) (Or.inl ⟨by rfl, ?_⟩) ?_ ?_
 rotate_left
 ·(
 intro w'
 go_simp
 with_reducible rfl)
 rotate_left
 ·(
 simp only [Act.put, List.setIfInBounds_toArray, List.set_cons_zero, List.set_cons_succ, i64_w, i32_w]
 rfl)
 refine done_ (done_of HT_.out (by kernel_rfl)) ?_
 try go_wp2
 go_roundg k3
 case measure => have := HK1.out; have := HK2.out; have := HK3.out; omega
 case rel => exact ⟨(wrap64 (x14_3 + 1)), (by first | rfl | (simp; done) | (simp [*]; done)), H', ⟨by have := HK1.out; have := HK2.out; have := HK3.out; omega⟩, ⟨rq HO_11.out⟩, ⟨kq BK172.out⟩, ⟨kq BK173.out⟩, ⟨kq BK174.out⟩, ⟨bq3 HB.out GE172.out GE173.out GE174.out⟩⟩))
 ·(
 rw [if_neg c26] at H
 exact absurd H (by simp)))
 ·(
 rw [if_neg c25] at H
 exact absurd H (by simp)))
 ·(
 rw [if_neg c24] at H
 exact absurd H (by simp)))
 ·(
 rw [if_neg c23] at H
 exact absurd H (by simp)))
 ·(
 rw [if_neg c22] at H
 have c22b0 : decide (x14_3 < (y194.length : Int)) = false := decide_eq_false c22
 clear c22
 have H' := Aside0.mk H
 clear H
 go_wp2
 go_roundg k3
 case measure => have := HK1.out; have := HK2.out; have := HK3.out; omega
 case rel => exact ⟨(wrap64 (x13_2 + 1)), (by first | rfl | (simp; done) | (simp [*]; done)), H', ⟨by have := HK1.out; have := HK2.out; have := HK3.out; omega⟩, ⟨rq HO_11.out⟩, ⟨kq BK172.out⟩, ⟨kq BK173.out⟩, ⟨kq BK174.out⟩, ⟨bq3 HB.out GE172.out GE173.out GE174.out⟩⟩))))
 ·(
 rw [if_neg c21] at H
 have c21b0 : decide (x13_2 < (y194.length : Int)) = false := decide_eq_false c21
 clear c21
 have H' := Aside0.mk H
 clear H
 go_wp2
 go_roundg k2
 case measure => have := HK1.out; have := HK2.out; omega
 case rel => exact ⟨(wrap64 (x12_1 + 1)), (by first | rfl | (simp; done) | (simp [*]; done)), H', ⟨by have := HK1.out; have := HK2.out; omega⟩, ⟨rq HO_11.out⟩, ⟨kq BK172.out⟩, ⟨kq BK173.out⟩, ⟨kq BK174.out⟩, ⟨bq3 HB.out GE172.out GE173.out GE174.out⟩⟩))))
 ·(
 rw [if_neg c19] at H
 have c19b0 : decide (x12_1 < (y194.length : Int)) = false := decide_eq_false c19
 clear c19
 obtain rfl := Option.some.inj H
 obtain ⟨Ao47, co47, eo47⟩ := Kd.R_slice HO_11.out
 subst eo47
 go_wp2
 go_ret
 exact ⟨by first | rfl | (simp [errW_none, errW_some] <;> rfl) | (simp [*, errW_none, errW_some] <;> rfl), bq3 HB.out GE172.out GE173.out GE174.out⟩))))
 ·(
 replace c7 := Bool.eq_false_iff.mpr c7
 subst c7
 have H1 : (some false) = some r := by rw [if_neg (show ¬ (false = true) by decide)] at H; exact H
 clear H
 have H := H1
 clear H1
 obtain rfl := Option.some.inj H
 go_enter Try.func5, Try.ntmps5
 go_wp2_with (first | ((with_reducible refine gate_dst (N := 5) rfl ?_); refine box_event ?hg (N := 5) ?hd (cs := #[.int .i64 a0_0, .int .i64 a0_1, .int .i64 a0_2, .int .i64 a0_3, .int .i64 a0_4, .int .i64 a0_5, .int .i64 a0_6, .int .i64 a0_7, .int .i64 a0_8]) (t := 39) ?hr ?_; (case hd => rfl); (case hg => rfl); (case hr => first | (go_simp; done) | (go_simp; rfl)); intro gb172 hg w48 hbox hb; have n0_ := Aside0.mk (below_step (bq HB.out) hb); have n1_ := Aside0.mk (hbox); have n2_ := Aside0.mk ((by rw [hg]; exact (below_size (bq HB.out)) : w.heap.size ≤ gb172)); have n3_ := Aside0.mk ((by rw [hg]; exact (below_size (bq HB.out)) : w.heap.size ≤ gb172)); clear HB; have HB := n0_; have BK172 := n1_; have GW172 := n2_; have GE172 := n3_; clear n0_ n1_ n2_ n3_; clear hb hbox hg) | ((with_reducible refine gate_dst (N := 6) rfl ?_); refine box_event ?hg (N := 6) ?hd (cs := #[.int .i64 a1_0, .int .i64 a1_1, .int .i64 a1_2, .int .i64 a1_3, .int .i64 a1_4, .int .i64 a1_5, .int .i64 a1_6, .int .i64 a1_7, .int .i64 a1_8]) (t := 39) ?hr ?_; (case hd => rfl); (case hg => rfl); (case hr => first | (go_simp; done) | (go_simp; rfl)); intro gb173 hg w49 hbox hb; have n0_ := Aside0.mk (blk_below (g := gb172) (o := .cells #[.int .i64 a0_0, .int .i64 a0_1, .int .i64 a0_2, .int .i64 a0_3, .int .i64 a0_4, .int .i64 a0_5, .int .i64 a0_6, .int .i64 a0_7, .int .i64 a0_8] 39 (0, 0)) (kq BK172.out) hb); have n1_ := Aside0.mk (below_step (bq1 HB.out GE172.out) hb); have n2_ := Aside0.mk (hbox); have n3_ := Aside0.mk ((by rw [hg]; exact (below_size (bq1 HB.out GE172.out)) : w.heap.size ≤ gb173)); have n4_ := Aside0.mk ((by rw [hg]; exact (below_size (bq1 HB.out GE172.out)) : w.heap.size ≤ gb173)); have n5_ := Aside0.mk ((by rw [hg]; exact Nat.ne_of_lt (blk_lt (g := gb172) (o := .cells #[.int .i64 a0_0, .int .i64 a0_1, .int .i64 a0_2, .int .i64 a0_3, .int .i64 a0_4, .int .i64 a0_5, .int .i64 a0_6, .int .i64 a0_7, .int .i64 a0_8] 39 (0, 0)) (kq BK172.out)) : gb172 ≠ gb173)); have n6_ := Aside0.mk ((by rw [hg]; exact Nat.ne_of_gt (blk_lt (g := gb172) (o := .cells #[.int .i64 a0_0, .int .i64 a0_1, .int .i64 a0_2, .int .i64 a0_3, .int .i64 a0_4, .int .i64 a0_5, .int .i64 a0_6, .int .i64 a0_7, .int .i64 a0_8] 39 (0, 0)) (kq BK172.out)) : gb173 ≠ gb172)); clear BK172; clear HB; have BK172 := n0_; have HB := n1_; have BK173 := n2_; have GW173 := n3_; have GE173 := n4_; have NB172_173 := n5_; have NB173_172 := n6_; clear n0_ n1_ n2_ n3_ n4_ n5_ n6_; clear hb hbox hg) | ((with_reducible refine gate_dst (N := 7) rfl ?_); refine box_event ?hg (N := 7) ?hd (cs := #[.int .i64 a2_0, .int .i64 a2_1, .int .i64 a2_2, .int .i64 a2_3, .int .i64 a2_4, .int .i64 a2_5, .int .i64 a2_6, .int .i64 a2_7, .int .i64 a2_8]) (t := 39) ?hr ?_; (case hd => rfl); (case hg => rfl); (case hr => first | (go_simp; done) | (go_simp; rfl)); intro gb174 hg w50 hbox hb; have n0_ := Aside0.mk (blk_below (g := gb172) (o := .cells #[.int .i64 a0_0, .int .i64 a0_1, .int .i64 a0_2, .int .i64 a0_3, .int .i64 a0_4, .int .i64 a0_5, .int .i64 a0_6, .int .i64 a0_7, .int .i64 a0_8] 39 (0, 0)) (kq BK172.out) hb); have n1_ := Aside0.mk (blk_below (g := gb173) (o := .cells #[.int .i64 a1_0, .int .i64 a1_1, .int .i64 a1_2, .int .i64 a1_3, .int .i64 a1_4, .int .i64 a1_5, .int .i64 a1_6, .int .i64 a1_7, .int .i64 a1_8] 39 (0, 0)) (kq BK173.out) hb); have n2_ := Aside0.mk (below_step (bq2 HB.out GE172.out GE173.out) hb); have n3_ := Aside0.mk (hbox); have n4_ := Aside0.mk ((by rw [hg]; exact (below_size (bq2 HB.out GE172.out GE173.out)) : w.heap.size ≤ gb174)); have n5_ := Aside0.mk ((by rw [hg]; exact (below_size (bq2 HB.out GE172.out GE173.out)) : w.heap.size ≤ gb174)); have n6_ := Aside0.mk ((by rw [hg]; exact Nat.ne_of_lt (blk_lt (g := gb172) (o := .cells #[.int .i64 a0_0, .int .i64 a0_1, .int .i64 a0_2, .int .i64 a0_3, .int .i64 a0_4, .int .i64 a0_5, .int .i64 a0_6, .int .i64 a0_7, .int .i64 a0_8] 39 (0, 0)) (kq BK172.out)) : gb172 ≠ gb174)); have n7_ := Aside0.mk ((by rw [hg]; exact Nat.ne_of_gt (blk_lt (g := gb172) (o := .cells #[.int .i64 a0_0, .int .i64 a0_1, .int .i64 a0_2, .int .i64 a0_3, .int .i64 a0_4, .int .i64 a0_5, .int .i64 a0_6, .int .i64 a0_7, .int .i64 a0_8] 39 (0, 0)) (kq BK172.out)) : gb174 ≠ gb172)); have n8_ := Aside0.mk ((by rw [hg]; exact Nat.ne_of_lt (blk_lt (g := gb173) (o := .cells #[.int .i64 a1_0, .int .i64 a1_1, .int .i64 a1_2, .int .i64 a1_3, .int .i64 a1_4, .int .i64 a1_5, .int .i64 a1_6, .int .i64 a1_7, .int .i64 a1_8] 39 (0, 0)) (kq BK173.out)) : gb173 ≠ gb174)); have n9_ := Aside0.mk ((by rw [hg]; exact Nat.ne_of_gt (blk_lt (g := gb173) (o := .cells #[.int .i64 a1_0, .int .i64 a1_1, .int .i64 a1_2, .int .i64 a1_3, .int .i64 a1_4, .int .i64 a1_5, .int .i64 a1_6, .int .i64 a1_7, .int .i64 a1_8] 39 (0, 0)) (kq BK173.out)) : gb174 ≠ gb173)); clear BK172; clear BK173; clear HB; have BK172 := n0_; have BK173 := n1_; have HB := n2_; have BK174 := n3_; have GW174 := n4_; have GE174 := n5_; have NB172_174 := n6_; have NB174_172 := n7_; have NB173_174 := n8_; have NB174_173 := n9_; clear n0_ n1_ n2_ n3_ n4_ n5_ n6_ n7_ n8_ n9_; clear hb hbox hg) | ((with_reducible refine gate_callee (f := 12) rfl ?_); refine goesL_ (some 15) rfl rfl Try.func12 (by kernel_rfl) rfl #[] rfl (by (try simp only [List.map_toArray, List.map_cons, List.map_nil]); first | done | rfl | (simp only [List.length_drop, List.length_take]; rfl)) ?_; (with_reducible refine (rollbacknetlaw27_awake.calls k  false _ A6.out).mono ?_); rintro e w51 ⟨rfl, hb⟩; refine ⟨_, rfl, ?_⟩; have n0_ := Aside0.mk (blk_below (g := gb172) (o := .cells #[.int .i64 a0_0, .int .i64 a0_1, .int .i64 a0_2, .int .i64 a0_3, .int .i64 a0_4, .int .i64 a0_5, .int .i64 a0_6, .int .i64 a0_7, .int .i64 a0_8] 39 (0, 0)) (kq BK172.out) hb); have n1_ := Aside0.mk (blk_below (g := gb173) (o := .cells #[.int .i64 a1_0, .int .i64 a1_1, .int .i64 a1_2, .int .i64 a1_3, .int .i64 a1_4, .int .i64 a1_5, .int .i64 a1_6, .int .i64 a1_7, .int .i64 a1_8] 39 (0, 0)) (kq BK173.out) hb); have n2_ := Aside0.mk (blk_below (g := gb174) (o := .cells #[.int .i64 a2_0, .int .i64 a2_1, .int .i64 a2_2, .int .i64 a2_3, .int .i64 a2_4, .int .i64 a2_5, .int .i64 a2_6, .int .i64 a2_7, .int .i64 a2_8] 39 (0, 0)) (kq BK174.out) hb); have n3_ := Aside0.mk (below_step (bq3 HB.out GE172.out GE173.out GE174.out) hb); clear BK172; clear BK173; clear BK174; clear HB; have BK172 := n0_; have BK173 := n1_; have BK174 := n2_; have HB := n3_; clear n0_ n1_ n2_ n3_; (try clear hb); (try clear hb2); (try clear hk); (try clear hi)))
 go_ret
 exact ⟨by first | rfl | (simp [errW_none, errW_some] <;> rfl) | (simp [*, errW_none, errW_some] <;> rfl), bq3 HB.out GE172.out GE173.out GE174.out⟩)
/-- THE ONE PURE STATEMENT of rollbacknetlaw27_DeterminantChains. -/
def rollbacknetlaw27_DeterminantChains.Pure : Prop := ∀ (p0 : S39) (p1 : S39) (p2 : S39) (p3 : Int) (p4 : Int), ok39 p0 → ok39 p1 → ok39 p2 → (okInt .i64) p3 → (okInt .i64) p4 → ∃ k, rollbacknetlaw27_DeterminantChains.f k p0.f0 p0.f1 p0.f2.f0 p0.f2.f1 p0.f2.f2 p0.f2.f3.f0 p0.f2.f3.f1 p0.f2.f4 p0.f2.f5 p1.f0 p1.f1 p1.f2.f0 p1.f2.f1 p1.f2.f2 p1.f2.f3.f0 p1.f2.f3.f1 p1.f2.f4 p1.f2.f5 p2.f0 p2.f1 p2.f2.f0 p2.f2.f1 p2.f2.f2 p2.f2.f3.f0 p2.f2.f3.f1 p2.f2.f4 p2.f2.f5 p3 p4 = some true

end Go.Proofs.Ytjlpggpkbcgekaa.PG27
