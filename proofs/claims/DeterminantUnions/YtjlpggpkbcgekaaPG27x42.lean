-- Written by a program of this session (hprint.py) out of the translation and of hand-proved parts. Lean checks it.
import Derived.Test.YtjlpggpkbcgekaaPG27x0
import Derived.Test.YtjlpggpkbcgekaaPG27x2
import Derived.Test.YtjlpggpkbcgekaaPG27x6
import Derived.Test.YtjlpggpkbcgekaaPG27x25
import Derived.Test.YtjlpggpkbcgekaaPG27x10
import Derived.Test.YtjlpggpkbcgekaaPG27x14
import Derived.Test.YtjlpggpkbcgekaaPG27x17
import Derived.Test.YtjlpggpkbcgekaaPG27x21
import Derived.Test.YtjlpggpkbcgekaaPG27x26
import Derived.Test.YtjlpggpkbcgekaaPG27x27
import Derived.Test.YtjlpggpkbcgekaaHSr
namespace Go.Proofs.Ytjlpggpkbcgekaa.PG27
open Go.RowKit Go.Proofs.YtjlpggpkbcgekaaW.PrintWords Go.Proofs.YtjlpggpkbcgekaaW.PrintLast Go.Proofs.YtjlpggpkbcgekaaW.PrintMore
attribute [local go_sem] max2_int min2_int max_two min_two max_three min_three max_four min_four   -- for this text's walks alone
set_option linter.unusedVariables false
set_option linter.unusedSimpArgs false

/-! ### rollbacknetlaw27_DeterminantUnions: function 9 -/
mutual
def rollbacknetlaw27_DeterminantUnions.l0 : Nat → List (S39) → List (S39) → List (S39) → List (S39) → List (S39) → List (S39) → Int → Int → Int → Int → Int → Int → Int → Int → Int → Int → Option (Bool)
 | 0, _, _, _, _, _, _, _, _, _, _, _, _, _, _, _, _ => none
 | k + 1, x6, x7, x8, x9, x10, x11, x12, x274000, x274001, x274002, x274003, x274004, x274005, x274006, x274007, x274008 => if x12 < (x11.length : Int) then (if 0 ≤ x12 then ((determinant_Has.f k x9 ((rd_T39 x11 x12).f0) ((rd_T39 x11 x12).f1) ((rd_T39 x11 x12).f2.f0) ((rd_T39 x11 x12).f2.f1) ((rd_T39 x11 x12).f2.f2) ((rd_T39 x11 x12).f2.f3.f0) ((rd_T39 x11 x12).f2.f3.f1) ((rd_T39 x11 x12).f2.f4) ((rd_T39 x11 x12).f2.f5)).bind fun t312 => ((determinant_Has.f k x6 ((rd_T39 x11 x12).f0) ((rd_T39 x11 x12).f1) ((rd_T39 x11 x12).f2.f0) ((rd_T39 x11 x12).f2.f1) ((rd_T39 x11 x12).f2.f2) ((rd_T39 x11 x12).f2.f3.f0) ((rd_T39 x11 x12).f2.f3.f1) ((rd_T39 x11 x12).f2.f4) ((rd_T39 x11 x12).f2.f5)).bind fun t314 => (if t314 = true then (if (t312 != true) = true then (some false) else (rollbacknetlaw27_DeterminantUnions.l0 k x6 x7 x8 x9 x10 x11 (wrap64 (x12 + 1)) x274000 x274001 x274002 x274003 x274004 x274005 x274006 x274007 x274008)) else ((determinant_Has.f k x7 ((rd_T39 x11 x12).f0) ((rd_T39 x11 x12).f1) ((rd_T39 x11 x12).f2.f0) ((rd_T39 x11 x12).f2.f1) ((rd_T39 x11 x12).f2.f2) ((rd_T39 x11 x12).f2.f3.f0) ((rd_T39 x11 x12).f2.f3.f1) ((rd_T39 x11 x12).f2.f4) ((rd_T39 x11 x12).f2.f5)).bind fun t316 => (if (t312 != t316) = true then (some false) else (rollbacknetlaw27_DeterminantUnions.l0 k x6 x7 x8 x9 x10 x11 (wrap64 (x12 + 1)) x274000 x274001 x274002 x274003 x274004 x274005 x274006 x274007 x274008)))))) else (none)) else (rollbacknetlaw27_DeterminantUnions.l1 k x6 x7 x8 x9 x10 0 x274000 x274001 x274002 x274003 x274004 x274005 x274006 x274007 x274008)
def rollbacknetlaw27_DeterminantUnions.l1 : Nat → List (S39) → List (S39) → List (S39) → List (S39) → List (S39) → Int → Int → Int → Int → Int → Int → Int → Int → Int → Int → Option (Bool)
 | 0, _, _, _, _, _, _, _, _, _, _, _, _, _, _, _ => none
 | k + 1, x6, x7, x8, x9, x10, x13, x274000, x274001, x274002, x274003, x274004, x274005, x274006, x274007, x274008 => if (wrap64 (x13 + 1)) < (x9.length : Int) then (if 0 ≤ x13 then (if x13 < (x9.length : Int) then (if 0 ≤ (wrap64 (x13 + 1)) then ((determinant_Compare.f k ((rd_T39 x9 x13).f0) ((rd_T39 x9 x13).f1) ((rd_T39 x9 x13).f2.f0) ((rd_T39 x9 x13).f2.f1) ((rd_T39 x9 x13).f2.f2) ((rd_T39 x9 x13).f2.f3.f0) ((rd_T39 x9 x13).f2.f3.f1) ((rd_T39 x9 x13).f2.f4) ((rd_T39 x9 x13).f2.f5) ((rd_T39 x9 (wrap64 (x13 + 1))).f0) ((rd_T39 x9 (wrap64 (x13 + 1))).f1) ((rd_T39 x9 (wrap64 (x13 + 1))).f2.f0) ((rd_T39 x9 (wrap64 (x13 + 1))).f2.f1) ((rd_T39 x9 (wrap64 (x13 + 1))).f2.f2) ((rd_T39 x9 (wrap64 (x13 + 1))).f2.f3.f0) ((rd_T39 x9 (wrap64 (x13 + 1))).f2.f3.f1) ((rd_T39 x9 (wrap64 (x13 + 1))).f2.f4) ((rd_T39 x9 (wrap64 (x13 + 1))).f2.f5)).bind fun t319 => (if t319 ≥ 0 then (some false) else (rollbacknetlaw27_DeterminantUnions.l1 k x6 x7 x8 x9 x10 (wrap64 (x13 + 1)) x274000 x274001 x274002 x274003 x274004 x274005 x274006 x274007 x274008))) else (none)) else (none)) else (none)) else ((determinant_Merge.f k x7 x6).bind fun t320 => ((rollbacknetref27_Same.f k x9 t320).bind fun t323 => (if t323 = true then ((determinant_Merge.f k x9 x6).bind fun t324 => ((rollbacknetref27_Same.f k x9 t324).bind fun t327 => (if t327 = true then ((determinant_Merge.f k x9 x8).bind fun t328 => ((rollbacknetref27_Same.f k x10 t328).bind fun t331 => (if t331 = true then ((determinant_Add.f k x9 x274000 x274001 x274002 x274003 x274004 x274005 x274006 x274007 x274008).bind fun t332 => ((determinant_Add.f k x9 x274000 x274001 x274002 x274003 x274004 x274005 x274006 x274007 x274008).bind fun t335 => ((determinant_Add.f k t335 x274000 x274001 x274002 x274003 x274004 x274005 x274006 x274007 x274008).bind fun t338 => ((rollbacknetref27_Same.f k t332 t338).bind fun t341 => (some t341))))) else (some false)))) else (some false)))) else (some false))))
end
def rollbacknetlaw27_DeterminantUnions.f (k : Nat) (l0 : List Int) (a1_0 : Int) (a1_1 : Int) (a1_2 : Int) (a1_3 : Int) (a1_4 : Int) (a1_5 : Int) (a1_6 : Int) (a1_7 : Int) (a1_8 : Int) : Option (Bool) := (rollbacknetlaw27_awake.f k).bind fun t274 => (if t274 = true then ((rollbacknetmake_New.f l0 200).bind fun bt275 => ((rollbacknetmake_Codes_Dets.f k bt275.1 bt275.2 8).bind fun bt278 => ((rollbacknetmake_Codes_Dets.f k bt275.1 bt278.2 8).bind fun bt282 => ((rollbacknetmake_Codes_Dets.f k bt275.1 bt282.2 8).bind fun bt286 => ((determinant_Merge.f k bt278.1 bt282.1).bind fun t290 => ((determinant_Merge.f k bt286.1 bt282.1).bind fun t293 => ((determinant_Merge.f k t293 bt278.1).bind fun t296 => ((some (([(⟨a1_0, a1_1, (⟨a1_2, a1_3, a1_4, (⟨a1_5, a1_6⟩ : S35), a1_7, a1_8⟩ : S37)⟩ : S39)] : List (S39)) : List (S39))).bind fun y299 => (if y299.length + bt278.1.length < 1954687338268 then ((some (y299 ++ bt278.1 : List (S39))).bind fun y302 => (if y302.length + bt282.1.length < 1954687338268 then ((some (y302 ++ bt282.1 : List (S39))).bind fun y305 => (if y305.length + bt286.1.length < 1954687338268 then (rollbacknetlaw27_DeterminantUnions.l0 k bt278.1 bt282.1 bt286.1 t290 t296 (y305 ++ bt286.1) 0 a1_0 a1_1 a1_2 a1_3 a1_4 a1_5 a1_6 a1_7 a1_8) else (none))) else (none))) else (none)))))))))) else (some false))
theorem rollbacknetlaw27_DeterminantUnions.mono_l : ∀ k, (∀ y0 y1 y2 y3 y4 y5 y6 y7 y8 y9 y10 y11 y12 y13 y14 y15, LeO (rollbacknetlaw27_DeterminantUnions.l0 k y0 y1 y2 y3 y4 y5 y6 y7 y8 y9 y10 y11 y12 y13 y14 y15) (rollbacknetlaw27_DeterminantUnions.l0 (k + 1) y0 y1 y2 y3 y4 y5 y6 y7 y8 y9 y10 y11 y12 y13 y14 y15)) ∧ (∀ y0 y1 y2 y3 y4 y5 y6 y7 y8 y9 y10 y11 y12 y13 y14, LeO (rollbacknetlaw27_DeterminantUnions.l1 k y0 y1 y2 y3 y4 y5 y6 y7 y8 y9 y10 y11 y12 y13 y14) (rollbacknetlaw27_DeterminantUnions.l1 (k + 1) y0 y1 y2 y3 y4 y5 y6 y7 y8 y9 y10 y11 y12 y13 y14))
 | 0 => ⟨fun _ _ _ _ _ _ _ _ _ _ _ _ _ _ _ _ r h => by simp [rollbacknetlaw27_DeterminantUnions.l0] at h, fun _ _ _ _ _ _ _ _ _ _ _ _ _ _ _ r h => by simp [rollbacknetlaw27_DeterminantUnions.l1] at h⟩
 | k + 1 => by
  obtain ⟨ih0, ih1⟩ := rollbacknetlaw27_DeterminantUnions.mono_l k
  refine ⟨?_, ?_⟩
  ·intro y0 y1 y2 y3 y4 y5 y6 y7 y8 y9 y10 y11 y12 y13 y14 y15
   unfold rollbacknetlaw27_DeterminantUnions.l0
   repeat' first
   | (with_reducible exact ih0 _ _ _ _ _ _ _ _ _ _ _ _ _ _ _ _)
   | (with_reducible exact ih1 _ _ _ _ _ _ _ _ _ _ _ _ _ _ _)
   | (with_reducible exact determinant_Add.mono _ _ _ _ _ _ _ _ _ _ _)
   | (with_reducible exact determinant_Compare.mono _ _ _ _ _ _ _ _ _ _ _ _ _ _ _ _ _ _ _)
   | (with_reducible exact determinant_Has.mono _ _ _ _ _ _ _ _ _ _ _)
   | (with_reducible exact determinant_Merge.mono _ _ _)
   | (with_reducible exact rollbacknetlaw27_awake.mono _)
   | (with_reducible exact rollbacknetmake_Codes_Dets.mono _ _ _ _)
   | (with_reducible exact rollbacknetref27_Same.mono _ _ _)
   | (with_reducible exact LeO.refl _)
   | (with_reducible exact LeO.none _)
   | (with_reducible refine LeO.ite ?_ ?_)
   | (with_reducible refine LeO.bind ?_ (fun _ => ?_))
   | exact ih0 _ _ _ _ _ _ _ _ _ _ _ _ _ _ _ _
   | exact ih1 _ _ _ _ _ _ _ _ _ _ _ _ _ _ _
   | exact determinant_Add.mono _ _ _ _ _ _ _ _ _ _ _
   | exact determinant_Compare.mono _ _ _ _ _ _ _ _ _ _ _ _ _ _ _ _ _ _ _
   | exact determinant_Has.mono _ _ _ _ _ _ _ _ _ _ _
   | exact determinant_Merge.mono _ _ _
   | exact rollbacknetlaw27_awake.mono _
   | exact rollbacknetmake_Codes_Dets.mono _ _ _ _
   | exact rollbacknetref27_Same.mono _ _ _
   | exact LeO.none _
   | refine LeO.ite ?_ ?_
   | refine LeO.bind ?_ (fun _ => ?_)
  ·intro y0 y1 y2 y3 y4 y5 y6 y7 y8 y9 y10 y11 y12 y13 y14
   unfold rollbacknetlaw27_DeterminantUnions.l1
   repeat' first
   | (with_reducible exact ih0 _ _ _ _ _ _ _ _ _ _ _ _ _ _ _ _)
   | (with_reducible exact ih1 _ _ _ _ _ _ _ _ _ _ _ _ _ _ _)
   | (with_reducible exact determinant_Add.mono _ _ _ _ _ _ _ _ _ _ _)
   | (with_reducible exact determinant_Compare.mono _ _ _ _ _ _ _ _ _ _ _ _ _ _ _ _ _ _ _)
   | (with_reducible exact determinant_Has.mono _ _ _ _ _ _ _ _ _ _ _)
   | (with_reducible exact determinant_Merge.mono _ _ _)
   | (with_reducible exact rollbacknetlaw27_awake.mono _)
   | (with_reducible exact rollbacknetmake_Codes_Dets.mono _ _ _ _)
   | (with_reducible exact rollbacknetref27_Same.mono _ _ _)
   | (with_reducible exact LeO.refl _)
   | (with_reducible exact LeO.none _)
   | (with_reducible refine LeO.ite ?_ ?_)
   | (with_reducible refine LeO.bind ?_ (fun _ => ?_))
   | exact ih0 _ _ _ _ _ _ _ _ _ _ _ _ _ _ _ _
   | exact ih1 _ _ _ _ _ _ _ _ _ _ _ _ _ _ _
   | exact determinant_Add.mono _ _ _ _ _ _ _ _ _ _ _
   | exact determinant_Compare.mono _ _ _ _ _ _ _ _ _ _ _ _ _ _ _ _ _ _ _
   | exact determinant_Has.mono _ _ _ _ _ _ _ _ _ _ _
   | exact determinant_Merge.mono _ _ _
   | exact rollbacknetlaw27_awake.mono _
   | exact rollbacknetmake_Codes_Dets.mono _ _ _ _
   | exact rollbacknetref27_Same.mono _ _ _
   | exact LeO.none _
   | refine LeO.ite ?_ ?_
   | refine LeO.bind ?_ (fun _ => ?_)
theorem rollbacknetlaw27_DeterminantUnions.mono : ∀ a0 a1 a2 a3 a4 a5 a6 a7 a8 a9 k, LeO (rollbacknetlaw27_DeterminantUnions.f k a0 a1 a2 a3 a4 a5 a6 a7 a8 a9) (rollbacknetlaw27_DeterminantUnions.f (k + 1) a0 a1 a2 a3 a4 a5 a6 a7 a8 a9) := by
 intro a0 a1 a2 a3 a4 a5 a6 a7 a8 a9 k
 obtain ⟨ih0, ih1⟩ := rollbacknetlaw27_DeterminantUnions.mono_l k
 unfold rollbacknetlaw27_DeterminantUnions.f
 repeat' first
   | (with_reducible exact ih0 _ _ _ _ _ _ _ _ _ _ _ _ _ _ _ _)
   | (with_reducible exact ih1 _ _ _ _ _ _ _ _ _ _ _ _ _ _ _)
   | (with_reducible exact determinant_Add.mono _ _ _ _ _ _ _ _ _ _ _)
   | (with_reducible exact determinant_Compare.mono _ _ _ _ _ _ _ _ _ _ _ _ _ _ _ _ _ _ _)
   | (with_reducible exact determinant_Has.mono _ _ _ _ _ _ _ _ _ _ _)
   | (with_reducible exact determinant_Merge.mono _ _ _)
   | (with_reducible exact rollbacknetlaw27_awake.mono _)
   | (with_reducible exact rollbacknetmake_Codes_Dets.mono _ _ _ _)
   | (with_reducible exact rollbacknetref27_Same.mono _ _ _)
   | (with_reducible exact LeO.refl _)
   | (with_reducible exact LeO.none _)
   | (with_reducible refine LeO.ite ?_ ?_)
   | (with_reducible refine LeO.bind ?_ (fun _ => ?_))
   | exact ih0 _ _ _ _ _ _ _ _ _ _ _ _ _ _ _ _
   | exact ih1 _ _ _ _ _ _ _ _ _ _ _ _ _ _ _
   | exact determinant_Add.mono _ _ _ _ _ _ _ _ _ _ _
   | exact determinant_Compare.mono _ _ _ _ _ _ _ _ _ _ _ _ _ _ _ _ _ _ _
   | exact determinant_Has.mono _ _ _ _ _ _ _ _ _ _ _
   | exact determinant_Merge.mono _ _ _
   | exact rollbacknetlaw27_awake.mono _
   | exact rollbacknetmake_Codes_Dets.mono _ _ _ _
   | exact rollbacknetref27_Same.mono _ _ _
   | exact LeO.none _
   | refine LeO.ite ?_ ?_
   | refine LeO.bind ?_ (fun _ => ?_)
def rollbacknetlaw27_DeterminantUnions.T11 : Bool × List (List Nat × List Nat) := (true, [([], []), ([], []), ([], []), ([1, 2], [1, 2]), ([3], [3]), ([0, 4], [0, 4]), ([], []), ([], []), ([], []), ([7, 8], [7, 8]), ([9], [9]), ([6, 10, 5], [6, 10]), ([11, 11], [11]), ([12], [12]), ([12], [12]), ([12], [12]), ([14, 15, 12], [12, 14, 15]), ([16, 12], [12, 16]), ([13, 17, 12, 12], [12, 13, 17]), ([12, 18], [12, 18]), ([5, 19], [5, 19])])
def rollbacknetlaw27_DeterminantUnions.B11 : List Nat := [0, 0, 0, 6, 14, 31, 0, 0, 0, 384, 896, 2047, 4095, 8191, 8191, 8191, 57343, 122879, 262143, 524287, 1048575]
theorem rollbacknetlaw27_DeterminantUnions.tab11 : rtab .any (opsOf Try.f9 11) = rollbacknetlaw27_DeterminantUnions.T11 := by kernel_rfl
theorem rollbacknetlaw27_DeterminantUnions.bits11 : waitsOk rollbacknetlaw27_DeterminantUnions.T11.2 rollbacknetlaw27_DeterminantUnions.B11 = true := by kernel_rfl
def rollbacknetlaw27_DeterminantUnions.T16 : Bool × List (List Nat × List Nat) := (true, [([], []), ([], []), ([0, 1], [0, 1]), ([2], [2]), ([], []), ([], []), ([5], [5]), ([4, 6], [4, 6]), ([7], [7]), ([3, 8], [3, 8]), ([9], [9])])
def rollbacknetlaw27_DeterminantUnions.B16 : List Nat := [0, 0, 3, 7, 0, 0, 32, 112, 240, 511, 1023]
theorem rollbacknetlaw27_DeterminantUnions.tab16 : rtab .any (opsOf Try.f9 16) = rollbacknetlaw27_DeterminantUnions.T16 := by kernel_rfl
theorem rollbacknetlaw27_DeterminantUnions.bits16 : waitsOk rollbacknetlaw27_DeterminantUnions.T16.2 rollbacknetlaw27_DeterminantUnions.B16 = true := by kernel_rfl
def rollbacknetlaw27_DeterminantUnions.T18 : Bool × List (List Nat × List Nat) := (true, [([], []), ([], []), ([], []), ([1, 2], [1, 2]), ([0, 3, 3], [0, 3]), ([4, 4], [4]), ([5], [5]), ([5], [5]), ([5], [5]), ([7, 8, 5, 5], [5, 7, 8]), ([6, 9, 9, 5], [5, 6, 9]), ([5, 10], [5, 10]), ([11, 10], [11]), ([12], [12]), ([12], [12]), ([12], [12]), ([14, 15, 12, 12], [12, 14, 15]), ([13, 16, 16, 12], [12, 13, 16]), ([12, 17], [12, 17]), ([18, 17], [18]), ([19], [19]), ([19], [19]), ([20, 21, 19, 19], [19, 20, 21]), ([19], [19]), ([19], [19]), ([23, 24, 22, 19], [19, 23, 24]), ([19], [19]), ([25, 26, 25, 19], [19, 25, 26]), ([22, 27, 27, 19], [19, 22, 27]), ([19, 28], [19, 28]), ([29, 28, 0, 1, 2, 3, 4, 5, 6, 7, 8, 9, 10, 11, 12, 13, 14, 15, 16, 17, 18, 19, 20, 21, 22, 23, 24, 25, 26, 27, 28, 29], [29])])
def rollbacknetlaw27_DeterminantUnions.B18 : List Nat := [0, 0, 0, 6, 15, 31, 63, 63, 63, 447, 1023, 2047, 4095, 8191, 8191, 8191, 57343, 131071, 262143, 524287, 1048575, 1048575, 4194303, 1048575, 1048575, 33554431, 1048575, 134217727, 268435455, 536870911, 1073741823]
theorem rollbacknetlaw27_DeterminantUnions.tab18 : rtab .any (opsOf Try.f9 18) = rollbacknetlaw27_DeterminantUnions.T18 := by kernel_rfl
theorem rollbacknetlaw27_DeterminantUnions.bits18 : waitsOk rollbacknetlaw27_DeterminantUnions.T18.2 rollbacknetlaw27_DeterminantUnions.B18 = true := by kernel_rfl
set_option maxHeartbeats 8000000 in
set_option maxRecDepth 100000 in
theorem rollbacknetlaw27_DeterminantUnions.calls (k : Nat) (A0 : Option Addr) (c0 : Nat) (l0 : List Int) (a1_0 : Int) (a1_1 : Int) (a1_2 : Int) (a1_3 : Int) (a1_4 : Int) (a1_5 : Int) (a1_6 : Int) (a1_7 : Int) (a1_8 : Int) (r : Bool) (w : World) (hr0 : Kd.C (Kd.int .u8) w A0 l0.length l0) (hc0 : l0.length ≤ c0) (h : rollbacknetlaw27_DeterminantUnions.f k l0 a1_0 a1_1 a1_2 a1_3 a1_4 a1_5 a1_6 a1_7 a1_8 = some r) :
  Calls Try.prog 9 #[.slice A0 l0.length c0, .agg #[.int .i64 a1_0, .int .i64 a1_1, .int .i64 a1_2, .int .i64 a1_3, .int .i64 a1_4, .int .i64 a1_5, .int .i64 a1_6, .int .i64 a1_7, .int .i64 a1_8]] w fun e w' => e = .returned (.bool r) ∧ Below w.heap.size w w' := by
 have hu39 := Try.underlying39
 have HR0 := Aside0.mk hr0
 have HC0 := Aside0.mk hc0
 clear hr0 hc0
 have HB := Aside0.mk (Below.refl w.heap.size w)
 have H : ((rollbacknetlaw27_awake.f k).bind fun t274 => (if t274 = true then ((rollbacknetmake_New.f l0 200).bind fun bt275 => ((rollbacknetmake_Codes_Dets.f k bt275.1 bt275.2 8).bind fun bt278 => ((rollbacknetmake_Codes_Dets.f k bt275.1 bt278.2 8).bind fun bt282 => ((rollbacknetmake_Codes_Dets.f k bt275.1 bt282.2 8).bind fun bt286 => ((determinant_Merge.f k bt278.1 bt282.1).bind fun t290 => ((determinant_Merge.f k bt286.1 bt282.1).bind fun t293 => ((determinant_Merge.f k t293 bt278.1).bind fun t296 => ((some (([(⟨a1_0, a1_1, (⟨a1_2, a1_3, a1_4, (⟨a1_5, a1_6⟩ : S35), a1_7, a1_8⟩ : S37)⟩ : S39)] : List (S39)) : List (S39))).bind fun y299 => (if y299.length + bt278.1.length < 1954687338268 then ((some (y299 ++ bt278.1 : List (S39))).bind fun y302 => (if y302.length + bt282.1.length < 1954687338268 then ((some (y302 ++ bt282.1 : List (S39))).bind fun y305 => (if y305.length + bt286.1.length < 1954687338268 then (rollbacknetlaw27_DeterminantUnions.l0 k bt278.1 bt282.1 bt286.1 t290 t296 (y305 ++ bt286.1) 0 a1_0 a1_1 a1_2 a1_3 a1_4 a1_5 a1_6 a1_7 a1_8) else (none))) else (none))) else (none)))))))))) else (some false))) = some r := h
 clear h
 replace H := Option.bind_eq_some_iff.mp H
 obtain ⟨t274, A30, H⟩ := H
 replace H : (if t274 = true then ((rollbacknetmake_New.f l0 200).bind fun bt275 => ((rollbacknetmake_Codes_Dets.f k bt275.1 bt275.2 8).bind fun bt278 => ((rollbacknetmake_Codes_Dets.f k bt275.1 bt278.2 8).bind fun bt282 => ((rollbacknetmake_Codes_Dets.f k bt275.1 bt282.2 8).bind fun bt286 => ((determinant_Merge.f k bt278.1 bt282.1).bind fun t290 => ((determinant_Merge.f k bt286.1 bt282.1).bind fun t293 => ((determinant_Merge.f k t293 bt278.1).bind fun t296 => ((some (([(⟨a1_0, a1_1, (⟨a1_2, a1_3, a1_4, (⟨a1_5, a1_6⟩ : S35), a1_7, a1_8⟩ : S37)⟩ : S39)] : List (S39)) : List (S39))).bind fun y299 => (if y299.length + bt278.1.length < 1954687338268 then ((some (y299 ++ bt278.1 : List (S39))).bind fun y302 => (if y302.length + bt282.1.length < 1954687338268 then ((some (y302 ++ bt282.1 : List (S39))).bind fun y305 => (if y305.length + bt286.1.length < 1954687338268 then (rollbacknetlaw27_DeterminantUnions.l0 k bt278.1 bt282.1 bt286.1 t290 t296 (y305 ++ bt286.1) 0 a1_0 a1_1 a1_2 a1_3 a1_4 a1_5 a1_6 a1_7 a1_8) else (none))) else (none))) else (none)))))))))) else (some false)) = some r := H
 have A3 := Aside0.mk A30
 clear A30
 by_cases c4 : t274 = true
 ·(
 subst c4
 have H1 : ((rollbacknetmake_New.f l0 200).bind fun bt275 => ((rollbacknetmake_Codes_Dets.f k bt275.1 bt275.2 8).bind fun bt278 => ((rollbacknetmake_Codes_Dets.f k bt275.1 bt278.2 8).bind fun bt282 => ((rollbacknetmake_Codes_Dets.f k bt275.1 bt282.2 8).bind fun bt286 => ((determinant_Merge.f k bt278.1 bt282.1).bind fun t290 => ((determinant_Merge.f k bt286.1 bt282.1).bind fun t293 => ((determinant_Merge.f k t293 bt278.1).bind fun t296 => ((some (([(⟨a1_0, a1_1, (⟨a1_2, a1_3, a1_4, (⟨a1_5, a1_6⟩ : S35), a1_7, a1_8⟩ : S37)⟩ : S39)] : List (S39)) : List (S39))).bind fun y299 => (if y299.length + bt278.1.length < 1954687338268 then ((some (y299 ++ bt278.1 : List (S39))).bind fun y302 => (if y302.length + bt282.1.length < 1954687338268 then ((some (y302 ++ bt282.1 : List (S39))).bind fun y305 => (if y305.length + bt286.1.length < 1954687338268 then (rollbacknetlaw27_DeterminantUnions.l0 k bt278.1 bt282.1 bt286.1 t290 t296 (y305 ++ bt286.1) 0 a1_0 a1_1 a1_2 a1_3 a1_4 a1_5 a1_6 a1_7 a1_8) else (none))) else (none))) else (none)))))))))) = some r := by rw [if_pos rfl] at H; exact H
 clear H
 have H := H1
 clear H1
 replace H := Option.bind_eq_some_iff.mp H
 obtain ⟨⟨t275, t276⟩, A50, H⟩ := H
 replace H : ((rollbacknetmake_Codes_Dets.f k t275 t276 8).bind fun bt278 => ((rollbacknetmake_Codes_Dets.f k t275 bt278.2 8).bind fun bt282 => ((rollbacknetmake_Codes_Dets.f k t275 bt282.2 8).bind fun bt286 => ((determinant_Merge.f k bt278.1 bt282.1).bind fun t290 => ((determinant_Merge.f k bt286.1 bt282.1).bind fun t293 => ((determinant_Merge.f k t293 bt278.1).bind fun t296 => ((some (([(⟨a1_0, a1_1, (⟨a1_2, a1_3, a1_4, (⟨a1_5, a1_6⟩ : S35), a1_7, a1_8⟩ : S37)⟩ : S39)] : List (S39)) : List (S39))).bind fun y299 => (if y299.length + bt278.1.length < 1954687338268 then ((some (y299 ++ bt278.1 : List (S39))).bind fun y302 => (if y302.length + bt282.1.length < 1954687338268 then ((some (y302 ++ bt282.1 : List (S39))).bind fun y305 => (if y305.length + bt286.1.length < 1954687338268 then (rollbacknetlaw27_DeterminantUnions.l0 k bt278.1 bt282.1 bt286.1 t290 t296 (y305 ++ bt286.1) 0 a1_0 a1_1 a1_2 a1_3 a1_4 a1_5 a1_6 a1_7 a1_8) else (none))) else (none))) else (none))))))))) = some r := H
 have A5 := Aside0.mk A50
 clear A50
 replace H := Option.bind_eq_some_iff.mp H
 obtain ⟨⟨t278, t281⟩, A60, H⟩ := H
 replace H : ((rollbacknetmake_Codes_Dets.f k t275 t281 8).bind fun bt282 => ((rollbacknetmake_Codes_Dets.f k t275 bt282.2 8).bind fun bt286 => ((determinant_Merge.f k t278 bt282.1).bind fun t290 => ((determinant_Merge.f k bt286.1 bt282.1).bind fun t293 => ((determinant_Merge.f k t293 t278).bind fun t296 => ((some (([(⟨a1_0, a1_1, (⟨a1_2, a1_3, a1_4, (⟨a1_5, a1_6⟩ : S35), a1_7, a1_8⟩ : S37)⟩ : S39)] : List (S39)) : List (S39))).bind fun y299 => (if y299.length + t278.length < 1954687338268 then ((some (y299 ++ t278 : List (S39))).bind fun y302 => (if y302.length + bt282.1.length < 1954687338268 then ((some (y302 ++ bt282.1 : List (S39))).bind fun y305 => (if y305.length + bt286.1.length < 1954687338268 then (rollbacknetlaw27_DeterminantUnions.l0 k t278 bt282.1 bt286.1 t290 t296 (y305 ++ bt286.1) 0 a1_0 a1_1 a1_2 a1_3 a1_4 a1_5 a1_6 a1_7 a1_8) else (none))) else (none))) else (none)))))))) = some r := H
 have A6 := Aside0.mk A60
 clear A60
 replace H := Option.bind_eq_some_iff.mp H
 obtain ⟨⟨t282, t285⟩, A70, H⟩ := H
 replace H : ((rollbacknetmake_Codes_Dets.f k t275 t285 8).bind fun bt286 => ((determinant_Merge.f k t278 t282).bind fun t290 => ((determinant_Merge.f k bt286.1 t282).bind fun t293 => ((determinant_Merge.f k t293 t278).bind fun t296 => ((some (([(⟨a1_0, a1_1, (⟨a1_2, a1_3, a1_4, (⟨a1_5, a1_6⟩ : S35), a1_7, a1_8⟩ : S37)⟩ : S39)] : List (S39)) : List (S39))).bind fun y299 => (if y299.length + t278.length < 1954687338268 then ((some (y299 ++ t278 : List (S39))).bind fun y302 => (if y302.length + t282.length < 1954687338268 then ((some (y302 ++ t282 : List (S39))).bind fun y305 => (if y305.length + bt286.1.length < 1954687338268 then (rollbacknetlaw27_DeterminantUnions.l0 k t278 t282 bt286.1 t290 t296 (y305 ++ bt286.1) 0 a1_0 a1_1 a1_2 a1_3 a1_4 a1_5 a1_6 a1_7 a1_8) else (none))) else (none))) else (none))))))) = some r := H
 have A7 := Aside0.mk A70
 clear A70
 replace H := Option.bind_eq_some_iff.mp H
 obtain ⟨⟨t286, t289⟩, A80, H⟩ := H
 replace H : ((determinant_Merge.f k t278 t282).bind fun t290 => ((determinant_Merge.f k t286 t282).bind fun t293 => ((determinant_Merge.f k t293 t278).bind fun t296 => ((some (([(⟨a1_0, a1_1, (⟨a1_2, a1_3, a1_4, (⟨a1_5, a1_6⟩ : S35), a1_7, a1_8⟩ : S37)⟩ : S39)] : List (S39)) : List (S39))).bind fun y299 => (if y299.length + t278.length < 1954687338268 then ((some (y299 ++ t278 : List (S39))).bind fun y302 => (if y302.length + t282.length < 1954687338268 then ((some (y302 ++ t282 : List (S39))).bind fun y305 => (if y305.length + t286.length < 1954687338268 then (rollbacknetlaw27_DeterminantUnions.l0 k t278 t282 t286 t290 t296 (y305 ++ t286) 0 a1_0 a1_1 a1_2 a1_3 a1_4 a1_5 a1_6 a1_7 a1_8) else (none))) else (none))) else (none)))))) = some r := H
 have A8 := Aside0.mk A80
 clear A80
 replace H := Option.bind_eq_some_iff.mp H
 obtain ⟨t290, A90, H⟩ := H
 replace H : ((determinant_Merge.f k t286 t282).bind fun t293 => ((determinant_Merge.f k t293 t278).bind fun t296 => ((some (([(⟨a1_0, a1_1, (⟨a1_2, a1_3, a1_4, (⟨a1_5, a1_6⟩ : S35), a1_7, a1_8⟩ : S37)⟩ : S39)] : List (S39)) : List (S39))).bind fun y299 => (if y299.length + t278.length < 1954687338268 then ((some (y299 ++ t278 : List (S39))).bind fun y302 => (if y302.length + t282.length < 1954687338268 then ((some (y302 ++ t282 : List (S39))).bind fun y305 => (if y305.length + t286.length < 1954687338268 then (rollbacknetlaw27_DeterminantUnions.l0 k t278 t282 t286 t290 t296 (y305 ++ t286) 0 a1_0 a1_1 a1_2 a1_3 a1_4 a1_5 a1_6 a1_7 a1_8) else (none))) else (none))) else (none))))) = some r := H
 have A9 := Aside0.mk A90
 clear A90
 replace H := Option.bind_eq_some_iff.mp H
 obtain ⟨t293, A100, H⟩ := H
 replace H : ((determinant_Merge.f k t293 t278).bind fun t296 => ((some (([(⟨a1_0, a1_1, (⟨a1_2, a1_3, a1_4, (⟨a1_5, a1_6⟩ : S35), a1_7, a1_8⟩ : S37)⟩ : S39)] : List (S39)) : List (S39))).bind fun y299 => (if y299.length + t278.length < 1954687338268 then ((some (y299 ++ t278 : List (S39))).bind fun y302 => (if y302.length + t282.length < 1954687338268 then ((some (y302 ++ t282 : List (S39))).bind fun y305 => (if y305.length + t286.length < 1954687338268 then (rollbacknetlaw27_DeterminantUnions.l0 k t278 t282 t286 t290 t296 (y305 ++ t286) 0 a1_0 a1_1 a1_2 a1_3 a1_4 a1_5 a1_6 a1_7 a1_8) else (none))) else (none))) else (none)))) = some r := H
 have A10 := Aside0.mk A100
 clear A100
 replace H := Option.bind_eq_some_iff.mp H
 obtain ⟨t296, A110, H⟩ := H
 replace H : ((some (([(⟨a1_0, a1_1, (⟨a1_2, a1_3, a1_4, (⟨a1_5, a1_6⟩ : S35), a1_7, a1_8⟩ : S37)⟩ : S39)] : List (S39)) : List (S39))).bind fun y299 => (if y299.length + t278.length < 1954687338268 then ((some (y299 ++ t278 : List (S39))).bind fun y302 => (if y302.length + t282.length < 1954687338268 then ((some (y302 ++ t282 : List (S39))).bind fun y305 => (if y305.length + t286.length < 1954687338268 then (rollbacknetlaw27_DeterminantUnions.l0 k t278 t282 t286 t290 t296 (y305 ++ t286) 0 a1_0 a1_1 a1_2 a1_3 a1_4 a1_5 a1_6 a1_7 a1_8) else (none))) else (none))) else (none))) = some r := H
 have A11 := Aside0.mk A110
 clear A110
 obtain ⟨y299, hy299⟩ : ∃ y_ : List (S39), y_ = (([(⟨a1_0, a1_1, (⟨a1_2, a1_3, a1_4, (⟨a1_5, a1_6⟩ : S35), a1_7, a1_8⟩ : S37)⟩ : S39)] : List (S39))) := ⟨_, rfl⟩
 replace H : (if y299.length + t278.length < 1954687338268 then ((some (y299 ++ t278 : List (S39))).bind fun y302 => (if y302.length + t282.length < 1954687338268 then ((some (y302 ++ t282 : List (S39))).bind fun y305 => (if y305.length + t286.length < 1954687338268 then (rollbacknetlaw27_DeterminantUnions.l0 k t278 t282 t286 t290 t296 (y305 ++ t286) 0 a1_0 a1_1 a1_2 a1_3 a1_4 a1_5 a1_6 a1_7 a1_8) else (none))) else (none))) else (none)) = some r := by first | (rw [hy299]; with_reducible exact H) | (have H2_ := (Option.bind_some _ _).symm.trans H; rw [hy299]; with_reducible exact H2_) | (have H2_ := (Option.bind_some _ _).symm.trans H; with_reducible exact H2_) | with_reducible exact H | (rw [hy299]; exact H) | exact H
 have Ny299 := Aside0.mk hy299
 clear hy299
 by_cases c12 : y299.length + t278.length < 1954687338268
 ·(
 rw [if_pos c12] at H
 have LMc12 := Aside0.mk c12
 clear c12
 obtain ⟨y302, hy302⟩ : ∃ y_ : List (S39), y_ = (y299 ++ t278) := ⟨_, rfl⟩
 replace H : (if y302.length + t282.length < 1954687338268 then ((some (y302 ++ t282 : List (S39))).bind fun y305 => (if y305.length + t286.length < 1954687338268 then (rollbacknetlaw27_DeterminantUnions.l0 k t278 t282 t286 t290 t296 (y305 ++ t286) 0 a1_0 a1_1 a1_2 a1_3 a1_4 a1_5 a1_6 a1_7 a1_8) else (none))) else (none)) = some r := by first | (rw [hy302]; with_reducible exact H) | (have H2_ := (Option.bind_some _ _).symm.trans H; rw [hy302]; with_reducible exact H2_) | (have H2_ := (Option.bind_some _ _).symm.trans H; with_reducible exact H2_) | with_reducible exact H | (rw [hy302]; exact H) | exact H
 have Ny302 := Aside0.mk hy302
 clear hy302
 by_cases c13 : y302.length + t282.length < 1954687338268
 ·(
 rw [if_pos c13] at H
 have LMc13 := Aside0.mk c13
 clear c13
 obtain ⟨y305, hy305⟩ : ∃ y_ : List (S39), y_ = (y302 ++ t282) := ⟨_, rfl⟩
 replace H : (if y305.length + t286.length < 1954687338268 then (rollbacknetlaw27_DeterminantUnions.l0 k t278 t282 t286 t290 t296 (y305 ++ t286) 0 a1_0 a1_1 a1_2 a1_3 a1_4 a1_5 a1_6 a1_7 a1_8) else (none)) = some r := by first | (rw [hy305]; with_reducible exact H) | (have H2_ := (Option.bind_some _ _).symm.trans H; rw [hy305]; with_reducible exact H2_) | (have H2_ := (Option.bind_some _ _).symm.trans H; with_reducible exact H2_) | with_reducible exact H | (rw [hy305]; exact H) | exact H
 have Ny305 := Aside0.mk hy305
 clear hy305
 by_cases c14 : y305.length + t286.length < 1954687338268
 ·(
 rw [if_pos c14] at H
 have LMc14 := Aside0.mk c14
 clear c14
 obtain ⟨y308, hy308⟩ : ∃ y_ : List (S39), y_ = (y305 ++ t286) := ⟨_, rfl⟩
 replace H : (rollbacknetlaw27_DeterminantUnions.l0 k t278 t282 t286 t290 t296 y308 0 a1_0 a1_1 a1_2 a1_3 a1_4 a1_5 a1_6 a1_7 a1_8) = some r := by first | (rw [hy308]; with_reducible exact H) | (have H2_ := (Option.bind_some _ _).symm.trans H; rw [hy308]; with_reducible exact H2_) | (have H2_ := (Option.bind_some _ _).symm.trans H; with_reducible exact H2_) | with_reducible exact H | (rw [hy308]; exact H) | exact H
 have Ny308 := Aside0.mk hy308
 clear hy308
 have H' := Aside0.mk H
 clear H
 go_enter Try.func9, Try.ntmps9
 go_wp2_with (first | ((with_reducible refine gate_dst (N := 3) rfl ?_); refine box_event ?hg (N := 3) ?hd (cs := #[.int .i64 a1_0, .int .i64 a1_1, .int .i64 a1_2, .int .i64 a1_3, .int .i64 a1_4, .int .i64 a1_5, .int .i64 a1_6, .int .i64 a1_7, .int .i64 a1_8]) (t := 39) ?hr ?_; (case hd => rfl); (case hg => rfl); (case hr => first | (go_simp; done) | (go_simp; rfl)); intro gb273 hg w15 hbox hb; have n0_ := Aside0.mk (below_step (bq HB.out) hb); have n1_ := Aside0.mk (hbox); have n2_ := Aside0.mk ((by rw [hg]; exact (below_size (bq HB.out)) : w.heap.size ≤ gb273)); have n3_ := Aside0.mk ((by rw [hg]; exact (below_size (bq HB.out)) : w.heap.size ≤ gb273)); clear HB; have HB := n0_; have BK273 := n1_; have GW273 := n2_; have GE273 := n3_; clear n0_ n1_ n2_ n3_; clear hb hbox hg) | ((with_reducible refine gate_callee (f := 12) rfl ?_); refine goesL_ (some 14) rfl rfl Try.func12 (by kernel_rfl) rfl #[] rfl (by (try simp only [List.map_toArray, List.map_cons, List.map_nil]); first | done | rfl | (simp only [List.length_drop, List.length_take]; rfl)) ?_; (with_reducible refine (rollbacknetlaw27_awake.calls k  true _ A3.out).mono ?_); rintro e w16 ⟨rfl, hb⟩; refine ⟨_, rfl, ?_⟩; have n0_ := Aside0.mk (blk_below (g := gb273) (o := .cells #[.int .i64 a1_0, .int .i64 a1_1, .int .i64 a1_2, .int .i64 a1_3, .int .i64 a1_4, .int .i64 a1_5, .int .i64 a1_6, .int .i64 a1_7, .int .i64 a1_8] 39 (0, 0)) (kq BK273.out) hb); have n1_ := Aside0.mk (below_step (bq1 HB.out GE273.out) hb); clear BK273; clear HB; have BK273 := n0_; have HB := n1_; clear n0_ n1_; (try clear hb); (try clear hb2); (try clear hk); (try clear hi)) | ((with_reducible refine gate_callee (f := 23) rfl ?_); refine goesL_ (some 17) rfl rfl Try.func23 (by kernel_rfl) rfl #[.slice A0 l0.length c0, .int .i64 200] rfl (by (try simp only [List.map_toArray, List.map_cons, List.map_nil]); first | done | rfl | (simp only [List.length_drop, List.length_take]; rfl)) ?_; (with_reducible refine (rollbacknetmake_New.calls _ _ l0 200 t275 t276 w _ ?side1 ?side2 ?side3 A5.out).mono ?_); (case side1 => repeat (first | (with_reducible first | exact HB.out | apply below_alloc | apply pw_below_drewN | apply below_drew1 | refine below_set ?_ GE273.out) | exact HB.out)); (case side2 => exact HR0.out); (case side3 => exact HC0.out); rintro e w17 ⟨g277, rfl, hi, hb, hb2⟩; refine ⟨_, rfl, ?_⟩; have n0_ := Aside0.mk (blk_below (g := gb273) (o := .cells #[.int .i64 a1_0, .int .i64 a1_1, .int .i64 a1_2, .int .i64 a1_3, .int .i64 a1_4, .int .i64 a1_5, .int .i64 a1_6, .int .i64 a1_7, .int .i64 a1_8] 39 (0, 0)) (kq BK273.out) hb2); have n1_ := Aside0.mk (hb); have n2_ := Aside0.mk (hi); have n3_ := Aside0.mk (IsS66.ne_blk hi (blk_below (g := gb273) (o := .cells #[.int .i64 a1_0, .int .i64 a1_1, .int .i64 a1_2, .int .i64 a1_3, .int .i64 a1_4, .int .i64 a1_5, .int .i64 a1_6, .int .i64 a1_7, .int .i64 a1_8] 39 (0, 0)) (kq BK273.out) hb2) (by decide)); have n4_ := Aside0.mk (Ne.symm (IsS66.ne_blk hi (blk_below (g := gb273) (o := .cells #[.int .i64 a1_0, .int .i64 a1_1, .int .i64 a1_2, .int .i64 a1_3, .int .i64 a1_4, .int .i64 a1_5, .int .i64 a1_6, .int .i64 a1_7, .int .i64 a1_8] 39 (0, 0)) (kq BK273.out) hb2) (by decide))); clear BK273; clear HB; have BK273 := n0_; have HB := n1_; have HI277 := n2_; have NB277_273 := n3_; have NB273_277 := n4_; clear n0_ n1_ n2_ n3_ n4_; (try clear hb); (try clear hb2); (try clear hk); (try clear hi)) | ((with_reducible refine gate_callee (f := 24) rfl ?_); refine goesL_ (some 19) rfl rfl Try.func24 (by kernel_rfl) rfl #[.pointer (some ⟨g277, 0, none⟩), .int .i64 8] rfl (by (try simp only [List.map_toArray, List.map_cons, List.map_nil]); first | done | rfl | (simp only [List.length_drop, List.length_take]; rfl)) ?_; (with_reducible refine (rollbacknetmake_Codes_Dets.calls k g277 t275 t276 8 t278 t281 w _ ?side1 ?side2 A6.out).mono ?_); (case side1 => repeat (first | (with_reducible first | exact HI277.out | apply IsS66.alloc | apply IsS66.drewN | apply IsS66.drew | apply IsS66.set_1 | refine IsS66.far ?_ NB277_273.out _) | exact HI277.out)); (case side2 => repeat (first | (with_reducible first | exact HB.out | apply below_alloc | apply pw_below_drewN | apply below_drew1 | refine below_set ?_ (IsS66.ge HI277.out) | refine below_set ?_ GE273.out) | exact HB.out)); rintro e w18 ⟨v279, rfl, ho0, hi, hb, hk⟩; refine ⟨_, rfl, ?_⟩; have n0_ := Aside0.mk (KeepBut.blk hk (g' := gb273) (o := .cells #[.int .i64 a1_0, .int .i64 a1_1, .int .i64 a1_2, .int .i64 a1_3, .int .i64 a1_4, .int .i64 a1_5, .int .i64 a1_6, .int .i64 a1_7, .int .i64 a1_8] 39 (0, 0)) (kq BK273.out) NB273_277.out (by simp)); have n1_ := Aside0.mk (Kd.R_lower (Kd.R_newB ho0 (g := gb273) (o := .cells #[.int .i64 a1_0, .int .i64 a1_1, .int .i64 a1_2, .int .i64 a1_3, .int .i64 a1_4, .int .i64 a1_5, .int .i64 a1_6, .int .i64 a1_7, .int .i64 a1_8] 39 (0, 0)) (kq BK273.out)) (below_size (bq2 HB.out (IsS66.ge HI277.out) GE273.out))); have n2_ := Aside0.mk (hb); have n3_ := Aside0.mk (hi); clear BK273; clear HB; clear HI277; have BK273 := n0_; have HO280 := n1_; have HB := n2_; have HI277 := n3_; clear n0_ n1_ n2_ n3_; (try clear hb); (try clear hb2); (try clear hk); (try clear hi); (try clear ho0)) | ((with_reducible refine gate_callee (f := 24) rfl ?_); refine goesL_ (some 21) rfl rfl Try.func24 (by kernel_rfl) rfl #[.pointer (some ⟨g277, 0, none⟩), .int .i64 8] rfl (by (try simp only [List.map_toArray, List.map_cons, List.map_nil]); first | done | rfl | (simp only [List.length_drop, List.length_take]; rfl)) ?_; (with_reducible refine (rollbacknetmake_Codes_Dets.calls k g277 t275 t281 8 t282 t285 w _ ?side1 ?side2 A7.out).mono ?_); (case side1 => repeat (first | (with_reducible first | exact HI277.out | apply IsS66.alloc | apply IsS66.drewN | apply IsS66.drew | apply IsS66.set_1 | refine IsS66.far ?_ NB277_273.out _) | exact HI277.out)); (case side2 => repeat (first | (with_reducible first | exact HB.out | apply below_alloc | apply pw_below_drewN | apply below_drew1 | refine below_set ?_ (IsS66.ge HI277.out) | refine below_set ?_ GE273.out) | exact HB.out)); rintro e w19 ⟨v283, rfl, ho0, hi, hb, hk⟩; refine ⟨_, rfl, ?_⟩; have n0_ := Aside0.mk (KeepBut.blk hk (g' := gb273) (o := .cells #[.int .i64 a1_0, .int .i64 a1_1, .int .i64 a1_2, .int .i64 a1_3, .int .i64 a1_4, .int .i64 a1_5, .int .i64 a1_6, .int .i64 a1_7, .int .i64 a1_8] 39 (0, 0)) (kq BK273.out) NB273_277.out (by simp)); have n1_ := Aside0.mk (Kd.R_mono (Kd.R_told (Kd.R_oldK (IsS66.apart (show IsS66 w _ g277 t275 t281 from by repeat (first | (with_reducible first | exact HI277.out | apply IsS66.alloc | apply IsS66.drewN | apply IsS66.drew | apply IsS66.set_1 | refine IsS66.far ?_ NB277_273.out _) | exact HI277.out)) (rq HO280.out) (by decide)) hk) (Kd.R_base ho0)) (fun _ h_ => h_.1)); have n2_ := Aside0.mk (Kd.R_lower (Kd.R_newB (Kd.R_new' ho0 (Kd.R_lt (rq HO280.out))) (g := gb273) (o := .cells #[.int .i64 a1_0, .int .i64 a1_1, .int .i64 a1_2, .int .i64 a1_3, .int .i64 a1_4, .int .i64 a1_5, .int .i64 a1_6, .int .i64 a1_7, .int .i64 a1_8] 39 (0, 0)) (kq BK273.out)) (below_size (bq2 HB.out (IsS66.ge HI277.out) GE273.out))); have n3_ := Aside0.mk (hb); have n4_ := Aside0.mk (hi); clear BK273; clear HO280; clear HB; clear HI277; have BK273 := n0_; have HO280 := n1_; have HO284 := n2_; have HB := n3_; have HI277 := n4_; clear n0_ n1_ n2_ n3_ n4_; (try clear hb); (try clear hb2); (try clear hk); (try clear hi); (try clear ho0)) | ((with_reducible refine gate_callee (f := 24) rfl ?_); refine goesL_ (some 23) rfl rfl Try.func24 (by kernel_rfl) rfl #[.pointer (some ⟨g277, 0, none⟩), .int .i64 8] rfl (by (try simp only [List.map_toArray, List.map_cons, List.map_nil]); first | done | rfl | (simp only [List.length_drop, List.length_take]; rfl)) ?_; (with_reducible refine (rollbacknetmake_Codes_Dets.calls k g277 t275 t285 8 t286 t289 w _ ?side1 ?side2 A8.out).mono ?_); (case side1 => repeat (first | (with_reducible first | exact HI277.out | apply IsS66.alloc | apply IsS66.drewN | apply IsS66.drew | apply IsS66.set_1 | refine IsS66.far ?_ NB277_273.out _) | exact HI277.out)); (case side2 => repeat (first | (with_reducible first | exact HB.out | apply below_alloc | apply pw_below_drewN | apply below_drew1 | refine below_set ?_ (IsS66.ge HI277.out) | refine below_set ?_ GE273.out) | exact HB.out)); rintro e w20 ⟨v287, rfl, ho0, hi, hb, hk⟩; refine ⟨_, rfl, ?_⟩; have n0_ := Aside0.mk (KeepBut.blk hk (g' := gb273) (o := .cells #[.int .i64 a1_0, .int .i64 a1_1, .int .i64 a1_2, .int .i64 a1_3, .int .i64 a1_4, .int .i64 a1_5, .int .i64 a1_6, .int .i64 a1_7, .int .i64 a1_8] 39 (0, 0)) (kq BK273.out) NB273_277.out (by simp)); have n1_ := Aside0.mk (Kd.R_mono (Kd.R_told (Kd.R_oldK (IsS66.apart (show IsS66 w _ g277 t275 t285 from by repeat (first | (with_reducible first | exact HI277.out | apply IsS66.alloc | apply IsS66.drewN | apply IsS66.drew | apply IsS66.set_1 | refine IsS66.far ?_ NB277_273.out _) | exact HI277.out)) (rq HO280.out) (by decide)) hk) (Kd.R_base ho0)) (fun _ h_ => h_.1)); have n2_ := Aside0.mk (Kd.R_mono (Kd.R_told (Kd.R_oldK (IsS66.apart (show IsS66 w _ g277 t275 t285 from by repeat (first | (with_reducible first | exact HI277.out | apply IsS66.alloc | apply IsS66.drewN | apply IsS66.drew | apply IsS66.set_1 | refine IsS66.far ?_ NB277_273.out _) | exact HI277.out)) (rq HO284.out) (by decide)) hk) (Kd.R_base ho0)) (fun _ h_ => h_.1)); have n3_ := Aside0.mk (Kd.R_lower (Kd.R_newB (Kd.R_new' (Kd.R_new' ho0 (Kd.R_lt (rq HO280.out))) (Kd.R_lt (rq HO284.out))) (g := gb273) (o := .cells #[.int .i64 a1_0, .int .i64 a1_1, .int .i64 a1_2, .int .i64 a1_3, .int .i64 a1_4, .int .i64 a1_5, .int .i64 a1_6, .int .i64 a1_7, .int .i64 a1_8] 39 (0, 0)) (kq BK273.out)) (below_size (bq2 HB.out (IsS66.ge HI277.out) GE273.out))); have n4_ := Aside0.mk (hb); have n5_ := Aside0.mk (hi); clear BK273; clear HO280; clear HO284; clear HB; clear HI277; have BK273 := n0_; have HO280 := n1_; have HO284 := n2_; have HO288 := n3_; have HB := n4_; have HI277 := n5_; clear n0_ n1_ n2_ n3_ n4_ n5_; (try clear hb); (try clear hb2); (try clear hk); (try clear hi); (try clear ho0); obtain ⟨Ao21, co21, eo21⟩ := Kd.R_slice HO280.out; subst eo21; obtain ⟨Ao22, co22, eo22⟩ := Kd.R_slice HO284.out; subst eo22) | ((with_reducible refine gate_callee (f := 25) rfl ?_); refine goesL_ (some 26) rfl rfl Try.func25 (by kernel_rfl) rfl #[.slice Ao21 t278.length co21, .slice Ao22 t282.length co22] rfl (by (try simp only [List.map_toArray, List.map_cons, List.map_nil]); first | done | rfl | (simp only [List.length_drop, List.length_take]; rfl)) ?_; (with_reducible refine (determinant_Merge.calls k _ _ t278 _ _ t282 t290 _ ?side1 ?side2 ?side3 ?side4 A9.out).mono ?_); (case side1 => repeat (first | exact (Kd.R_reads' HO280.out).2.2 | (with_reducible refine Kd.C_alloc ?_ _) | (with_reducible refine Kd.C_drewN ?_ _) | (with_reducible refine Kd.C_drew ?_))); (case side2 => exact (Kd.R_reads' HO280.out).2.1); (case side3 => repeat (first | exact (Kd.R_reads' HO284.out).2.2 | (with_reducible refine Kd.C_alloc ?_ _) | (with_reducible refine Kd.C_drewN ?_ _) | (with_reducible refine Kd.C_drew ?_))); (case side4 => exact (Kd.R_reads' HO284.out).2.1); rintro e w23 ⟨v291, rfl, ho0, hb⟩; refine ⟨_, rfl, ?_⟩; have n0_ := Aside0.mk (Kd.R_elder' (rq HO280.out) (Kd.R_base ho0) hb); have n1_ := Aside0.mk (Kd.R_elder' (rq HO284.out) (Kd.R_base ho0) hb); have n2_ := Aside0.mk (Kd.R_elder' (rq HO288.out) (Kd.R_base ho0) hb); have n3_ := Aside0.mk (Kd.R_lower (Kd.R_newB (Kd.R_new' (Kd.R_new' (Kd.R_new' ho0 (Kd.R_lt (rq HO280.out))) (Kd.R_lt (rq HO284.out))) (Kd.R_lt (rq HO288.out))) (g := gb273) (o := .cells #[.int .i64 a1_0, .int .i64 a1_1, .int .i64 a1_2, .int .i64 a1_3, .int .i64 a1_4, .int .i64 a1_5, .int .i64 a1_6, .int .i64 a1_7, .int .i64 a1_8] 39 (0, 0)) (kq BK273.out)) (below_size (bq2 HB.out (IsS66.ge HI277.out) GE273.out))); have n4_ := Aside0.mk (blk_below (g := gb273) (o := .cells #[.int .i64 a1_0, .int .i64 a1_1, .int .i64 a1_2, .int .i64 a1_3, .int .i64 a1_4, .int .i64 a1_5, .int .i64 a1_6, .int .i64 a1_7, .int .i64 a1_8] 39 (0, 0)) (kq BK273.out) hb); have n5_ := Aside0.mk (IsS66.below (by repeat (first | (with_reducible first | exact HI277.out | apply IsS66.alloc | apply IsS66.drewN | apply IsS66.drew | apply IsS66.set_1 | refine IsS66.far ?_ NB277_273.out _) | exact HI277.out)) hb); have n6_ := Aside0.mk (below_step (bq2 HB.out (IsS66.ge HI277.out) GE273.out) hb); clear HO280; clear HO284; clear HO288; clear BK273; clear HI277; clear HB; have HO280 := n0_; have HO284 := n1_; have HO288 := n2_; have HO292 := n3_; have BK273 := n4_; have HI277 := n5_; have HB := n6_; clear n0_ n1_ n2_ n3_ n4_ n5_ n6_; (try clear hb); (try clear hb2); (try clear hk); (try clear hi); (try clear ho0); obtain ⟨Ao24, co24, eo24⟩ := Kd.R_slice HO288.out; subst eo24) | ((with_reducible refine gate_callee (f := 25) rfl ?_); refine goesL_ (some 29) rfl rfl Try.func25 (by kernel_rfl) rfl #[.slice Ao24 t286.length co24, .slice Ao22 t282.length co22] rfl (by (try simp only [List.map_toArray, List.map_cons, List.map_nil]); first | done | rfl | (simp only [List.length_drop, List.length_take]; rfl)) ?_; (with_reducible refine (determinant_Merge.calls k _ _ t286 _ _ t282 t293 _ ?side1 ?side2 ?side3 ?side4 A10.out).mono ?_); (case side1 => repeat (first | exact (Kd.R_reads' HO288.out).2.2 | (with_reducible refine Kd.C_alloc ?_ _) | (with_reducible refine Kd.C_drewN ?_ _) | (with_reducible refine Kd.C_drew ?_))); (case side2 => exact (Kd.R_reads' HO288.out).2.1); (case side3 => repeat (first | exact (Kd.R_reads' HO284.out).2.2 | (with_reducible refine Kd.C_alloc ?_ _) | (with_reducible refine Kd.C_drewN ?_ _) | (with_reducible refine Kd.C_drew ?_))); (case side4 => exact (Kd.R_reads' HO284.out).2.1); rintro e w25 ⟨v294, rfl, ho0, hb⟩; refine ⟨_, rfl, ?_⟩; have n0_ := Aside0.mk (Kd.R_elder' (rq HO280.out) (Kd.R_base ho0) hb); have n1_ := Aside0.mk (Kd.R_elder' (rq HO284.out) (Kd.R_base ho0) hb); have n2_ := Aside0.mk (Kd.R_elder' (rq HO288.out) (Kd.R_base ho0) hb); have n3_ := Aside0.mk (Kd.R_elder' (rq HO292.out) (Kd.R_base ho0) hb); have n4_ := Aside0.mk (Kd.R_lower (Kd.R_newB (Kd.R_new' (Kd.R_new' (Kd.R_new' (Kd.R_new' ho0 (Kd.R_lt (rq HO280.out))) (Kd.R_lt (rq HO284.out))) (Kd.R_lt (rq HO288.out))) (Kd.R_lt (rq HO292.out))) (g := gb273) (o := .cells #[.int .i64 a1_0, .int .i64 a1_1, .int .i64 a1_2, .int .i64 a1_3, .int .i64 a1_4, .int .i64 a1_5, .int .i64 a1_6, .int .i64 a1_7, .int .i64 a1_8] 39 (0, 0)) (kq BK273.out)) (below_size (bq2 HB.out (IsS66.ge HI277.out) GE273.out))); have n5_ := Aside0.mk (blk_below (g := gb273) (o := .cells #[.int .i64 a1_0, .int .i64 a1_1, .int .i64 a1_2, .int .i64 a1_3, .int .i64 a1_4, .int .i64 a1_5, .int .i64 a1_6, .int .i64 a1_7, .int .i64 a1_8] 39 (0, 0)) (kq BK273.out) hb); have n6_ := Aside0.mk (IsS66.below (by repeat (first | (with_reducible first | exact HI277.out | apply IsS66.alloc | apply IsS66.drewN | apply IsS66.drew | apply IsS66.set_1 | refine IsS66.far ?_ NB277_273.out _) | exact HI277.out)) hb); have n7_ := Aside0.mk (below_step (bq2 HB.out (IsS66.ge HI277.out) GE273.out) hb); clear HO280; clear HO284; clear HO288; clear HO292; clear BK273; clear HI277; clear HB; have HO280 := n0_; have HO284 := n1_; have HO288 := n2_; have HO292 := n3_; have HO295 := n4_; have BK273 := n5_; have HI277 := n6_; have HB := n7_; clear n0_ n1_ n2_ n3_ n4_ n5_ n6_ n7_; (try clear hb); (try clear hb2); (try clear hk); (try clear hi); (try clear ho0); obtain ⟨Ao26, co26, eo26⟩ := Kd.R_slice HO295.out; subst eo26) | ((with_reducible refine gate_callee (f := 25) rfl ?_); refine goesL_ (some 31) rfl rfl Try.func25 (by kernel_rfl) rfl #[.slice Ao26 t293.length co26, .slice Ao21 t278.length co21] rfl (by (try simp only [List.map_toArray, List.map_cons, List.map_nil]); first | done | rfl | (simp only [List.length_drop, List.length_take]; rfl)) ?_; (with_reducible refine (determinant_Merge.calls k _ _ t293 _ _ t278 t296 _ ?side1 ?side2 ?side3 ?side4 A11.out).mono ?_); (case side1 => repeat (first | exact (Kd.R_reads' HO295.out).2.2 | (with_reducible refine Kd.C_alloc ?_ _) | (with_reducible refine Kd.C_drewN ?_ _) | (with_reducible refine Kd.C_drew ?_))); (case side2 => exact (Kd.R_reads' HO295.out).2.1); (case side3 => repeat (first | exact (Kd.R_reads' HO280.out).2.2 | (with_reducible refine Kd.C_alloc ?_ _) | (with_reducible refine Kd.C_drewN ?_ _) | (with_reducible refine Kd.C_drew ?_))); (case side4 => exact (Kd.R_reads' HO280.out).2.1); rintro e w27 ⟨v297, rfl, ho0, hb⟩; refine ⟨_, rfl, ?_⟩; have n0_ := Aside0.mk (Kd.R_elder' (rq HO280.out) (Kd.R_base ho0) hb); have n1_ := Aside0.mk (Kd.R_elder' (rq HO284.out) (Kd.R_base ho0) hb); have n2_ := Aside0.mk (Kd.R_elder' (rq HO288.out) (Kd.R_base ho0) hb); have n3_ := Aside0.mk (Kd.R_elder' (rq HO292.out) (Kd.R_base ho0) hb); have n4_ := Aside0.mk (Kd.R_elder' (rq HO295.out) (Kd.R_base ho0) hb); have n5_ := Aside0.mk (Kd.R_lower (Kd.R_newB (Kd.R_new' (Kd.R_new' (Kd.R_new' (Kd.R_new' (Kd.R_new' ho0 (Kd.R_lt (rq HO280.out))) (Kd.R_lt (rq HO284.out))) (Kd.R_lt (rq HO288.out))) (Kd.R_lt (rq HO292.out))) (Kd.R_lt (rq HO295.out))) (g := gb273) (o := .cells #[.int .i64 a1_0, .int .i64 a1_1, .int .i64 a1_2, .int .i64 a1_3, .int .i64 a1_4, .int .i64 a1_5, .int .i64 a1_6, .int .i64 a1_7, .int .i64 a1_8] 39 (0, 0)) (kq BK273.out)) (below_size (bq2 HB.out (IsS66.ge HI277.out) GE273.out))); have n6_ := Aside0.mk (blk_below (g := gb273) (o := .cells #[.int .i64 a1_0, .int .i64 a1_1, .int .i64 a1_2, .int .i64 a1_3, .int .i64 a1_4, .int .i64 a1_5, .int .i64 a1_6, .int .i64 a1_7, .int .i64 a1_8] 39 (0, 0)) (kq BK273.out) hb); have n7_ := Aside0.mk (IsS66.below (by repeat (first | (with_reducible first | exact HI277.out | apply IsS66.alloc | apply IsS66.drewN | apply IsS66.drew | apply IsS66.set_1 | refine IsS66.far ?_ NB277_273.out _) | exact HI277.out)) hb); have n8_ := Aside0.mk (below_step (bq2 HB.out (IsS66.ge HI277.out) GE273.out) hb); clear HO280; clear HO284; clear HO288; clear HO292; clear HO295; clear BK273; clear HI277; clear HB; have HO280 := n0_; have HO284 := n1_; have HO288 := n2_; have HO292 := n3_; have HO295 := n4_; have HO298 := n5_; have BK273 := n6_; have HI277 := n7_; have HB := n8_; clear n0_ n1_ n2_ n3_ n4_ n5_ n6_ n7_ n8_; (try clear hb); (try clear hb2); (try clear hk); (try clear hi); (try clear ho0); have hnb28 := NB273_277.out; have hnc28 := NB277_273.out; have hcz29_0 : w27.cell? ⟨gb273, 0, none⟩ = some (.int .i64 a1_0) := (blk_cell BK273.out 0).trans rfl; have hcz29_1 : w27.cell? ⟨gb273, 1, none⟩ = some (.int .i64 a1_1) := (blk_cell BK273.out 1).trans rfl; have hcz29_2 : w27.cell? ⟨gb273, 2, none⟩ = some (.int .i64 a1_2) := (blk_cell BK273.out 2).trans rfl; have hcz29_3 : w27.cell? ⟨gb273, 3, none⟩ = some (.int .i64 a1_3) := (blk_cell BK273.out 3).trans rfl; have hcz29_4 : w27.cell? ⟨gb273, 4, none⟩ = some (.int .i64 a1_4) := (blk_cell BK273.out 4).trans rfl; have hcz29_5 : w27.cell? ⟨gb273, 5, none⟩ = some (.int .i64 a1_5) := (blk_cell BK273.out 5).trans rfl; have hcz29_6 : w27.cell? ⟨gb273, 6, none⟩ = some (.int .i64 a1_6) := (blk_cell BK273.out 6).trans rfl; have hcz29_7 : w27.cell? ⟨gb273, 7, none⟩ = some (.int .i64 a1_7) := (blk_cell BK273.out 7).trans rfl; have hcz29_8 : w27.cell? ⟨gb273, 8, none⟩ = some (.int .i64 a1_8) := (blk_cell BK273.out 8).trans rfl; have hfz29_0 := blk_frozen BK273.out 0; have hfz29_1 := blk_frozen BK273.out 1; have hfz29_2 := blk_frozen BK273.out 2; have hfz29_3 := blk_frozen BK273.out 3; have hfz29_4 := blk_frozen BK273.out 4; have hfz29_5 := blk_frozen BK273.out 5; have hfz29_6 := blk_frozen BK273.out 6; have hfz29_7 := blk_frozen BK273.out 7; have hfz29_8 := blk_frozen BK273.out 8) | ((with_reducible refine gate_dst (N := 33) rfl ?_); refine Kd.R_lit k39 _ 39 ?hg (N := 33) ?hd (xs := ([(⟨a1_0, a1_1, (⟨a1_2, a1_3, a1_4, (⟨a1_5, a1_6⟩ : S35), a1_7, a1_8⟩ : S37)⟩ : S39)] : List (S39))) (inner := [.int .i64 a1_0, .int .i64 a1_1, .int .i64 a1_2, .int .i64 a1_3, .int .i64 a1_4, .int .i64 a1_5, .int .i64 a1_6, .int .i64 a1_7, .int .i64 a1_8]) (ok := fun _ => True) (okp := fun _ => True) ?hr ?hp (fun _ hk => hk) trivial (Below.refl _ _) (Nat.le_refl _) (by simp) ?_; (case hd => rfl); (case hg => rfl); (case hr => first | (go_simp; done) | (go_simp; rfl)); (case hp => exact (Reps.c9 (show Kd.M k39 _ _ _ (⟨a1_0, a1_1, (⟨a1_2, a1_3, a1_4, (⟨a1_5, a1_6⟩ : S35), a1_7, a1_8⟩ : S37)⟩ : S39) [.int .i64 a1_0, .int .i64 a1_1, .int .i64 a1_2, .int .i64 a1_3, .int .i64 a1_4, .int .i64 a1_5, .int .i64 a1_6, .int .i64 a1_7, .int .i64 a1_8] from (k39_mkM _ _ _ (⟨a1_0, a1_1, (⟨a1_2, a1_3, a1_4, (⟨a1_5, a1_6⟩ : S35), a1_7, a1_8⟩ : S37)⟩ : S39) )) (Reps.none _ _))); intro v300 w30 ho31 hb hg_ hnew_; clear hg_ hnew_; (first | rw [← Ny299.out] at ho31 | (simp only [Int.reduceToNat] at ho31; rw [← Ny299.out] at ho31)); have n0_ := Aside0.mk (Kd.R_elder' (rq HO280.out) (Kd.R_base ho31) hb); have n1_ := Aside0.mk (Kd.R_elder' (rq HO284.out) (Kd.R_base ho31) hb); have n2_ := Aside0.mk (Kd.R_elder' (rq HO288.out) (Kd.R_base ho31) hb); have n3_ := Aside0.mk (Kd.R_elder' (rq HO292.out) (Kd.R_base ho31) hb); have n4_ := Aside0.mk (Kd.R_elder' (rq HO295.out) (Kd.R_base ho31) hb); have n5_ := Aside0.mk (Kd.R_elder' (rq HO298.out) (Kd.R_base ho31) hb); have n6_ := Aside0.mk (Kd.R_lower (Kd.R_newB (Kd.R_new' (Kd.R_new' (Kd.R_new' (Kd.R_new' (Kd.R_new' (Kd.R_new' ho31 (Kd.R_lt (rq HO280.out))) (Kd.R_lt (rq HO284.out))) (Kd.R_lt (rq HO288.out))) (Kd.R_lt (rq HO292.out))) (Kd.R_lt (rq HO295.out))) (Kd.R_lt (rq HO298.out))) (g := gb273) (o := .cells #[.int .i64 a1_0, .int .i64 a1_1, .int .i64 a1_2, .int .i64 a1_3, .int .i64 a1_4, .int .i64 a1_5, .int .i64 a1_6, .int .i64 a1_7, .int .i64 a1_8] 39 (0, 0)) (kq BK273.out)) (below_size (bq2 HB.out (IsS66.ge HI277.out) GE273.out))); have n7_ := Aside0.mk (blk_below (g := gb273) (o := .cells #[.int .i64 a1_0, .int .i64 a1_1, .int .i64 a1_2, .int .i64 a1_3, .int .i64 a1_4, .int .i64 a1_5, .int .i64 a1_6, .int .i64 a1_7, .int .i64 a1_8] 39 (0, 0)) (kq BK273.out) hb); have n8_ := Aside0.mk (IsS66.below (by repeat (first | (with_reducible first | exact HI277.out | apply IsS66.alloc | apply IsS66.drewN | apply IsS66.drew | apply IsS66.set_1 | refine IsS66.far ?_ NB277_273.out _) | exact HI277.out)) hb); have n9_ := Aside0.mk (below_step (bq2 HB.out (IsS66.ge HI277.out) GE273.out) hb); clear HO280; clear HO284; clear HO288; clear HO292; clear HO295; clear HO298; clear BK273; clear HI277; clear HB; have HO280 := n0_; have HO284 := n1_; have HO288 := n2_; have HO292 := n3_; have HO295 := n4_; have HO298 := n5_; have HO301 := n6_; have BK273 := n7_; have HI277 := n8_; have HB := n9_; clear n0_ n1_ n2_ n3_ n4_ n5_ n6_ n7_ n8_ n9_; clear hb ho31) | ((with_reducible refine gate_builtin (b := .append) (xs := #[.tmp 33, .tmp 34]) rfl ?_); at_builtin; refine Kd.R_append_rows k39 (w0 := w) w.heap.size rfl (.tmp 33) (.tmp 34) 24 39 (.agg #[(.int .i64 0), (.int .i64 0), (.int .i64 0), (.int .i64 0), (.int .i64 0), (.int .i64 0), (.int .i64 0), (.int .i64 0), (.int .i64 0)]) 72 rfl Try.underlying24 info39 rfl (by decide) (by omega) v300 y299 t278 _ _ _ (fun k_ => some k_ ≠ (.slice Ao21 t278.length co21 : Value).ownBlock ∧ some k_ ≠ (.slice Ao22 t282.length co22 : Value).ownBlock ∧ some k_ ≠ (.slice Ao24 t286.length co24 : Value).ownBlock ∧ some k_ ≠ (v291 : Value).ownBlock ∧ some k_ ≠ (.slice Ao26 t293.length co26 : Value).ownBlock ∧ some k_ ≠ (v297 : Value).ownBlock ∧ k_ ≠ gb273) (fun _ => False) rfl rfl ?aO ?aR (fun _ _ h => h) (fun _ h => h.elim) ?aF ?aB ?aS ?aL ?_; (case aR => repeat (first | exact (Kd.R_reads' HO280.out).2.2 | (with_reducible refine Kd.C_alloc ?_ _) | (with_reducible refine Kd.C_drewN ?_ _) | (with_reducible refine Kd.C_drew ?_))); (case aB => exact (bq2 HB.out (IsS66.ge HI277.out) GE273.out)); (case aF => exact (fun k_ hk => ⟨Kd.fresh' (Kd.R_lt (rq HO280.out)) k_ hk, Kd.fresh' (Kd.R_lt (rq HO284.out)) k_ hk, Kd.fresh' (Kd.R_lt (rq HO288.out)) k_ hk, Kd.fresh' (Kd.R_lt (rq HO292.out)) k_ hk, Kd.fresh' (Kd.R_lt (rq HO295.out)) k_ hk, Kd.fresh' (Kd.R_lt (rq HO298.out)) k_ hk, Kd.freshB (g := gb273) (o := .cells #[.int .i64 a1_0, .int .i64 a1_1, .int .i64 a1_2, .int .i64 a1_3, .int .i64 a1_4, .int .i64 a1_5, .int .i64 a1_6, .int .i64 a1_7, .int .i64 a1_8] 39 (0, 0)) (kq BK273.out) k_ hk⟩)); (case aO => exact (by (with_reducible repeat (first | apply Kd.R_alloc | apply Kd.R_drewN | apply Kd.R_drew)); exact Kd.R_mono HO301.out (fun _ hk => ⟨hk.1.1.1.1.1.1.2, ⟨hk.1.1.1.1.1.2, ⟨hk.1.1.1.1.2, ⟨hk.1.1.1.2, ⟨hk.1.1.2, ⟨hk.1.2, hk.2⟩⟩⟩⟩⟩⟩))); (case aS => exact (below_size (bq2 HB.out (IsS66.ge HI277.out) GE273.out))); (case aL => have := LMc12.out; omega); intro v303 w32 ho hb hg hat; rw [← Ny302.out] at ho; have n0_ := Aside0.mk (blk_grown (g := gb273) (o := .cells #[.int .i64 a1_0, .int .i64 a1_1, .int .i64 a1_2, .int .i64 a1_3, .int .i64 a1_4, .int .i64 a1_5, .int .i64 a1_6, .int .i64 a1_7, .int .i64 a1_8] 39 (0, 0)) (kq BK273.out) hg (Kd.R_away HO301.out (fun _ hk => hk.2))); have n1_ := Aside0.mk (IsS66.grown (by repeat (first | (with_reducible first | exact HI277.out | apply IsS66.alloc | apply IsS66.drewN | apply IsS66.drew | apply IsS66.set_1 | refine IsS66.far ?_ NB277_273.out _) | exact HI277.out)) hg (IsS66.own_ne HI277.out HO301.out (by decide))); have n2_ := Aside0.mk (Kd.R_after (ok := (fun k_ => some k_ ≠ (.slice Ao22 t282.length co22 : Value).ownBlock ∧ some k_ ≠ (.slice Ao24 t286.length co24 : Value).ownBlock ∧ some k_ ≠ (v291 : Value).ownBlock ∧ some k_ ≠ (.slice Ao26 t293.length co26 : Value).ownBlock ∧ some k_ ≠ (v297 : Value).ownBlock ∧ k_ ≠ gb273)) (by (with_reducible repeat (first | apply Kd.R_alloc | apply Kd.R_drewN | apply Kd.R_drew)); exact Kd.R_mono HO280.out (fun _ hk => ⟨⟨hk.1.1.1.1.1.2, ⟨hk.1.1.1.1.2, ⟨hk.1.1.1.2, ⟨hk.1.1.2, ⟨hk.1.2, hk.1.1.1.1.1.1.2⟩⟩⟩⟩⟩, hk.2⟩)) hg hat); have n3_ := Aside0.mk (Kd.R_after (ok := (fun k_ => some k_ ≠ (.slice Ao21 t278.length co21 : Value).ownBlock ∧ some k_ ≠ (.slice Ao24 t286.length co24 : Value).ownBlock ∧ some k_ ≠ (v291 : Value).ownBlock ∧ some k_ ≠ (.slice Ao26 t293.length co26 : Value).ownBlock ∧ some k_ ≠ (v297 : Value).ownBlock ∧ k_ ≠ gb273)) (by (with_reducible repeat (first | apply Kd.R_alloc | apply Kd.R_drewN | apply Kd.R_drew)); exact Kd.R_mono HO284.out (fun _ hk => ⟨⟨hk.1.1.1.1.1.1.2, ⟨hk.1.1.1.1.2, ⟨hk.1.1.1.2, ⟨hk.1.1.2, ⟨hk.1.2, hk.1.1.1.1.1.2⟩⟩⟩⟩⟩, hk.2⟩)) hg hat); have n4_ := Aside0.mk (Kd.R_after (ok := (fun k_ => some k_ ≠ (.slice Ao21 t278.length co21 : Value).ownBlock ∧ some k_ ≠ (.slice Ao22 t282.length co22 : Value).ownBlock ∧ some k_ ≠ (v291 : Value).ownBlock ∧ some k_ ≠ (.slice Ao26 t293.length co26 : Value).ownBlock ∧ some k_ ≠ (v297 : Value).ownBlock ∧ k_ ≠ gb273)) (by (with_reducible repeat (first | apply Kd.R_alloc | apply Kd.R_drewN | apply Kd.R_drew)); exact Kd.R_mono HO288.out (fun _ hk => ⟨⟨hk.1.1.1.1.1.1.2, ⟨hk.1.1.1.1.1.2, ⟨hk.1.1.1.2, ⟨hk.1.1.2, ⟨hk.1.2, hk.1.1.1.1.2⟩⟩⟩⟩⟩, hk.2⟩)) hg hat); have n5_ := Aside0.mk (Kd.R_after (ok := (fun k_ => some k_ ≠ (.slice Ao21 t278.length co21 : Value).ownBlock ∧ some k_ ≠ (.slice Ao22 t282.length co22 : Value).ownBlock ∧ some k_ ≠ (.slice Ao24 t286.length co24 : Value).ownBlock ∧ some k_ ≠ (.slice Ao26 t293.length co26 : Value).ownBlock ∧ some k_ ≠ (v297 : Value).ownBlock ∧ k_ ≠ gb273)) (by (with_reducible repeat (first | apply Kd.R_alloc | apply Kd.R_drewN | apply Kd.R_drew)); exact Kd.R_mono HO292.out (fun _ hk => ⟨⟨hk.1.1.1.1.1.1.2, ⟨hk.1.1.1.1.1.2, ⟨hk.1.1.1.1.2, ⟨hk.1.1.2, ⟨hk.1.2, hk.1.1.1.2⟩⟩⟩⟩⟩, hk.2⟩)) hg hat); have n6_ := Aside0.mk (Kd.R_after (ok := (fun k_ => some k_ ≠ (.slice Ao21 t278.length co21 : Value).ownBlock ∧ some k_ ≠ (.slice Ao22 t282.length co22 : Value).ownBlock ∧ some k_ ≠ (.slice Ao24 t286.length co24 : Value).ownBlock ∧ some k_ ≠ (v291 : Value).ownBlock ∧ some k_ ≠ (v297 : Value).ownBlock ∧ k_ ≠ gb273)) (by (with_reducible repeat (first | apply Kd.R_alloc | apply Kd.R_drewN | apply Kd.R_drew)); exact Kd.R_mono HO295.out (fun _ hk => ⟨⟨hk.1.1.1.1.1.1.2, ⟨hk.1.1.1.1.1.2, ⟨hk.1.1.1.1.2, ⟨hk.1.1.1.2, ⟨hk.1.2, hk.1.1.2⟩⟩⟩⟩⟩, hk.2⟩)) hg hat); have n7_ := Aside0.mk (Kd.R_after (ok := (fun k_ => some k_ ≠ (.slice Ao21 t278.length co21 : Value).ownBlock ∧ some k_ ≠ (.slice Ao22 t282.length co22 : Value).ownBlock ∧ some k_ ≠ (.slice Ao24 t286.length co24 : Value).ownBlock ∧ some k_ ≠ (v291 : Value).ownBlock ∧ some k_ ≠ (.slice Ao26 t293.length co26 : Value).ownBlock ∧ k_ ≠ gb273)) (by (with_reducible repeat (first | apply Kd.R_alloc | apply Kd.R_drewN | apply Kd.R_drew)); exact Kd.R_mono HO298.out (fun _ hk => ⟨⟨hk.1.1.1.1.1.1.2, ⟨hk.1.1.1.1.1.2, ⟨hk.1.1.1.1.2, ⟨hk.1.1.1.2, ⟨hk.1.1.2, hk.1.2⟩⟩⟩⟩⟩, hk.2⟩)) hg hat); have n8_ := Aside0.mk (hb); have n9_ := Aside0.mk (ho); clear BK273; clear HI277; clear HO280; clear HO284; clear HO288; clear HO292; clear HO295; clear HO298; clear HB; clear HO301; have BK273 := n0_; have HI277 := n1_; have HO280 := n2_; have HO284 := n3_; have HO288 := n4_; have HO292 := n5_; have HO295 := n6_; have HO298 := n7_; have HB := n8_; have HO304 := n9_; clear n0_ n1_ n2_ n3_ n4_ n5_ n6_ n7_ n8_ n9_; clear ho hb hg hat) | ((with_reducible refine gate_builtin (b := .append) (xs := #[.tmp 35, .tmp 36]) rfl ?_); at_builtin; refine Kd.R_append_rows k39 (w0 := w) w.heap.size rfl (.tmp 35) (.tmp 36) 24 39 (.agg #[(.int .i64 0), (.int .i64 0), (.int .i64 0), (.int .i64 0), (.int .i64 0), (.int .i64 0), (.int .i64 0), (.int .i64 0), (.int .i64 0)]) 72 rfl Try.underlying24 info39 rfl (by decide) (by omega) v303 y302 t282 _ _ _ (fun k_ => some k_ ≠ (.slice Ao21 t278.length co21 : Value).ownBlock ∧ some k_ ≠ (.slice Ao22 t282.length co22 : Value).ownBlock ∧ some k_ ≠ (.slice Ao24 t286.length co24 : Value).ownBlock ∧ some k_ ≠ (v291 : Value).ownBlock ∧ some k_ ≠ (.slice Ao26 t293.length co26 : Value).ownBlock ∧ some k_ ≠ (v297 : Value).ownBlock ∧ k_ ≠ gb273) (fun _ => False) rfl rfl ?aO ?aR (fun _ _ h => h) (fun _ h => h.elim) ?aF ?aB ?aS ?aL ?_; (case aR => repeat (first | exact (Kd.R_reads' HO284.out).2.2 | (with_reducible refine Kd.C_alloc ?_ _) | (with_reducible refine Kd.C_drewN ?_ _) | (with_reducible refine Kd.C_drew ?_))); (case aB => exact (bq2 HB.out (IsS66.ge HI277.out) GE273.out)); (case aF => exact (fun k_ hk => ⟨Kd.fresh' (Kd.R_lt (rq HO280.out)) k_ hk, Kd.fresh' (Kd.R_lt (rq HO284.out)) k_ hk, Kd.fresh' (Kd.R_lt (rq HO288.out)) k_ hk, Kd.fresh' (Kd.R_lt (rq HO292.out)) k_ hk, Kd.fresh' (Kd.R_lt (rq HO295.out)) k_ hk, Kd.fresh' (Kd.R_lt (rq HO298.out)) k_ hk, Kd.freshB (g := gb273) (o := .cells #[.int .i64 a1_0, .int .i64 a1_1, .int .i64 a1_2, .int .i64 a1_3, .int .i64 a1_4, .int .i64 a1_5, .int .i64 a1_6, .int .i64 a1_7, .int .i64 a1_8] 39 (0, 0)) (kq BK273.out) k_ hk⟩)); (case aO => exact (rq HO304.out)); (case aS => exact (below_size (bq2 HB.out (IsS66.ge HI277.out) GE273.out))); (case aL => have := LMc13.out; omega); intro v306 w33 ho hb hg hat; rw [← Ny305.out] at ho; have n0_ := Aside0.mk (blk_grown (g := gb273) (o := .cells #[.int .i64 a1_0, .int .i64 a1_1, .int .i64 a1_2, .int .i64 a1_3, .int .i64 a1_4, .int .i64 a1_5, .int .i64 a1_6, .int .i64 a1_7, .int .i64 a1_8] 39 (0, 0)) (kq BK273.out) hg (Kd.R_away HO304.out (fun _ hk => hk.2.2.2.2.2.2))); have n1_ := Aside0.mk (IsS66.grown (by repeat (first | (with_reducible first | exact HI277.out | apply IsS66.alloc | apply IsS66.drewN | apply IsS66.drew | apply IsS66.set_1 | refine IsS66.far ?_ NB277_273.out _) | exact HI277.out)) hg (IsS66.own_ne HI277.out HO304.out (by decide))); have n2_ := Aside0.mk (Kd.R_after (ok := (fun k_ => some k_ ≠ (.slice Ao22 t282.length co22 : Value).ownBlock ∧ some k_ ≠ (.slice Ao24 t286.length co24 : Value).ownBlock ∧ some k_ ≠ (v291 : Value).ownBlock ∧ some k_ ≠ (.slice Ao26 t293.length co26 : Value).ownBlock ∧ some k_ ≠ (v297 : Value).ownBlock ∧ k_ ≠ gb273)) (rq HO280.out) hg hat); have n3_ := Aside0.mk (Kd.R_after (ok := (fun k_ => some k_ ≠ (.slice Ao21 t278.length co21 : Value).ownBlock ∧ some k_ ≠ (.slice Ao24 t286.length co24 : Value).ownBlock ∧ some k_ ≠ (v291 : Value).ownBlock ∧ some k_ ≠ (.slice Ao26 t293.length co26 : Value).ownBlock ∧ some k_ ≠ (v297 : Value).ownBlock ∧ k_ ≠ gb273)) (rq HO284.out) hg hat); have n4_ := Aside0.mk (Kd.R_after (ok := (fun k_ => some k_ ≠ (.slice Ao21 t278.length co21 : Value).ownBlock ∧ some k_ ≠ (.slice Ao22 t282.length co22 : Value).ownBlock ∧ some k_ ≠ (v291 : Value).ownBlock ∧ some k_ ≠ (.slice Ao26 t293.length co26 : Value).ownBlock ∧ some k_ ≠ (v297 : Value).ownBlock ∧ k_ ≠ gb273)) (rq HO288.out) hg hat); have n5_ := Aside0.mk (Kd.R_after (ok := (fun k_ => some k_ ≠ (.slice Ao21 t278.length co21 : Value).ownBlock ∧ some k_ ≠ (.slice Ao22 t282.length co22 : Value).ownBlock ∧ some k_ ≠ (.slice Ao24 t286.length co24 : Value).ownBlock ∧ some k_ ≠ (.slice Ao26 t293.length co26 : Value).ownBlock ∧ some k_ ≠ (v297 : Value).ownBlock ∧ k_ ≠ gb273)) (rq HO292.out) hg hat); have n6_ := Aside0.mk (Kd.R_after (ok := (fun k_ => some k_ ≠ (.slice Ao21 t278.length co21 : Value).ownBlock ∧ some k_ ≠ (.slice Ao22 t282.length co22 : Value).ownBlock ∧ some k_ ≠ (.slice Ao24 t286.length co24 : Value).ownBlock ∧ some k_ ≠ (v291 : Value).ownBlock ∧ some k_ ≠ (v297 : Value).ownBlock ∧ k_ ≠ gb273)) (rq HO295.out) hg hat); have n7_ := Aside0.mk (Kd.R_after (ok := (fun k_ => some k_ ≠ (.slice Ao21 t278.length co21 : Value).ownBlock ∧ some k_ ≠ (.slice Ao22 t282.length co22 : Value).ownBlock ∧ some k_ ≠ (.slice Ao24 t286.length co24 : Value).ownBlock ∧ some k_ ≠ (v291 : Value).ownBlock ∧ some k_ ≠ (.slice Ao26 t293.length co26 : Value).ownBlock ∧ k_ ≠ gb273)) (rq HO298.out) hg hat); have n8_ := Aside0.mk (hb); have n9_ := Aside0.mk (ho); clear BK273; clear HI277; clear HO280; clear HO284; clear HO288; clear HO292; clear HO295; clear HO298; clear HB; clear HO304; have BK273 := n0_; have HI277 := n1_; have HO280 := n2_; have HO284 := n3_; have HO288 := n4_; have HO292 := n5_; have HO295 := n6_; have HO298 := n7_; have HB := n8_; have HO307 := n9_; clear n0_ n1_ n2_ n3_ n4_ n5_ n6_ n7_ n8_ n9_; clear ho hb hg hat) | ((with_reducible refine gate_builtin (b := .append) (xs := #[.tmp 37, .tmp 38]) rfl ?_); at_builtin; refine Kd.R_append_rows k39 (w0 := w) w.heap.size rfl (.tmp 37) (.tmp 38) 24 39 (.agg #[(.int .i64 0), (.int .i64 0), (.int .i64 0), (.int .i64 0), (.int .i64 0), (.int .i64 0), (.int .i64 0), (.int .i64 0), (.int .i64 0)]) 72 rfl Try.underlying24 info39 rfl (by decide) (by omega) v306 y305 t286 _ _ _ (fun k_ => some k_ ≠ (.slice Ao21 t278.length co21 : Value).ownBlock ∧ some k_ ≠ (.slice Ao22 t282.length co22 : Value).ownBlock ∧ some k_ ≠ (.slice Ao24 t286.length co24 : Value).ownBlock ∧ some k_ ≠ (v291 : Value).ownBlock ∧ some k_ ≠ (.slice Ao26 t293.length co26 : Value).ownBlock ∧ some k_ ≠ (v297 : Value).ownBlock ∧ k_ ≠ gb273) (fun _ => False) rfl rfl ?aO ?aR (fun _ _ h => h) (fun _ h => h.elim) ?aF ?aB ?aS ?aL ?_; (case aR => repeat (first | exact (Kd.R_reads' HO288.out).2.2 | (with_reducible refine Kd.C_alloc ?_ _) | (with_reducible refine Kd.C_drewN ?_ _) | (with_reducible refine Kd.C_drew ?_))); (case aB => exact (bq2 HB.out (IsS66.ge HI277.out) GE273.out)); (case aF => exact (fun k_ hk => ⟨Kd.fresh' (Kd.R_lt (rq HO280.out)) k_ hk, Kd.fresh' (Kd.R_lt (rq HO284.out)) k_ hk, Kd.fresh' (Kd.R_lt (rq HO288.out)) k_ hk, Kd.fresh' (Kd.R_lt (rq HO292.out)) k_ hk, Kd.fresh' (Kd.R_lt (rq HO295.out)) k_ hk, Kd.fresh' (Kd.R_lt (rq HO298.out)) k_ hk, Kd.freshB (g := gb273) (o := .cells #[.int .i64 a1_0, .int .i64 a1_1, .int .i64 a1_2, .int .i64 a1_3, .int .i64 a1_4, .int .i64 a1_5, .int .i64 a1_6, .int .i64 a1_7, .int .i64 a1_8] 39 (0, 0)) (kq BK273.out) k_ hk⟩)); (case aO => exact (rq HO307.out)); (case aS => exact (below_size (bq2 HB.out (IsS66.ge HI277.out) GE273.out))); (case aL => have := LMc14.out; omega); intro v309 w34 ho hb hg hat; rw [← Ny308.out] at ho; have n0_ := Aside0.mk (blk_grown (g := gb273) (o := .cells #[.int .i64 a1_0, .int .i64 a1_1, .int .i64 a1_2, .int .i64 a1_3, .int .i64 a1_4, .int .i64 a1_5, .int .i64 a1_6, .int .i64 a1_7, .int .i64 a1_8] 39 (0, 0)) (kq BK273.out) hg (Kd.R_away HO307.out (fun _ hk => hk.2.2.2.2.2.2))); have n1_ := Aside0.mk (IsS66.grown (by repeat (first | (with_reducible first | exact HI277.out | apply IsS66.alloc | apply IsS66.drewN | apply IsS66.drew | apply IsS66.set_1 | refine IsS66.far ?_ NB277_273.out _) | exact HI277.out)) hg (IsS66.own_ne HI277.out HO307.out (by decide))); have n2_ := Aside0.mk (Kd.R_after (ok := (fun k_ => some k_ ≠ (.slice Ao22 t282.length co22 : Value).ownBlock ∧ some k_ ≠ (.slice Ao24 t286.length co24 : Value).ownBlock ∧ some k_ ≠ (v291 : Value).ownBlock ∧ some k_ ≠ (.slice Ao26 t293.length co26 : Value).ownBlock ∧ some k_ ≠ (v297 : Value).ownBlock ∧ k_ ≠ gb273)) (rq HO280.out) hg hat); have n3_ := Aside0.mk (Kd.R_after (ok := (fun k_ => some k_ ≠ (.slice Ao21 t278.length co21 : Value).ownBlock ∧ some k_ ≠ (.slice Ao24 t286.length co24 : Value).ownBlock ∧ some k_ ≠ (v291 : Value).ownBlock ∧ some k_ ≠ (.slice Ao26 t293.length co26 : Value).ownBlock ∧ some k_ ≠ (v297 : Value).ownBlock ∧ k_ ≠ gb273)) (rq HO284.out) hg hat); have n4_ := Aside0.mk (Kd.R_after (ok := (fun k_ => some k_ ≠ (.slice Ao21 t278.length co21 : Value).ownBlock ∧ some k_ ≠ (.slice Ao22 t282.length co22 : Value).ownBlock ∧ some k_ ≠ (v291 : Value).ownBlock ∧ some k_ ≠ (.slice Ao26 t293.length co26 : Value).ownBlock ∧ some k_ ≠ (v297 : Value).ownBlock ∧ k_ ≠ gb273)) (rq HO288.out) hg hat); have n5_ := Aside0.mk (Kd.R_after (ok := (fun k_ => some k_ ≠ (.slice Ao21 t278.length co21 : Value).ownBlock ∧ some k_ ≠ (.slice Ao22 t282.length co22 : Value).ownBlock ∧ some k_ ≠ (.slice Ao24 t286.length co24 : Value).ownBlock ∧ some k_ ≠ (.slice Ao26 t293.length co26 : Value).ownBlock ∧ some k_ ≠ (v297 : Value).ownBlock ∧ k_ ≠ gb273)) (rq HO292.out) hg hat); have n6_ := Aside0.mk (Kd.R_after (ok := (fun k_ => some k_ ≠ (.slice Ao21 t278.length co21 : Value).ownBlock ∧ some k_ ≠ (.slice Ao22 t282.length co22 : Value).ownBlock ∧ some k_ ≠ (.slice Ao24 t286.length co24 : Value).ownBlock ∧ some k_ ≠ (v291 : Value).ownBlock ∧ some k_ ≠ (v297 : Value).ownBlock ∧ k_ ≠ gb273)) (rq HO295.out) hg hat); have n7_ := Aside0.mk (Kd.R_after (ok := (fun k_ => some k_ ≠ (.slice Ao21 t278.length co21 : Value).ownBlock ∧ some k_ ≠ (.slice Ao22 t282.length co22 : Value).ownBlock ∧ some k_ ≠ (.slice Ao24 t286.length co24 : Value).ownBlock ∧ some k_ ≠ (v291 : Value).ownBlock ∧ some k_ ≠ (.slice Ao26 t293.length co26 : Value).ownBlock ∧ k_ ≠ gb273)) (rq HO298.out) hg hat); have n8_ := Aside0.mk (hb); have n9_ := Aside0.mk (ho); clear BK273; clear HI277; clear HO280; clear HO284; clear HO288; clear HO292; clear HO295; clear HO298; clear HB; clear HO307; have BK273 := n0_; have HI277 := n1_; have HO280 := n2_; have HO284 := n3_; have HO288 := n4_; have HO292 := n5_; have HO295 := n6_; have HO298 := n7_; have HB := n8_; have HO310 := n9_; clear n0_ n1_ n2_ n3_ n4_ n5_ n6_ n7_ n8_ n9_; clear ho hb hg hat))
 go_loopg [12] k (fun kq v12 w' => ∃ (x12_1 : Int), v12 = .int .i64 x12_1 ∧ Aside0 (rollbacknetlaw27_DeterminantUnions.l0 kq t278 t282 t286 t290 t296 y308 x12_1 a1_0 a1_1 a1_2 a1_3 a1_4 a1_5 a1_6 a1_7 a1_8 = some r) ∧ Aside0 (kq ≤ k) ∧ Aside0 (Kd.R k39 39 w' w.heap.size (fun k_ => some k_ ≠ ((.slice Ao22 t282.length co22) : Value).ownBlock ∧ some k_ ≠ ((.slice Ao24 t286.length co24) : Value).ownBlock ∧ some k_ ≠ (v291 : Value).ownBlock ∧ some k_ ≠ (v297 : Value).ownBlock ∧ some k_ ≠ (v309 : Value).ownBlock ∧ k_ ≠ gb273) (.slice Ao21 t278.length co21) t278) ∧ Aside0 (Kd.R k39 39 w' w.heap.size (fun k_ => some k_ ≠ ((.slice Ao21 t278.length co21) : Value).ownBlock ∧ some k_ ≠ ((.slice Ao24 t286.length co24) : Value).ownBlock ∧ some k_ ≠ (v291 : Value).ownBlock ∧ some k_ ≠ (v297 : Value).ownBlock ∧ some k_ ≠ (v309 : Value).ownBlock ∧ k_ ≠ gb273) (.slice Ao22 t282.length co22) t282) ∧ Aside0 (Kd.R k39 39 w' w.heap.size (fun k_ => some k_ ≠ ((.slice Ao21 t278.length co21) : Value).ownBlock ∧ some k_ ≠ ((.slice Ao22 t282.length co22) : Value).ownBlock ∧ some k_ ≠ (v291 : Value).ownBlock ∧ some k_ ≠ (v297 : Value).ownBlock ∧ some k_ ≠ (v309 : Value).ownBlock ∧ k_ ≠ gb273) (.slice Ao24 t286.length co24) t286) ∧ Aside0 (Kd.R k39 39 w' w.heap.size (fun k_ => some k_ ≠ ((.slice Ao21 t278.length co21) : Value).ownBlock ∧ some k_ ≠ ((.slice Ao22 t282.length co22) : Value).ownBlock ∧ some k_ ≠ ((.slice Ao24 t286.length co24) : Value).ownBlock ∧ some k_ ≠ (v297 : Value).ownBlock ∧ some k_ ≠ (v309 : Value).ownBlock ∧ k_ ≠ gb273) v291 t290) ∧ Aside0 (Kd.R k39 39 w' w.heap.size (fun k_ => some k_ ≠ ((.slice Ao21 t278.length co21) : Value).ownBlock ∧ some k_ ≠ ((.slice Ao22 t282.length co22) : Value).ownBlock ∧ some k_ ≠ ((.slice Ao24 t286.length co24) : Value).ownBlock ∧ some k_ ≠ (v291 : Value).ownBlock ∧ some k_ ≠ (v309 : Value).ownBlock ∧ k_ ≠ gb273) v297 t296) ∧ Aside0 (Kd.R k39 39 w' w.heap.size (fun k_ => some k_ ≠ ((.slice Ao21 t278.length co21) : Value).ownBlock ∧ some k_ ≠ ((.slice Ao22 t282.length co22) : Value).ownBlock ∧ some k_ ≠ ((.slice Ao24 t286.length co24) : Value).ownBlock ∧ some k_ ≠ (v291 : Value).ownBlock ∧ some k_ ≠ (v297 : Value).ownBlock ∧ k_ ≠ gb273) v309 y308) ∧ Aside0 (w'.heap[gb273]? = some (.cells #[.int .i64 a1_0, .int .i64 a1_1, .int .i64 a1_2, .int .i64 a1_3, .int .i64 a1_4, .int .i64 a1_5, .int .i64 a1_6, .int .i64 a1_7, .int .i64 a1_8] 39 (0, 0))) ∧ Aside0 (Below w.heap.size w w'))
 case atStart => exact ⟨(0), (by first | rfl | (simp; done) | (simp [*]; done)), H', ⟨Nat.le_refl _⟩, ⟨by (with_reducible repeat (first | apply Kd.R_alloc | apply Kd.R_drewN | apply Kd.R_drew)); exact Kd.R_mono HO280.out (fun _ hk => ⟨hk.1.1, ⟨hk.1.2.1, ⟨hk.1.2.2.1, ⟨hk.1.2.2.2.2.1, ⟨hk.2, hk.1.2.2.2.2.2⟩⟩⟩⟩⟩)⟩, ⟨by (with_reducible repeat (first | apply Kd.R_alloc | apply Kd.R_drewN | apply Kd.R_drew)); exact Kd.R_mono HO284.out (fun _ hk => ⟨hk.1.1, ⟨hk.1.2.1, ⟨hk.1.2.2.1, ⟨hk.1.2.2.2.2.1, ⟨hk.2, hk.1.2.2.2.2.2⟩⟩⟩⟩⟩)⟩, ⟨by (with_reducible repeat (first | apply Kd.R_alloc | apply Kd.R_drewN | apply Kd.R_drew)); exact Kd.R_mono HO288.out (fun _ hk => ⟨hk.1.1, ⟨hk.1.2.1, ⟨hk.1.2.2.1, ⟨hk.1.2.2.2.2.1, ⟨hk.2, hk.1.2.2.2.2.2⟩⟩⟩⟩⟩)⟩, ⟨by (with_reducible repeat (first | apply Kd.R_alloc | apply Kd.R_drewN | apply Kd.R_drew)); exact Kd.R_mono HO292.out (fun _ hk => ⟨hk.1.1, ⟨hk.1.2.1, ⟨hk.1.2.2.1, ⟨hk.1.2.2.2.2.1, ⟨hk.2, hk.1.2.2.2.2.2⟩⟩⟩⟩⟩)⟩, ⟨by (with_reducible repeat (first | apply Kd.R_alloc | apply Kd.R_drewN | apply Kd.R_drew)); exact Kd.R_mono HO298.out (fun _ hk => ⟨hk.1.1, ⟨hk.1.2.1, ⟨hk.1.2.2.1, ⟨hk.1.2.2.2.1, ⟨hk.2, hk.1.2.2.2.2.2⟩⟩⟩⟩⟩)⟩, ⟨by (with_reducible repeat (first | apply Kd.R_alloc | apply Kd.R_drewN | apply Kd.R_drew)); exact Kd.R_mono HO310.out (fun _ hk => ⟨hk.1, ⟨hk.2.1, ⟨hk.2.2.1, ⟨hk.2.2.2.1, ⟨hk.2.2.2.2.2.1, hk.2.2.2.2.2.2⟩⟩⟩⟩⟩)⟩, ⟨kq BK273.out⟩, ⟨bq2 HB.out (IsS66.ge HI277.out) GE273.out⟩⟩
 case round =>(
 clear H'
 try clear c1
 try clear c2
 try clear p2
 try clear c4
 try clear c9
 try clear c12
 try clear c13
 try clear c14
 try clear c23
 try clear c24
 try clear c25
 try clear c28
 try clear hcz29_0
 try clear hcz29_1
 try clear hcz29_2
 try clear hcz29_3
 try clear hcz29_4
 try clear hcz29_5
 try clear hcz29_6
 try clear hcz29_7
 try clear hcz29_8
 try clear hfz29_0
 try clear hfz29_1
 try clear hfz29_2
 try clear hfz29_3
 try clear hfz29_4
 try clear hfz29_5
 try clear hfz29_6
 try clear hfz29_7
 try clear hfz29_8
 obtain ⟨x12_1, rfl, HA, HK1, HO_6, HO_7, HO_8, HO_9, HO_10, HO_11, BK273, HB⟩ := hrel
 cases gk with
 | zero => exact absurd HA.out (by simp [rollbacknetlaw27_DeterminantUnions.l0])
 | succ k1 =>(
 have H := HA.out
 clear HA
 simp only [rollbacknetlaw27_DeterminantUnions.l0] at H
 by_cases c35 : x12_1 < (y308.length : Int)
 ·(
 rw [if_pos c35] at H
 have c35b0 : decide (x12_1 < (y308.length : Int)) = true := decide_eq_true c35
 clear c35
 by_cases c36 : 0 ≤ x12_1
 ·(
 rw [if_pos c36] at H
 have c36b0 : decide (0 ≤ x12_1) = true := decide_eq_true c36
 clear c36
 replace H := Option.bind_eq_some_iff.mp H
 obtain ⟨t312, A370, H⟩ := H
 replace H : ((determinant_Has.f k1 t278 ((rd_T39 y308 x12_1).f0) ((rd_T39 y308 x12_1).f1) ((rd_T39 y308 x12_1).f2.f0) ((rd_T39 y308 x12_1).f2.f1) ((rd_T39 y308 x12_1).f2.f2) ((rd_T39 y308 x12_1).f2.f3.f0) ((rd_T39 y308 x12_1).f2.f3.f1) ((rd_T39 y308 x12_1).f2.f4) ((rd_T39 y308 x12_1).f2.f5)).bind fun t314 => (if t314 = true then (if (t312 != true) = true then (some false) else (rollbacknetlaw27_DeterminantUnions.l0 k1 t278 t282 t286 t290 t296 y308 (wrap64 (x12_1 + 1)) a1_0 a1_1 a1_2 a1_3 a1_4 a1_5 a1_6 a1_7 a1_8)) else ((determinant_Has.f k1 t282 ((rd_T39 y308 x12_1).f0) ((rd_T39 y308 x12_1).f1) ((rd_T39 y308 x12_1).f2.f0) ((rd_T39 y308 x12_1).f2.f1) ((rd_T39 y308 x12_1).f2.f2) ((rd_T39 y308 x12_1).f2.f3.f0) ((rd_T39 y308 x12_1).f2.f3.f1) ((rd_T39 y308 x12_1).f2.f4) ((rd_T39 y308 x12_1).f2.f5)).bind fun t316 => (if (t312 != t316) = true then (some false) else (rollbacknetlaw27_DeterminantUnions.l0 k1 t278 t282 t286 t290 t296 y308 (wrap64 (x12_1 + 1)) a1_0 a1_1 a1_2 a1_3 a1_4 a1_5 a1_6 a1_7 a1_8))))) = some r := H
 have A37 := Aside0.mk A370
 clear A370
 replace H := Option.bind_eq_some_iff.mp H
 obtain ⟨t314, A380, H⟩ := H
 replace H : (if t314 = true then (if (t312 != true) = true then (some false) else (rollbacknetlaw27_DeterminantUnions.l0 k1 t278 t282 t286 t290 t296 y308 (wrap64 (x12_1 + 1)) a1_0 a1_1 a1_2 a1_3 a1_4 a1_5 a1_6 a1_7 a1_8)) else ((determinant_Has.f k1 t282 ((rd_T39 y308 x12_1).f0) ((rd_T39 y308 x12_1).f1) ((rd_T39 y308 x12_1).f2.f0) ((rd_T39 y308 x12_1).f2.f1) ((rd_T39 y308 x12_1).f2.f2) ((rd_T39 y308 x12_1).f2.f3.f0) ((rd_T39 y308 x12_1).f2.f3.f1) ((rd_T39 y308 x12_1).f2.f4) ((rd_T39 y308 x12_1).f2.f5)).bind fun t316 => (if (t312 != t316) = true then (some false) else (rollbacknetlaw27_DeterminantUnions.l0 k1 t278 t282 t286 t290 t296 y308 (wrap64 (x12_1 + 1)) a1_0 a1_1 a1_2 a1_3 a1_4 a1_5 a1_6 a1_7 a1_8)))) = some r := H
 have A38 := Aside0.mk A380
 clear A380
 by_cases c39 : t314 = true
 ·(
 subst c39
 have H1 : (if (t312 != true) = true then (some false) else (rollbacknetlaw27_DeterminantUnions.l0 k1 t278 t282 t286 t290 t296 y308 (wrap64 (x12_1 + 1)) a1_0 a1_1 a1_2 a1_3 a1_4 a1_5 a1_6 a1_7 a1_8)) = some r := by rw [if_pos rfl] at H; exact H
 clear H
 have H := H1
 clear H1
 by_cases c40 : (t312 != true) = true
 ·(
 rw [if_pos c40] at H
 have c40b0 : (t312 != true) = true := c40
 (try (have c40b1 : decide (t312 = true) = false := by simpa using c40))
 (try (have c40b2 : (t312 == true) = false := by simpa using c40))
 (try (have c40b3 : ¬ (t312 = true) := by simpa using c40))
 clear c40
 obtain rfl := Option.some.inj H
 obtain ⟨Ao41, co41, eo41⟩ := Kd.R_slice HO_11.out
 subst eo41
 try go_wp2
 have n0_ := Aside0.mk (Kd.R_drew HO_6.out)
 have n1_ := Aside0.mk (Kd.R_drew HO_7.out)
 have n2_ := Aside0.mk (Kd.R_drew HO_8.out)
 have n3_ := Aside0.mk (Kd.R_drew HO_9.out)
 have n4_ := Aside0.mk (Kd.R_drew HO_10.out)
 have n5_ := Aside0.mk (Kd.R_drew HO_11.out)
 have n6_ := Aside0.mk (blk_drew BK273.out)
 have n7_ := Aside0.mk (below_drew1 HB.out)
 clear HO_6
 clear HO_7
 clear HO_8
 clear HO_9
 clear HO_10
 clear HO_11
 clear BK273
 clear HB
 have HO_6 := n0_
 have HO_7 := n1_
 have HO_8 := n2_
 have HO_9 := n3_
 have HO_10 := n4_
 have HO_11 := n5_
 have BK273 := n6_
 have HB := n7_
 clear n0_ n1_ n2_ n3_ n4_ n5_ n6_ n7_
 have p311 : 0 ≤ (x12_1 : Int) := of_decide_eq_true (by first | (with_reducible assumption) | assumption)
 have q311 : x12_1 < (y308.length : Int) := of_decide_eq_true (by first | (with_reducible assumption) | assumption)
 obtain ⟨ad311, e311, hx311_0, hx311_1, hx311_2, hx311_3, hx311_4, hx311_5, hx311_6, hx311_7, hx311_8⟩ := at_T39 (Kd.R_reads' HO_11.out).2.2 x12_1 p311 q311
 cases e311
 replace p311 := eq_true p311
 replace q311 := eq_true q311
 have p313 : 0 ≤ (x12_1 : Int) := of_decide_eq_true (by first | (with_reducible assumption) | assumption)
 have q313 : x12_1 < (y308.length : Int) := of_decide_eq_true (by first | (with_reducible assumption) | assumption)
 obtain ⟨ad313, e313, hx313_0, hx313_1, hx313_2, hx313_3, hx313_4, hx313_5, hx313_6, hx313_7, hx313_8⟩ := at_T39 (Kd.R_reads' HO_11.out).2.2 x12_1 p313 q313
 obtain rfl : ad311 = ad313 := (by injection e313)
 replace p313 := eq_true p313
 replace q313 := eq_true q313
 obtain ⟨Ao43, co43, eo43⟩ := Kd.R_slice HO_9.out
 (first | subst eo43 | (injection eo43 with f1_ f2_ f3_; have f4_ := f1_.symm; have f5_ := f3_.symm; clear f1_ f2_ f3_; subst f4_; subst f5_))
 refine start_ (n := 21) (S := fun w' => w'.cell? (ad311.add ((x12_1).toNat * 9)) = some (.int .i64 ((rd_T39 y308 x12_1).f0)) ∧ w'.cell? ⟨(ad311.add ((x12_1).toNat * 9)).block, (ad311.add ((x12_1).toNat * 9)).off + 1, none⟩ = some (.int .i64 ((rd_T39 y308 x12_1).f1)) ∧ w'.cell? ⟨(ad311.add ((x12_1).toNat * 9)).block, (ad311.add ((x12_1).toNat * 9)).off + 2, none⟩ = some (.int .i64 ((rd_T39 y308 x12_1).f2.f0)) ∧ w'.cell? ⟨(ad311.add ((x12_1).toNat * 9)).block, (ad311.add ((x12_1).toNat * 9)).off + 3, none⟩ = some (.int .i64 ((rd_T39 y308 x12_1).f2.f1)) ∧ w'.cell? ⟨(ad311.add ((x12_1).toNat * 9)).block, (ad311.add ((x12_1).toNat * 9)).off + 4, none⟩ = some (.int .i64 ((rd_T39 y308 x12_1).f2.f2)) ∧ w'.cell? ⟨(ad311.add ((x12_1).toNat * 9)).block, (ad311.add ((x12_1).toNat * 9)).off + 5, none⟩ = some (.int .i64 ((rd_T39 y308 x12_1).f2.f3.f0)) ∧ w'.cell? ⟨(ad311.add ((x12_1).toNat * 9)).block, (ad311.add ((x12_1).toNat * 9)).off + 6, none⟩ = some (.int .i64 ((rd_T39 y308 x12_1).f2.f3.f1)) ∧ w'.cell? ⟨(ad311.add ((x12_1).toNat * 9)).block, (ad311.add ((x12_1).toNat * 9)).off + 7, none⟩ = some (.int .i64 ((rd_T39 y308 x12_1).f2.f4)) ∧ w'.cell? ⟨(ad311.add ((x12_1).toNat * 9)).block, (ad311.add ((x12_1).toNat * 9)).off + 8, none⟩ = some (.int .i64 ((rd_T39 y308 x12_1).f2.f5)) ∧ w'.cell? (ad311.add ((x12_1).toNat * 9)) = some (.int .i64 ((rd_T39 y308 x12_1).f0)) ∧ w'.cell? ⟨(ad311.add ((x12_1).toNat * 9)).block, (ad311.add ((x12_1).toNat * 9)).off + 1, none⟩ = some (.int .i64 ((rd_T39 y308 x12_1).f1)) ∧ w'.cell? ⟨(ad311.add ((x12_1).toNat * 9)).block, (ad311.add ((x12_1).toNat * 9)).off + 2, none⟩ = some (.int .i64 ((rd_T39 y308 x12_1).f2.f0)) ∧ w'.cell? ⟨(ad311.add ((x12_1).toNat * 9)).block, (ad311.add ((x12_1).toNat * 9)).off + 3, none⟩ = some (.int .i64 ((rd_T39 y308 x12_1).f2.f1)) ∧ w'.cell? ⟨(ad311.add ((x12_1).toNat * 9)).block, (ad311.add ((x12_1).toNat * 9)).off + 4, none⟩ = some (.int .i64 ((rd_T39 y308 x12_1).f2.f2)) ∧ w'.cell? ⟨(ad311.add ((x12_1).toNat * 9)).block, (ad311.add ((x12_1).toNat * 9)).off + 5, none⟩ = some (.int .i64 ((rd_T39 y308 x12_1).f2.f3.f0)) ∧ w'.cell? ⟨(ad311.add ((x12_1).toNat * 9)).block, (ad311.add ((x12_1).toNat * 9)).off + 6, none⟩ = some (.int .i64 ((rd_T39 y308 x12_1).f2.f3.f1)) ∧ w'.cell? ⟨(ad311.add ((x12_1).toNat * 9)).block, (ad311.add ((x12_1).toNat * 9)).off + 7, none⟩ = some (.int .i64 ((rd_T39 y308 x12_1).f2.f4)) ∧ w'.cell? ⟨(ad311.add ((x12_1).toNat * 9)).block, (ad311.add ((x12_1).toNat * 9)).off + 8, none⟩ = some (.int .i64 ((rd_T39 y308 x12_1).f2.f5))) (ds := []) #[false, false, false, false, false, false, false, false, false, false, false, false, false, false, false, false, false, false, false, false, false] (by kernel_rfl) rfl rfl ⟨hx311_0, hx311_1, hx311_2, hx311_3, hx311_4, hx311_5, hx311_6, hx311_7, hx311_8, hx313_0, hx313_1, hx313_2, hx313_3, hx313_4, hx313_5, hx313_6, hx313_7, hx313_8⟩ (fun hHeld => ?_); refine with_tabW rollbacknetlaw27_DeterminantUnions.tab11 rollbacknetlaw27_DeterminantUnions.bits11 (fun HT_ HW_ => ?_)
 generalize wr.drew = w42 at HO_6 HO_7 HO_8 HO_9 HO_10 HO_11 BK273 HB hx311_0 hx311_1 hx311_2 hx311_3 hx311_4 hx311_5 hx311_6 hx311_7 hx311_8 hx313_0 hx313_1 hx313_2 hx313_3 hx313_4 hx313_5 hx313_6 hx313_7 hx313_8 hHeld ⊢
 refine pur HT_.out 0 (some 46) (bm 21 1) ?_
 refine pur HT_.out 1 (some 47) (bm 21 3) ?_
 refine pur HT_.out 2 (some 48) (bm 21 7) ?_
 refine pur HT_.out 3 (some 49) (bm 21 15) ?_
 refine pur HT_.out 6 (some 52) (bm 21 79) ?_
 refine pur HT_.out 7 (some 53) (bm 21 207) ?_
 refine pur HT_.out 8 (some 54) (bm 21 463) ?_
 refine pur HT_.out 9 (some 55) (bm 21 975) ?_
 refine take_ (i := 4) (N := some 50) (v := ?_) (a' := ?_) #[true, true, true, true, true, false, true, true, true, true, false, false, false, false, false, false, false, false, false, false, false] rfl rfl (take_ofW HT_.out HW_.out (by kernel_rfl)) (fun _ _ _ h => h) (Or.inl ⟨by rfl, ?_⟩) hHeld ?_ ?_
 rotate_left
 ·(
 rintro w' ⟨s0, s1, s2, s3, s4, s5, s6, s7, s8, s9, s10, s11, s12, s13, s14, s15, s16, s17⟩
 go_simp
 with_reducible rfl)
 rotate_left
 ·(
 simp only [Act.put, List.setIfInBounds_toArray, List.set_cons_zero, List.set_cons_succ, i64_w, i32_w]
 rfl)
 refine take_ (i := 10) (N := some 56) (v := ?_) (a' := ?_) #[true, true, true, true, true, false, true, true, true, true, true, false, false, false, false, false, false, false, false, false, false] rfl rfl (take_ofW HT_.out HW_.out (by kernel_rfl)) (fun _ _ _ h => h) (Or.inl ⟨by rfl, ?_⟩) hHeld ?_ ?_
 rotate_left
 ·(
 rintro w' ⟨s0, s1, s2, s3, s4, s5, s6, s7, s8, s9, s10, s11, s12, s13, s14, s15, s16, s17⟩
 go_simp
 with_reducible rfl)
 rotate_left
 ·(
 simp only [Act.put, List.setIfInBounds_toArray, List.set_cons_zero, List.set_cons_succ, i64_w, i32_w]
 rfl)
 refine one_ (i := 5) (N := some 51) #[true, true, true, true, true, true, true, true, true, true, true, false, false, false, false, false, false, false, false, false, false] rfl rfl (one_of HT_.out (by kernel_rfl)) (by decide) (fun K hK => ?_)
 refine goes_ Try.func29 (by kernel_rfl) rfl #[.slice Ao43 t290.length co43, .agg #[.int .i64 ((rd_T39 y308 x12_1).f0), .int .i64 ((rd_T39 y308 x12_1).f1), .int .i64 ((rd_T39 y308 x12_1).f2.f0), .int .i64 ((rd_T39 y308 x12_1).f2.f1), .int .i64 ((rd_T39 y308 x12_1).f2.f2), .int .i64 ((rd_T39 y308 x12_1).f2.f3.f0), .int .i64 ((rd_T39 y308 x12_1).f2.f3.f1), .int .i64 ((rd_T39 y308 x12_1).f2.f4), .int .i64 ((rd_T39 y308 x12_1).f2.f5)]] (by first | rfl | (refine wanted_on rfl rfl rfl ?_; first | assumption | (simp [*]; done))) rfl rfl (by (try simp only [List.map_toArray, List.map_cons, List.map_nil]); first | done | rfl | (simp only [List.length_drop, List.length_take]; rfl)) ?_
 with_reducible refine (determinant_Has.calls k1 _ _ t290 ((rd_T39 y308 x12_1).f0) ((rd_T39 y308 x12_1).f1) ((rd_T39 y308 x12_1).f2.f0) ((rd_T39 y308 x12_1).f2.f1) ((rd_T39 y308 x12_1).f2.f2) ((rd_T39 y308 x12_1).f2.f3.f0) ((rd_T39 y308 x12_1).f2.f3.f1) ((rd_T39 y308 x12_1).f2.f4) ((rd_T39 y308 x12_1).f2.f5) t312 _ ?side1 ?side2 A37.out).mono ?_
 (case side1 => repeat (first | exact (Kd.R_reads' HO_9.out).2.2 | (with_reducible refine Kd.C_alloc ?_ _) | (with_reducible refine Kd.C_drewN ?_ _) | (with_reducible refine Kd.C_drew ?_)))
 (case side2 => exact (Kd.R_reads' HO_9.out).2.1)
 rintro e w44 ⟨rfl, hb⟩
 have HS0_ := (hb.cell (World.block_lt_of_cell? _ _ (hHeld.1))).trans (hHeld.1)
 have HS1_ := (hb.cell (World.block_lt_of_cell? _ _ (hHeld.2.1))).trans (hHeld.2.1)
 have HS2_ := (hb.cell (World.block_lt_of_cell? _ _ (hHeld.2.2.1))).trans (hHeld.2.2.1)
 have HS3_ := (hb.cell (World.block_lt_of_cell? _ _ (hHeld.2.2.2.1))).trans (hHeld.2.2.2.1)
 have HS4_ := (hb.cell (World.block_lt_of_cell? _ _ (hHeld.2.2.2.2.1))).trans (hHeld.2.2.2.2.1)
 have HS5_ := (hb.cell (World.block_lt_of_cell? _ _ (hHeld.2.2.2.2.2.1))).trans (hHeld.2.2.2.2.2.1)
 have HS6_ := (hb.cell (World.block_lt_of_cell? _ _ (hHeld.2.2.2.2.2.2.1))).trans (hHeld.2.2.2.2.2.2.1)
 have HS7_ := (hb.cell (World.block_lt_of_cell? _ _ (hHeld.2.2.2.2.2.2.2.1))).trans (hHeld.2.2.2.2.2.2.2.1)
 have HS8_ := (hb.cell (World.block_lt_of_cell? _ _ (hHeld.2.2.2.2.2.2.2.2.1))).trans (hHeld.2.2.2.2.2.2.2.2.1)
 have HS9_ := (hb.cell (World.block_lt_of_cell? _ _ (hHeld.2.2.2.2.2.2.2.2.2.1))).trans (hHeld.2.2.2.2.2.2.2.2.2.1)
 have HS10_ := (hb.cell (World.block_lt_of_cell? _ _ (hHeld.2.2.2.2.2.2.2.2.2.2.1))).trans (hHeld.2.2.2.2.2.2.2.2.2.2.1)
 have HS11_ := (hb.cell (World.block_lt_of_cell? _ _ (hHeld.2.2.2.2.2.2.2.2.2.2.2.1))).trans (hHeld.2.2.2.2.2.2.2.2.2.2.2.1)
 have HS12_ := (hb.cell (World.block_lt_of_cell? _ _ (hHeld.2.2.2.2.2.2.2.2.2.2.2.2.1))).trans (hHeld.2.2.2.2.2.2.2.2.2.2.2.2.1)
 have HS13_ := (hb.cell (World.block_lt_of_cell? _ _ (hHeld.2.2.2.2.2.2.2.2.2.2.2.2.2.1))).trans (hHeld.2.2.2.2.2.2.2.2.2.2.2.2.2.1)
 have HS14_ := (hb.cell (World.block_lt_of_cell? _ _ (hHeld.2.2.2.2.2.2.2.2.2.2.2.2.2.2.1))).trans (hHeld.2.2.2.2.2.2.2.2.2.2.2.2.2.2.1)
 have HS15_ := (hb.cell (World.block_lt_of_cell? _ _ (hHeld.2.2.2.2.2.2.2.2.2.2.2.2.2.2.2.1))).trans (hHeld.2.2.2.2.2.2.2.2.2.2.2.2.2.2.2.1)
 have HS16_ := (hb.cell (World.block_lt_of_cell? _ _ (hHeld.2.2.2.2.2.2.2.2.2.2.2.2.2.2.2.2.1))).trans (hHeld.2.2.2.2.2.2.2.2.2.2.2.2.2.2.2.2.1)
 have HS17_ := (hb.cell (World.block_lt_of_cell? _ _ (hHeld.2.2.2.2.2.2.2.2.2.2.2.2.2.2.2.2.2))).trans (hHeld.2.2.2.2.2.2.2.2.2.2.2.2.2.2.2.2.2)
 refine ⟨_, rfl, ?_⟩
 have n0_ := Aside0.mk (Kd.R_below (rq HO_6.out) hb)
 have n1_ := Aside0.mk (Kd.R_below (rq HO_7.out) hb)
 have n2_ := Aside0.mk (Kd.R_below (rq HO_8.out) hb)
 have n3_ := Aside0.mk (Kd.R_below (rq HO_9.out) hb)
 have n4_ := Aside0.mk (Kd.R_below (rq HO_10.out) hb)
 have n5_ := Aside0.mk (Kd.R_below (rq HO_11.out) hb)
 have n6_ := Aside0.mk (blk_below (g := gb273) (o := .cells #[.int .i64 a1_0, .int .i64 a1_1, .int .i64 a1_2, .int .i64 a1_3, .int .i64 a1_4, .int .i64 a1_5, .int .i64 a1_6, .int .i64 a1_7, .int .i64 a1_8] 39 (0, 0)) (kq BK273.out) hb)
 have n7_ := Aside0.mk (below_step (bq1 HB.out GE273.out) hb)
 clear HO_6
 clear HO_7
 clear HO_8
 clear HO_9
 clear HO_10
 clear HO_11
 clear BK273
 clear HB
 have HO_6 := n0_
 have HO_7 := n1_
 have HO_8 := n2_
 have HO_9 := n3_
 have HO_10 := n4_
 have HO_11 := n5_
 have BK273 := n6_
 have HB := n7_
 clear n0_ n1_ n2_ n3_ n4_ n5_ n6_ n7_
 (try clear hb)
 (try clear hb2)
 (try clear hk)
 (try clear hi)
 refine hK.out _ _ ⟨HS0_, HS1_, HS2_, HS3_, HS4_, HS5_, HS6_, HS7_, HS8_, HS9_, HS10_, HS11_, HS12_, HS13_, HS14_, HS15_, HS16_, HS17_⟩ (fun hHeld => ?_)
 clear hK K
 refine norm_ (a' := ?_) ?_ ?_
 rotate_left
 ·(
 show Act.put _ (some 51) _ = _
 simp only [Act.put, List.setIfInBounds_toArray, List.set_cons_zero, List.set_cons_succ, i64_w, i32_w]
 rfl)
 refine one_ (i := 11) (N := some 57) #[true, true, true, true, true, true, true, true, true, true, true, true, false, false, false, false, false, false, false, false, false] rfl rfl (one_of HT_.out (by kernel_rfl)) (by decide) (fun K hK => ?_)
 refine goes_ Try.func29 (by kernel_rfl) rfl #[.slice Ao21 t278.length co21, .agg #[.int .i64 ((rd_T39 y308 x12_1).f0), .int .i64 ((rd_T39 y308 x12_1).f1), .int .i64 ((rd_T39 y308 x12_1).f2.f0), .int .i64 ((rd_T39 y308 x12_1).f2.f1), .int .i64 ((rd_T39 y308 x12_1).f2.f2), .int .i64 ((rd_T39 y308 x12_1).f2.f3.f0), .int .i64 ((rd_T39 y308 x12_1).f2.f3.f1), .int .i64 ((rd_T39 y308 x12_1).f2.f4), .int .i64 ((rd_T39 y308 x12_1).f2.f5)]] (by first | rfl | (refine wanted_on rfl rfl rfl ?_; first | assumption | (simp [*]; done))) rfl rfl (by (try simp only [List.map_toArray, List.map_cons, List.map_nil]); first | done | rfl | (simp only [List.length_drop, List.length_take]; rfl)) ?_
 with_reducible refine (determinant_Has.calls k1 _ _ t278 ((rd_T39 y308 x12_1).f0) ((rd_T39 y308 x12_1).f1) ((rd_T39 y308 x12_1).f2.f0) ((rd_T39 y308 x12_1).f2.f1) ((rd_T39 y308 x12_1).f2.f2) ((rd_T39 y308 x12_1).f2.f3.f0) ((rd_T39 y308 x12_1).f2.f3.f1) ((rd_T39 y308 x12_1).f2.f4) ((rd_T39 y308 x12_1).f2.f5) true _ ?side1 ?side2 A38.out).mono ?_
 (case side1 => repeat (first | exact (Kd.R_reads' HO_6.out).2.2 | (with_reducible refine Kd.C_alloc ?_ _) | (with_reducible refine Kd.C_drewN ?_ _) | (with_reducible refine Kd.C_drew ?_)))
 (case side2 => exact (Kd.R_reads' HO_6.out).2.1)
 rintro e w45 ⟨rfl, hb⟩
 have HS0_ := (hb.cell (World.block_lt_of_cell? _ _ (hHeld.1))).trans (hHeld.1)
 have HS1_ := (hb.cell (World.block_lt_of_cell? _ _ (hHeld.2.1))).trans (hHeld.2.1)
 have HS2_ := (hb.cell (World.block_lt_of_cell? _ _ (hHeld.2.2.1))).trans (hHeld.2.2.1)
 have HS3_ := (hb.cell (World.block_lt_of_cell? _ _ (hHeld.2.2.2.1))).trans (hHeld.2.2.2.1)
 have HS4_ := (hb.cell (World.block_lt_of_cell? _ _ (hHeld.2.2.2.2.1))).trans (hHeld.2.2.2.2.1)
 have HS5_ := (hb.cell (World.block_lt_of_cell? _ _ (hHeld.2.2.2.2.2.1))).trans (hHeld.2.2.2.2.2.1)
 have HS6_ := (hb.cell (World.block_lt_of_cell? _ _ (hHeld.2.2.2.2.2.2.1))).trans (hHeld.2.2.2.2.2.2.1)
 have HS7_ := (hb.cell (World.block_lt_of_cell? _ _ (hHeld.2.2.2.2.2.2.2.1))).trans (hHeld.2.2.2.2.2.2.2.1)
 have HS8_ := (hb.cell (World.block_lt_of_cell? _ _ (hHeld.2.2.2.2.2.2.2.2.1))).trans (hHeld.2.2.2.2.2.2.2.2.1)
 have HS9_ := (hb.cell (World.block_lt_of_cell? _ _ (hHeld.2.2.2.2.2.2.2.2.2.1))).trans (hHeld.2.2.2.2.2.2.2.2.2.1)
 have HS10_ := (hb.cell (World.block_lt_of_cell? _ _ (hHeld.2.2.2.2.2.2.2.2.2.2.1))).trans (hHeld.2.2.2.2.2.2.2.2.2.2.1)
 have HS11_ := (hb.cell (World.block_lt_of_cell? _ _ (hHeld.2.2.2.2.2.2.2.2.2.2.2.1))).trans (hHeld.2.2.2.2.2.2.2.2.2.2.2.1)
 have HS12_ := (hb.cell (World.block_lt_of_cell? _ _ (hHeld.2.2.2.2.2.2.2.2.2.2.2.2.1))).trans (hHeld.2.2.2.2.2.2.2.2.2.2.2.2.1)
 have HS13_ := (hb.cell (World.block_lt_of_cell? _ _ (hHeld.2.2.2.2.2.2.2.2.2.2.2.2.2.1))).trans (hHeld.2.2.2.2.2.2.2.2.2.2.2.2.2.1)
 have HS14_ := (hb.cell (World.block_lt_of_cell? _ _ (hHeld.2.2.2.2.2.2.2.2.2.2.2.2.2.2.1))).trans (hHeld.2.2.2.2.2.2.2.2.2.2.2.2.2.2.1)
 have HS15_ := (hb.cell (World.block_lt_of_cell? _ _ (hHeld.2.2.2.2.2.2.2.2.2.2.2.2.2.2.2.1))).trans (hHeld.2.2.2.2.2.2.2.2.2.2.2.2.2.2.2.1)
 have HS16_ := (hb.cell (World.block_lt_of_cell? _ _ (hHeld.2.2.2.2.2.2.2.2.2.2.2.2.2.2.2.2.1))).trans (hHeld.2.2.2.2.2.2.2.2.2.2.2.2.2.2.2.2.1)
 have HS17_ := (hb.cell (World.block_lt_of_cell? _ _ (hHeld.2.2.2.2.2.2.2.2.2.2.2.2.2.2.2.2.2))).trans (hHeld.2.2.2.2.2.2.2.2.2.2.2.2.2.2.2.2.2)
 refine ⟨_, rfl, ?_⟩
 have n0_ := Aside0.mk (Kd.R_below (rq HO_6.out) hb)
 have n1_ := Aside0.mk (Kd.R_below (rq HO_7.out) hb)
 have n2_ := Aside0.mk (Kd.R_below (rq HO_8.out) hb)
 have n3_ := Aside0.mk (Kd.R_below (rq HO_9.out) hb)
 have n4_ := Aside0.mk (Kd.R_below (rq HO_10.out) hb)
 have n5_ := Aside0.mk (Kd.R_below (rq HO_11.out) hb)
 have n6_ := Aside0.mk (blk_below (g := gb273) (o := .cells #[.int .i64 a1_0, .int .i64 a1_1, .int .i64 a1_2, .int .i64 a1_3, .int .i64 a1_4, .int .i64 a1_5, .int .i64 a1_6, .int .i64 a1_7, .int .i64 a1_8] 39 (0, 0)) (kq BK273.out) hb)
 have n7_ := Aside0.mk (below_step (bq1 HB.out GE273.out) hb)
 clear HO_6
 clear HO_7
 clear HO_8
 clear HO_9
 clear HO_10
 clear HO_11
 clear BK273
 clear HB
 have HO_6 := n0_
 have HO_7 := n1_
 have HO_8 := n2_
 have HO_9 := n3_
 have HO_10 := n4_
 have HO_11 := n5_
 have BK273 := n6_
 have HB := n7_
 clear n0_ n1_ n2_ n3_ n4_ n5_ n6_ n7_
 (try clear hb)
 (try clear hb2)
 (try clear hk)
 (try clear hi)
 refine hK.out _ _ ⟨HS0_, HS1_, HS2_, HS3_, HS4_, HS5_, HS6_, HS7_, HS8_, HS9_, HS10_, HS11_, HS12_, HS13_, HS14_, HS15_, HS16_, HS17_⟩ (fun hHeld => ?_)
 clear hK K
 refine norm_ (a' := ?_) ?_ ?_
 rotate_left
 ·(
 show Act.put _ (some 57) _ = _
 simp only [Act.put, List.setIfInBounds_toArray, List.set_cons_zero, List.set_cons_succ, i64_w, i32_w]
 rfl)
 refine pur HT_.out 12 (some 58) (bm 21 8191) ?_
 refine pux HT_.out 13 (some 59) (bm 21 16383) ?_
 refine pux HT_.out 14 (some 60) (bm 21 32767) ?_
 refine pux HT_.out 15 (some 61) (bm 21 65535) ?_
 refine pux HT_.out 16 (some 62) (bm 21 131071) ?_
 refine pux HT_.out 17 (some 63) (bm 21 262143) ?_
 refine pux HT_.out 18 (some 64) (bm 21 524287) ?_
 refine pur HT_.out 19 (some 65) (bm 21 1048575) ?_
 refine pur HT_.out 20 (some 66) (bm 21 2097151) ?_
 refine done_ (done_of HT_.out (by kernel_rfl)) ?_
 try go_wp2
 go_ret
 exact ⟨by first | rfl | (simp [errW_none, errW_some] <;> rfl) | (simp [*, errW_none, errW_some] <;> rfl), bq1 HB.out GE273.out⟩)
 ·(
 rw [if_neg c40] at H
 have c40b0 : (t312 != true) = false := by simpa using c40
 (try (have c40b1 : decide (t312 = true) = true := by simpa using c40))
 (try (have c40b2 : (t312 == true) = true := by simpa using c40))
 clear c40
 have H' := Aside0.mk H
 clear H
 obtain ⟨Ao46, co46, eo46⟩ := Kd.R_slice HO_11.out
 subst eo46
 try go_wp2
 have n0_ := Aside0.mk (Kd.R_drew HO_6.out)
 have n1_ := Aside0.mk (Kd.R_drew HO_7.out)
 have n2_ := Aside0.mk (Kd.R_drew HO_8.out)
 have n3_ := Aside0.mk (Kd.R_drew HO_9.out)
 have n4_ := Aside0.mk (Kd.R_drew HO_10.out)
 have n5_ := Aside0.mk (Kd.R_drew HO_11.out)
 have n6_ := Aside0.mk (blk_drew BK273.out)
 have n7_ := Aside0.mk (below_drew1 HB.out)
 clear HO_6
 clear HO_7
 clear HO_8
 clear HO_9
 clear HO_10
 clear HO_11
 clear BK273
 clear HB
 have HO_6 := n0_
 have HO_7 := n1_
 have HO_8 := n2_
 have HO_9 := n3_
 have HO_10 := n4_
 have HO_11 := n5_
 have BK273 := n6_
 have HB := n7_
 clear n0_ n1_ n2_ n3_ n4_ n5_ n6_ n7_
 have p311 : 0 ≤ (x12_1 : Int) := of_decide_eq_true (by first | (with_reducible assumption) | assumption)
 have q311 : x12_1 < (y308.length : Int) := of_decide_eq_true (by first | (with_reducible assumption) | assumption)
 obtain ⟨ad311, e311, hx311_0, hx311_1, hx311_2, hx311_3, hx311_4, hx311_5, hx311_6, hx311_7, hx311_8⟩ := at_T39 (Kd.R_reads' HO_11.out).2.2 x12_1 p311 q311
 cases e311
 replace p311 := eq_true p311
 replace q311 := eq_true q311
 have p313 : 0 ≤ (x12_1 : Int) := of_decide_eq_true (by first | (with_reducible assumption) | assumption)
 have q313 : x12_1 < (y308.length : Int) := of_decide_eq_true (by first | (with_reducible assumption) | assumption)
 obtain ⟨ad313, e313, hx313_0, hx313_1, hx313_2, hx313_3, hx313_4, hx313_5, hx313_6, hx313_7, hx313_8⟩ := at_T39 (Kd.R_reads' HO_11.out).2.2 x12_1 p313 q313
 obtain rfl : ad311 = ad313 := (by injection e313)
 replace p313 := eq_true p313
 replace q313 := eq_true q313
 obtain ⟨Ao48, co48, eo48⟩ := Kd.R_slice HO_9.out
 (first | subst eo48 | (injection eo48 with f1_ f2_ f3_; have f4_ := f1_.symm; have f5_ := f3_.symm; clear f1_ f2_ f3_; subst f4_; subst f5_))
 refine start_ (n := 21) (S := fun w' => w'.cell? (ad311.add ((x12_1).toNat * 9)) = some (.int .i64 ((rd_T39 y308 x12_1).f0)) ∧ w'.cell? ⟨(ad311.add ((x12_1).toNat * 9)).block, (ad311.add ((x12_1).toNat * 9)).off + 1, none⟩ = some (.int .i64 ((rd_T39 y308 x12_1).f1)) ∧ w'.cell? ⟨(ad311.add ((x12_1).toNat * 9)).block, (ad311.add ((x12_1).toNat * 9)).off + 2, none⟩ = some (.int .i64 ((rd_T39 y308 x12_1).f2.f0)) ∧ w'.cell? ⟨(ad311.add ((x12_1).toNat * 9)).block, (ad311.add ((x12_1).toNat * 9)).off + 3, none⟩ = some (.int .i64 ((rd_T39 y308 x12_1).f2.f1)) ∧ w'.cell? ⟨(ad311.add ((x12_1).toNat * 9)).block, (ad311.add ((x12_1).toNat * 9)).off + 4, none⟩ = some (.int .i64 ((rd_T39 y308 x12_1).f2.f2)) ∧ w'.cell? ⟨(ad311.add ((x12_1).toNat * 9)).block, (ad311.add ((x12_1).toNat * 9)).off + 5, none⟩ = some (.int .i64 ((rd_T39 y308 x12_1).f2.f3.f0)) ∧ w'.cell? ⟨(ad311.add ((x12_1).toNat * 9)).block, (ad311.add ((x12_1).toNat * 9)).off + 6, none⟩ = some (.int .i64 ((rd_T39 y308 x12_1).f2.f3.f1)) ∧ w'.cell? ⟨(ad311.add ((x12_1).toNat * 9)).block, (ad311.add ((x12_1).toNat * 9)).off + 7, none⟩ = some (.int .i64 ((rd_T39 y308 x12_1).f2.f4)) ∧ w'.cell? ⟨(ad311.add ((x12_1).toNat * 9)).block, (ad311.add ((x12_1).toNat * 9)).off + 8, none⟩ = some (.int .i64 ((rd_T39 y308 x12_1).f2.f5)) ∧ w'.cell? (ad311.add ((x12_1).toNat * 9)) = some (.int .i64 ((rd_T39 y308 x12_1).f0)) ∧ w'.cell? ⟨(ad311.add ((x12_1).toNat * 9)).block, (ad311.add ((x12_1).toNat * 9)).off + 1, none⟩ = some (.int .i64 ((rd_T39 y308 x12_1).f1)) ∧ w'.cell? ⟨(ad311.add ((x12_1).toNat * 9)).block, (ad311.add ((x12_1).toNat * 9)).off + 2, none⟩ = some (.int .i64 ((rd_T39 y308 x12_1).f2.f0)) ∧ w'.cell? ⟨(ad311.add ((x12_1).toNat * 9)).block, (ad311.add ((x12_1).toNat * 9)).off + 3, none⟩ = some (.int .i64 ((rd_T39 y308 x12_1).f2.f1)) ∧ w'.cell? ⟨(ad311.add ((x12_1).toNat * 9)).block, (ad311.add ((x12_1).toNat * 9)).off + 4, none⟩ = some (.int .i64 ((rd_T39 y308 x12_1).f2.f2)) ∧ w'.cell? ⟨(ad311.add ((x12_1).toNat * 9)).block, (ad311.add ((x12_1).toNat * 9)).off + 5, none⟩ = some (.int .i64 ((rd_T39 y308 x12_1).f2.f3.f0)) ∧ w'.cell? ⟨(ad311.add ((x12_1).toNat * 9)).block, (ad311.add ((x12_1).toNat * 9)).off + 6, none⟩ = some (.int .i64 ((rd_T39 y308 x12_1).f2.f3.f1)) ∧ w'.cell? ⟨(ad311.add ((x12_1).toNat * 9)).block, (ad311.add ((x12_1).toNat * 9)).off + 7, none⟩ = some (.int .i64 ((rd_T39 y308 x12_1).f2.f4)) ∧ w'.cell? ⟨(ad311.add ((x12_1).toNat * 9)).block, (ad311.add ((x12_1).toNat * 9)).off + 8, none⟩ = some (.int .i64 ((rd_T39 y308 x12_1).f2.f5))) (ds := []) #[false, false, false, false, false, false, false, false, false, false, false, false, false, false, false, false, false, false, false, false, false] (by kernel_rfl) rfl rfl ⟨hx311_0, hx311_1, hx311_2, hx311_3, hx311_4, hx311_5, hx311_6, hx311_7, hx311_8, hx313_0, hx313_1, hx313_2, hx313_3, hx313_4, hx313_5, hx313_6, hx313_7, hx313_8⟩ (fun hHeld => ?_); refine with_tabW rollbacknetlaw27_DeterminantUnions.tab11 rollbacknetlaw27_DeterminantUnions.bits11 (fun HT_ HW_ => ?_)
 generalize wr.drew = w47 at HO_6 HO_7 HO_8 HO_9 HO_10 HO_11 BK273 HB hx311_0 hx311_1 hx311_2 hx311_3 hx311_4 hx311_5 hx311_6 hx311_7 hx311_8 hx313_0 hx313_1 hx313_2 hx313_3 hx313_4 hx313_5 hx313_6 hx313_7 hx313_8 hHeld ⊢
 refine pur HT_.out 0 (some 46) (bm 21 1) ?_
 refine pur HT_.out 1 (some 47) (bm 21 3) ?_
 refine pur HT_.out 2 (some 48) (bm 21 7) ?_
 refine pur HT_.out 3 (some 49) (bm 21 15) ?_
 refine pur HT_.out 6 (some 52) (bm 21 79) ?_
 refine pur HT_.out 7 (some 53) (bm 21 207) ?_
 refine pur HT_.out 8 (some 54) (bm 21 463) ?_
 refine pur HT_.out 9 (some 55) (bm 21 975) ?_
 refine take_ (i := 4) (N := some 50) (v := ?_) (a' := ?_) #[true, true, true, true, true, false, true, true, true, true, false, false, false, false, false, false, false, false, false, false, false] rfl rfl (take_ofW HT_.out HW_.out (by kernel_rfl)) (fun _ _ _ h => h) (Or.inl ⟨by rfl, ?_⟩) hHeld ?_ ?_
 rotate_left
 ·(
 rintro w' ⟨s0, s1, s2, s3, s4, s5, s6, s7, s8, s9, s10, s11, s12, s13, s14, s15, s16, s17⟩
 go_simp
 with_reducible rfl)
 rotate_left
 ·(
 simp only [Act.put, List.setIfInBounds_toArray, List.set_cons_zero, List.set_cons_succ, i64_w, i32_w]
 rfl)
 refine take_ (i := 10) (N := some 56) (v := ?_) (a' := ?_) #[true, true, true, true, true, false, true, true, true, true, true, false, false, false, false, false, false, false, false, false, false] rfl rfl (take_ofW HT_.out HW_.out (by kernel_rfl)) (fun _ _ _ h => h) (Or.inl ⟨by rfl, ?_⟩) hHeld ?_ ?_
 rotate_left
 ·(
 rintro w' ⟨s0, s1, s2, s3, s4, s5, s6, s7, s8, s9, s10, s11, s12, s13, s14, s15, s16, s17⟩
 go_simp
 with_reducible rfl)
 rotate_left
 ·(
 simp only [Act.put, List.setIfInBounds_toArray, List.set_cons_zero, List.set_cons_succ, i64_w, i32_w]
 rfl)
 refine one_ (i := 5) (N := some 51) #[true, true, true, true, true, true, true, true, true, true, true, false, false, false, false, false, false, false, false, false, false] rfl rfl (one_of HT_.out (by kernel_rfl)) (by decide) (fun K hK => ?_)
 refine goes_ Try.func29 (by kernel_rfl) rfl #[.slice Ao48 t290.length co48, .agg #[.int .i64 ((rd_T39 y308 x12_1).f0), .int .i64 ((rd_T39 y308 x12_1).f1), .int .i64 ((rd_T39 y308 x12_1).f2.f0), .int .i64 ((rd_T39 y308 x12_1).f2.f1), .int .i64 ((rd_T39 y308 x12_1).f2.f2), .int .i64 ((rd_T39 y308 x12_1).f2.f3.f0), .int .i64 ((rd_T39 y308 x12_1).f2.f3.f1), .int .i64 ((rd_T39 y308 x12_1).f2.f4), .int .i64 ((rd_T39 y308 x12_1).f2.f5)]] (by first | rfl | (refine wanted_on rfl rfl rfl ?_; first | assumption | (simp [*]; done))) rfl rfl (by (try simp only [List.map_toArray, List.map_cons, List.map_nil]); first | done | rfl | (simp only [List.length_drop, List.length_take]; rfl)) ?_
 with_reducible refine (determinant_Has.calls k1 _ _ t290 ((rd_T39 y308 x12_1).f0) ((rd_T39 y308 x12_1).f1) ((rd_T39 y308 x12_1).f2.f0) ((rd_T39 y308 x12_1).f2.f1) ((rd_T39 y308 x12_1).f2.f2) ((rd_T39 y308 x12_1).f2.f3.f0) ((rd_T39 y308 x12_1).f2.f3.f1) ((rd_T39 y308 x12_1).f2.f4) ((rd_T39 y308 x12_1).f2.f5) t312 _ ?side1 ?side2 A37.out).mono ?_
 (case side1 => repeat (first | exact (Kd.R_reads' HO_9.out).2.2 | (with_reducible refine Kd.C_alloc ?_ _) | (with_reducible refine Kd.C_drewN ?_ _) | (with_reducible refine Kd.C_drew ?_)))
 (case side2 => exact (Kd.R_reads' HO_9.out).2.1)
 rintro e w49 ⟨rfl, hb⟩
 have HS0_ := (hb.cell (World.block_lt_of_cell? _ _ (hHeld.1))).trans (hHeld.1)
 have HS1_ := (hb.cell (World.block_lt_of_cell? _ _ (hHeld.2.1))).trans (hHeld.2.1)
 have HS2_ := (hb.cell (World.block_lt_of_cell? _ _ (hHeld.2.2.1))).trans (hHeld.2.2.1)
 have HS3_ := (hb.cell (World.block_lt_of_cell? _ _ (hHeld.2.2.2.1))).trans (hHeld.2.2.2.1)
 have HS4_ := (hb.cell (World.block_lt_of_cell? _ _ (hHeld.2.2.2.2.1))).trans (hHeld.2.2.2.2.1)
 have HS5_ := (hb.cell (World.block_lt_of_cell? _ _ (hHeld.2.2.2.2.2.1))).trans (hHeld.2.2.2.2.2.1)
 have HS6_ := (hb.cell (World.block_lt_of_cell? _ _ (hHeld.2.2.2.2.2.2.1))).trans (hHeld.2.2.2.2.2.2.1)
 have HS7_ := (hb.cell (World.block_lt_of_cell? _ _ (hHeld.2.2.2.2.2.2.2.1))).trans (hHeld.2.2.2.2.2.2.2.1)
 have HS8_ := (hb.cell (World.block_lt_of_cell? _ _ (hHeld.2.2.2.2.2.2.2.2.1))).trans (hHeld.2.2.2.2.2.2.2.2.1)
 have HS9_ := (hb.cell (World.block_lt_of_cell? _ _ (hHeld.2.2.2.2.2.2.2.2.2.1))).trans (hHeld.2.2.2.2.2.2.2.2.2.1)
 have HS10_ := (hb.cell (World.block_lt_of_cell? _ _ (hHeld.2.2.2.2.2.2.2.2.2.2.1))).trans (hHeld.2.2.2.2.2.2.2.2.2.2.1)
 have HS11_ := (hb.cell (World.block_lt_of_cell? _ _ (hHeld.2.2.2.2.2.2.2.2.2.2.2.1))).trans (hHeld.2.2.2.2.2.2.2.2.2.2.2.1)
 have HS12_ := (hb.cell (World.block_lt_of_cell? _ _ (hHeld.2.2.2.2.2.2.2.2.2.2.2.2.1))).trans (hHeld.2.2.2.2.2.2.2.2.2.2.2.2.1)
 have HS13_ := (hb.cell (World.block_lt_of_cell? _ _ (hHeld.2.2.2.2.2.2.2.2.2.2.2.2.2.1))).trans (hHeld.2.2.2.2.2.2.2.2.2.2.2.2.2.1)
 have HS14_ := (hb.cell (World.block_lt_of_cell? _ _ (hHeld.2.2.2.2.2.2.2.2.2.2.2.2.2.2.1))).trans (hHeld.2.2.2.2.2.2.2.2.2.2.2.2.2.2.1)
 have HS15_ := (hb.cell (World.block_lt_of_cell? _ _ (hHeld.2.2.2.2.2.2.2.2.2.2.2.2.2.2.2.1))).trans (hHeld.2.2.2.2.2.2.2.2.2.2.2.2.2.2.2.1)
 have HS16_ := (hb.cell (World.block_lt_of_cell? _ _ (hHeld.2.2.2.2.2.2.2.2.2.2.2.2.2.2.2.2.1))).trans (hHeld.2.2.2.2.2.2.2.2.2.2.2.2.2.2.2.2.1)
 have HS17_ := (hb.cell (World.block_lt_of_cell? _ _ (hHeld.2.2.2.2.2.2.2.2.2.2.2.2.2.2.2.2.2))).trans (hHeld.2.2.2.2.2.2.2.2.2.2.2.2.2.2.2.2.2)
 refine ⟨_, rfl, ?_⟩
 have n0_ := Aside0.mk (Kd.R_below (rq HO_6.out) hb)
 have n1_ := Aside0.mk (Kd.R_below (rq HO_7.out) hb)
 have n2_ := Aside0.mk (Kd.R_below (rq HO_8.out) hb)
 have n3_ := Aside0.mk (Kd.R_below (rq HO_9.out) hb)
 have n4_ := Aside0.mk (Kd.R_below (rq HO_10.out) hb)
 have n5_ := Aside0.mk (Kd.R_below (rq HO_11.out) hb)
 have n6_ := Aside0.mk (blk_below (g := gb273) (o := .cells #[.int .i64 a1_0, .int .i64 a1_1, .int .i64 a1_2, .int .i64 a1_3, .int .i64 a1_4, .int .i64 a1_5, .int .i64 a1_6, .int .i64 a1_7, .int .i64 a1_8] 39 (0, 0)) (kq BK273.out) hb)
 have n7_ := Aside0.mk (below_step (bq1 HB.out GE273.out) hb)
 clear HO_6
 clear HO_7
 clear HO_8
 clear HO_9
 clear HO_10
 clear HO_11
 clear BK273
 clear HB
 have HO_6 := n0_
 have HO_7 := n1_
 have HO_8 := n2_
 have HO_9 := n3_
 have HO_10 := n4_
 have HO_11 := n5_
 have BK273 := n6_
 have HB := n7_
 clear n0_ n1_ n2_ n3_ n4_ n5_ n6_ n7_
 (try clear hb)
 (try clear hb2)
 (try clear hk)
 (try clear hi)
 refine hK.out _ _ ⟨HS0_, HS1_, HS2_, HS3_, HS4_, HS5_, HS6_, HS7_, HS8_, HS9_, HS10_, HS11_, HS12_, HS13_, HS14_, HS15_, HS16_, HS17_⟩ (fun hHeld => ?_)
 clear hK K
 refine norm_ (a' := ?_) ?_ ?_
 rotate_left
 ·(
 show Act.put _ (some 51) _ = _
 simp only [Act.put, List.setIfInBounds_toArray, List.set_cons_zero, List.set_cons_succ, i64_w, i32_w]
 rfl)
 refine one_ (i := 11) (N := some 57) #[true, true, true, true, true, true, true, true, true, true, true, true, false, false, false, false, false, false, false, false, false] rfl rfl (one_of HT_.out (by kernel_rfl)) (by decide) (fun K hK => ?_)
 refine goes_ Try.func29 (by kernel_rfl) rfl #[.slice Ao21 t278.length co21, .agg #[.int .i64 ((rd_T39 y308 x12_1).f0), .int .i64 ((rd_T39 y308 x12_1).f1), .int .i64 ((rd_T39 y308 x12_1).f2.f0), .int .i64 ((rd_T39 y308 x12_1).f2.f1), .int .i64 ((rd_T39 y308 x12_1).f2.f2), .int .i64 ((rd_T39 y308 x12_1).f2.f3.f0), .int .i64 ((rd_T39 y308 x12_1).f2.f3.f1), .int .i64 ((rd_T39 y308 x12_1).f2.f4), .int .i64 ((rd_T39 y308 x12_1).f2.f5)]] (by first | rfl | (refine wanted_on rfl rfl rfl ?_; first | assumption | (simp [*]; done))) rfl rfl (by (try simp only [List.map_toArray, List.map_cons, List.map_nil]); first | done | rfl | (simp only [List.length_drop, List.length_take]; rfl)) ?_
 with_reducible refine (determinant_Has.calls k1 _ _ t278 ((rd_T39 y308 x12_1).f0) ((rd_T39 y308 x12_1).f1) ((rd_T39 y308 x12_1).f2.f0) ((rd_T39 y308 x12_1).f2.f1) ((rd_T39 y308 x12_1).f2.f2) ((rd_T39 y308 x12_1).f2.f3.f0) ((rd_T39 y308 x12_1).f2.f3.f1) ((rd_T39 y308 x12_1).f2.f4) ((rd_T39 y308 x12_1).f2.f5) true _ ?side1 ?side2 A38.out).mono ?_
 (case side1 => repeat (first | exact (Kd.R_reads' HO_6.out).2.2 | (with_reducible refine Kd.C_alloc ?_ _) | (with_reducible refine Kd.C_drewN ?_ _) | (with_reducible refine Kd.C_drew ?_)))
 (case side2 => exact (Kd.R_reads' HO_6.out).2.1)
 rintro e w50 ⟨rfl, hb⟩
 have HS0_ := (hb.cell (World.block_lt_of_cell? _ _ (hHeld.1))).trans (hHeld.1)
 have HS1_ := (hb.cell (World.block_lt_of_cell? _ _ (hHeld.2.1))).trans (hHeld.2.1)
 have HS2_ := (hb.cell (World.block_lt_of_cell? _ _ (hHeld.2.2.1))).trans (hHeld.2.2.1)
 have HS3_ := (hb.cell (World.block_lt_of_cell? _ _ (hHeld.2.2.2.1))).trans (hHeld.2.2.2.1)
 have HS4_ := (hb.cell (World.block_lt_of_cell? _ _ (hHeld.2.2.2.2.1))).trans (hHeld.2.2.2.2.1)
 have HS5_ := (hb.cell (World.block_lt_of_cell? _ _ (hHeld.2.2.2.2.2.1))).trans (hHeld.2.2.2.2.2.1)
 have HS6_ := (hb.cell (World.block_lt_of_cell? _ _ (hHeld.2.2.2.2.2.2.1))).trans (hHeld.2.2.2.2.2.2.1)
 have HS7_ := (hb.cell (World.block_lt_of_cell? _ _ (hHeld.2.2.2.2.2.2.2.1))).trans (hHeld.2.2.2.2.2.2.2.1)
 have HS8_ := (hb.cell (World.block_lt_of_cell? _ _ (hHeld.2.2.2.2.2.2.2.2.1))).trans (hHeld.2.2.2.2.2.2.2.2.1)
 have HS9_ := (hb.cell (World.block_lt_of_cell? _ _ (hHeld.2.2.2.2.2.2.2.2.2.1))).trans (hHeld.2.2.2.2.2.2.2.2.2.1)
 have HS10_ := (hb.cell (World.block_lt_of_cell? _ _ (hHeld.2.2.2.2.2.2.2.2.2.2.1))).trans (hHeld.2.2.2.2.2.2.2.2.2.2.1)
 have HS11_ := (hb.cell (World.block_lt_of_cell? _ _ (hHeld.2.2.2.2.2.2.2.2.2.2.2.1))).trans (hHeld.2.2.2.2.2.2.2.2.2.2.2.1)
 have HS12_ := (hb.cell (World.block_lt_of_cell? _ _ (hHeld.2.2.2.2.2.2.2.2.2.2.2.2.1))).trans (hHeld.2.2.2.2.2.2.2.2.2.2.2.2.1)
 have HS13_ := (hb.cell (World.block_lt_of_cell? _ _ (hHeld.2.2.2.2.2.2.2.2.2.2.2.2.2.1))).trans (hHeld.2.2.2.2.2.2.2.2.2.2.2.2.2.1)
 have HS14_ := (hb.cell (World.block_lt_of_cell? _ _ (hHeld.2.2.2.2.2.2.2.2.2.2.2.2.2.2.1))).trans (hHeld.2.2.2.2.2.2.2.2.2.2.2.2.2.2.1)
 have HS15_ := (hb.cell (World.block_lt_of_cell? _ _ (hHeld.2.2.2.2.2.2.2.2.2.2.2.2.2.2.2.1))).trans (hHeld.2.2.2.2.2.2.2.2.2.2.2.2.2.2.2.1)
 have HS16_ := (hb.cell (World.block_lt_of_cell? _ _ (hHeld.2.2.2.2.2.2.2.2.2.2.2.2.2.2.2.2.1))).trans (hHeld.2.2.2.2.2.2.2.2.2.2.2.2.2.2.2.2.1)
 have HS17_ := (hb.cell (World.block_lt_of_cell? _ _ (hHeld.2.2.2.2.2.2.2.2.2.2.2.2.2.2.2.2.2))).trans (hHeld.2.2.2.2.2.2.2.2.2.2.2.2.2.2.2.2.2)
 refine ⟨_, rfl, ?_⟩
 have n0_ := Aside0.mk (Kd.R_below (rq HO_6.out) hb)
 have n1_ := Aside0.mk (Kd.R_below (rq HO_7.out) hb)
 have n2_ := Aside0.mk (Kd.R_below (rq HO_8.out) hb)
 have n3_ := Aside0.mk (Kd.R_below (rq HO_9.out) hb)
 have n4_ := Aside0.mk (Kd.R_below (rq HO_10.out) hb)
 have n5_ := Aside0.mk (Kd.R_below (rq HO_11.out) hb)
 have n6_ := Aside0.mk (blk_below (g := gb273) (o := .cells #[.int .i64 a1_0, .int .i64 a1_1, .int .i64 a1_2, .int .i64 a1_3, .int .i64 a1_4, .int .i64 a1_5, .int .i64 a1_6, .int .i64 a1_7, .int .i64 a1_8] 39 (0, 0)) (kq BK273.out) hb)
 have n7_ := Aside0.mk (below_step (bq1 HB.out GE273.out) hb)
 clear HO_6
 clear HO_7
 clear HO_8
 clear HO_9
 clear HO_10
 clear HO_11
 clear BK273
 clear HB
 have HO_6 := n0_
 have HO_7 := n1_
 have HO_8 := n2_
 have HO_9 := n3_
 have HO_10 := n4_
 have HO_11 := n5_
 have BK273 := n6_
 have HB := n7_
 clear n0_ n1_ n2_ n3_ n4_ n5_ n6_ n7_
 (try clear hb)
 (try clear hb2)
 (try clear hk)
 (try clear hi)
 refine hK.out _ _ ⟨HS0_, HS1_, HS2_, HS3_, HS4_, HS5_, HS6_, HS7_, HS8_, HS9_, HS10_, HS11_, HS12_, HS13_, HS14_, HS15_, HS16_, HS17_⟩ (fun hHeld => ?_)
 clear hK K
 refine norm_ (a' := ?_) ?_ ?_
 rotate_left
 ·(
 show Act.put _ (some 57) _ = _
 simp only [Act.put, List.setIfInBounds_toArray, List.set_cons_zero, List.set_cons_succ, i64_w, i32_w]
 rfl)
 refine pur HT_.out 12 (some 58) (bm 21 8191) ?_
 refine pux HT_.out 13 (some 59) (bm 21 16383) ?_
 refine pux HT_.out 14 (some 60) (bm 21 32767) ?_
 refine pux HT_.out 15 (some 61) (bm 21 65535) ?_
 refine pux HT_.out 16 (some 62) (bm 21 131071) ?_
 refine pux HT_.out 17 (some 63) (bm 21 262143) ?_
 refine pux HT_.out 18 (some 64) (bm 21 524287) ?_
 refine pur HT_.out 19 (some 65) (bm 21 1048575) ?_
 refine pur HT_.out 20 (some 66) (bm 21 2097151) ?_
 refine done_ (done_of HT_.out (by kernel_rfl)) ?_
 try go_wp2
 go_roundg k1
 case measure => have := HK1.out; omega
 case rel => exact ⟨(wrap64 (x12_1 + 1)), (by first | rfl | (simp; done) | (simp [*]; done)), H', ⟨by have := HK1.out; omega⟩, ⟨rq HO_6.out⟩, ⟨rq HO_7.out⟩, ⟨rq HO_8.out⟩, ⟨rq HO_9.out⟩, ⟨rq HO_10.out⟩, ⟨rq HO_11.out⟩, ⟨kq BK273.out⟩, ⟨bq1 HB.out GE273.out⟩⟩))
 ·(
 replace c39 := Bool.eq_false_iff.mpr c39
 subst c39
 have H1 : ((determinant_Has.f k1 t282 ((rd_T39 y308 x12_1).f0) ((rd_T39 y308 x12_1).f1) ((rd_T39 y308 x12_1).f2.f0) ((rd_T39 y308 x12_1).f2.f1) ((rd_T39 y308 x12_1).f2.f2) ((rd_T39 y308 x12_1).f2.f3.f0) ((rd_T39 y308 x12_1).f2.f3.f1) ((rd_T39 y308 x12_1).f2.f4) ((rd_T39 y308 x12_1).f2.f5)).bind fun t316 => (if (t312 != t316) = true then (some false) else (rollbacknetlaw27_DeterminantUnions.l0 k1 t278 t282 t286 t290 t296 y308 (wrap64 (x12_1 + 1)) a1_0 a1_1 a1_2 a1_3 a1_4 a1_5 a1_6 a1_7 a1_8))) = some r := by rw [if_neg (show ¬ (false = true) by decide)] at H; exact H
 clear H
 have H := H1
 clear H1
 replace H := Option.bind_eq_some_iff.mp H
 obtain ⟨t316, A510, H⟩ := H
 replace H : (if (t312 != t316) = true then (some false) else (rollbacknetlaw27_DeterminantUnions.l0 k1 t278 t282 t286 t290 t296 y308 (wrap64 (x12_1 + 1)) a1_0 a1_1 a1_2 a1_3 a1_4 a1_5 a1_6 a1_7 a1_8)) = some r := H
 have A51 := Aside0.mk A510
 clear A510
 by_cases c52 : (t312 != t316) = true
 ·(
 rw [if_pos c52] at H
 have c52b0 : (t312 != t316) = true := c52
 (try (have c52b1 : decide (t312 = t316) = false := by simpa using c52))
 (try (have c52b2 : (t312 == t316) = false := by simpa using c52))
 (try (have c52b3 : ¬ (t312 = t316) := by simpa using c52))
 clear c52
 obtain rfl := Option.some.inj H
 obtain ⟨Ao53, co53, eo53⟩ := Kd.R_slice HO_11.out
 subst eo53
 try go_wp2
 have n0_ := Aside0.mk (Kd.R_drew HO_6.out)
 have n1_ := Aside0.mk (Kd.R_drew HO_7.out)
 have n2_ := Aside0.mk (Kd.R_drew HO_8.out)
 have n3_ := Aside0.mk (Kd.R_drew HO_9.out)
 have n4_ := Aside0.mk (Kd.R_drew HO_10.out)
 have n5_ := Aside0.mk (Kd.R_drew HO_11.out)
 have n6_ := Aside0.mk (blk_drew BK273.out)
 have n7_ := Aside0.mk (below_drew1 HB.out)
 clear HO_6
 clear HO_7
 clear HO_8
 clear HO_9
 clear HO_10
 clear HO_11
 clear BK273
 clear HB
 have HO_6 := n0_
 have HO_7 := n1_
 have HO_8 := n2_
 have HO_9 := n3_
 have HO_10 := n4_
 have HO_11 := n5_
 have BK273 := n6_
 have HB := n7_
 clear n0_ n1_ n2_ n3_ n4_ n5_ n6_ n7_
 have p311 : 0 ≤ (x12_1 : Int) := of_decide_eq_true (by first | (with_reducible assumption) | assumption)
 have q311 : x12_1 < (y308.length : Int) := of_decide_eq_true (by first | (with_reducible assumption) | assumption)
 obtain ⟨ad311, e311, hx311_0, hx311_1, hx311_2, hx311_3, hx311_4, hx311_5, hx311_6, hx311_7, hx311_8⟩ := at_T39 (Kd.R_reads' HO_11.out).2.2 x12_1 p311 q311
 cases e311
 replace p311 := eq_true p311
 replace q311 := eq_true q311
 have p313 : 0 ≤ (x12_1 : Int) := of_decide_eq_true (by first | (with_reducible assumption) | assumption)
 have q313 : x12_1 < (y308.length : Int) := of_decide_eq_true (by first | (with_reducible assumption) | assumption)
 obtain ⟨ad313, e313, hx313_0, hx313_1, hx313_2, hx313_3, hx313_4, hx313_5, hx313_6, hx313_7, hx313_8⟩ := at_T39 (Kd.R_reads' HO_11.out).2.2 x12_1 p313 q313
 obtain rfl : ad311 = ad313 := (by injection e313)
 replace p313 := eq_true p313
 replace q313 := eq_true q313
 obtain ⟨Ao55, co55, eo55⟩ := Kd.R_slice HO_9.out
 (first | subst eo55 | (injection eo55 with f1_ f2_ f3_; have f4_ := f1_.symm; have f5_ := f3_.symm; clear f1_ f2_ f3_; subst f4_; subst f5_))
 have p315 : 0 ≤ (x12_1 : Int) := of_decide_eq_true (by first | (with_reducible assumption) | assumption)
 have q315 : x12_1 < (y308.length : Int) := of_decide_eq_true (by first | (with_reducible assumption) | assumption)
 obtain ⟨ad315, e315, hx315_0, hx315_1, hx315_2, hx315_3, hx315_4, hx315_5, hx315_6, hx315_7, hx315_8⟩ := at_T39 (Kd.R_reads' HO_11.out).2.2 x12_1 p315 q315
 obtain rfl : ad311 = ad315 := (by injection e315)
 replace p315 := eq_true p315
 replace q315 := eq_true q315
 refine start_ (n := 21) (S := fun w' => w'.cell? (ad311.add ((x12_1).toNat * 9)) = some (.int .i64 ((rd_T39 y308 x12_1).f0)) ∧ w'.cell? ⟨(ad311.add ((x12_1).toNat * 9)).block, (ad311.add ((x12_1).toNat * 9)).off + 1, none⟩ = some (.int .i64 ((rd_T39 y308 x12_1).f1)) ∧ w'.cell? ⟨(ad311.add ((x12_1).toNat * 9)).block, (ad311.add ((x12_1).toNat * 9)).off + 2, none⟩ = some (.int .i64 ((rd_T39 y308 x12_1).f2.f0)) ∧ w'.cell? ⟨(ad311.add ((x12_1).toNat * 9)).block, (ad311.add ((x12_1).toNat * 9)).off + 3, none⟩ = some (.int .i64 ((rd_T39 y308 x12_1).f2.f1)) ∧ w'.cell? ⟨(ad311.add ((x12_1).toNat * 9)).block, (ad311.add ((x12_1).toNat * 9)).off + 4, none⟩ = some (.int .i64 ((rd_T39 y308 x12_1).f2.f2)) ∧ w'.cell? ⟨(ad311.add ((x12_1).toNat * 9)).block, (ad311.add ((x12_1).toNat * 9)).off + 5, none⟩ = some (.int .i64 ((rd_T39 y308 x12_1).f2.f3.f0)) ∧ w'.cell? ⟨(ad311.add ((x12_1).toNat * 9)).block, (ad311.add ((x12_1).toNat * 9)).off + 6, none⟩ = some (.int .i64 ((rd_T39 y308 x12_1).f2.f3.f1)) ∧ w'.cell? ⟨(ad311.add ((x12_1).toNat * 9)).block, (ad311.add ((x12_1).toNat * 9)).off + 7, none⟩ = some (.int .i64 ((rd_T39 y308 x12_1).f2.f4)) ∧ w'.cell? ⟨(ad311.add ((x12_1).toNat * 9)).block, (ad311.add ((x12_1).toNat * 9)).off + 8, none⟩ = some (.int .i64 ((rd_T39 y308 x12_1).f2.f5)) ∧ w'.cell? (ad311.add ((x12_1).toNat * 9)) = some (.int .i64 ((rd_T39 y308 x12_1).f0)) ∧ w'.cell? ⟨(ad311.add ((x12_1).toNat * 9)).block, (ad311.add ((x12_1).toNat * 9)).off + 1, none⟩ = some (.int .i64 ((rd_T39 y308 x12_1).f1)) ∧ w'.cell? ⟨(ad311.add ((x12_1).toNat * 9)).block, (ad311.add ((x12_1).toNat * 9)).off + 2, none⟩ = some (.int .i64 ((rd_T39 y308 x12_1).f2.f0)) ∧ w'.cell? ⟨(ad311.add ((x12_1).toNat * 9)).block, (ad311.add ((x12_1).toNat * 9)).off + 3, none⟩ = some (.int .i64 ((rd_T39 y308 x12_1).f2.f1)) ∧ w'.cell? ⟨(ad311.add ((x12_1).toNat * 9)).block, (ad311.add ((x12_1).toNat * 9)).off + 4, none⟩ = some (.int .i64 ((rd_T39 y308 x12_1).f2.f2)) ∧ w'.cell? ⟨(ad311.add ((x12_1).toNat * 9)).block, (ad311.add ((x12_1).toNat * 9)).off + 5, none⟩ = some (.int .i64 ((rd_T39 y308 x12_1).f2.f3.f0)) ∧ w'.cell? ⟨(ad311.add ((x12_1).toNat * 9)).block, (ad311.add ((x12_1).toNat * 9)).off + 6, none⟩ = some (.int .i64 ((rd_T39 y308 x12_1).f2.f3.f1)) ∧ w'.cell? ⟨(ad311.add ((x12_1).toNat * 9)).block, (ad311.add ((x12_1).toNat * 9)).off + 7, none⟩ = some (.int .i64 ((rd_T39 y308 x12_1).f2.f4)) ∧ w'.cell? ⟨(ad311.add ((x12_1).toNat * 9)).block, (ad311.add ((x12_1).toNat * 9)).off + 8, none⟩ = some (.int .i64 ((rd_T39 y308 x12_1).f2.f5)) ∧ w'.cell? (ad311.add ((x12_1).toNat * 9)) = some (.int .i64 ((rd_T39 y308 x12_1).f0)) ∧ w'.cell? ⟨(ad311.add ((x12_1).toNat * 9)).block, (ad311.add ((x12_1).toNat * 9)).off + 1, none⟩ = some (.int .i64 ((rd_T39 y308 x12_1).f1)) ∧ w'.cell? ⟨(ad311.add ((x12_1).toNat * 9)).block, (ad311.add ((x12_1).toNat * 9)).off + 2, none⟩ = some (.int .i64 ((rd_T39 y308 x12_1).f2.f0)) ∧ w'.cell? ⟨(ad311.add ((x12_1).toNat * 9)).block, (ad311.add ((x12_1).toNat * 9)).off + 3, none⟩ = some (.int .i64 ((rd_T39 y308 x12_1).f2.f1)) ∧ w'.cell? ⟨(ad311.add ((x12_1).toNat * 9)).block, (ad311.add ((x12_1).toNat * 9)).off + 4, none⟩ = some (.int .i64 ((rd_T39 y308 x12_1).f2.f2)) ∧ w'.cell? ⟨(ad311.add ((x12_1).toNat * 9)).block, (ad311.add ((x12_1).toNat * 9)).off + 5, none⟩ = some (.int .i64 ((rd_T39 y308 x12_1).f2.f3.f0)) ∧ w'.cell? ⟨(ad311.add ((x12_1).toNat * 9)).block, (ad311.add ((x12_1).toNat * 9)).off + 6, none⟩ = some (.int .i64 ((rd_T39 y308 x12_1).f2.f3.f1)) ∧ w'.cell? ⟨(ad311.add ((x12_1).toNat * 9)).block, (ad311.add ((x12_1).toNat * 9)).off + 7, none⟩ = some (.int .i64 ((rd_T39 y308 x12_1).f2.f4)) ∧ w'.cell? ⟨(ad311.add ((x12_1).toNat * 9)).block, (ad311.add ((x12_1).toNat * 9)).off + 8, none⟩ = some (.int .i64 ((rd_T39 y308 x12_1).f2.f5))) (ds := []) #[false, false, false, false, false, false, false, false, false, false, false, false, false, false, false, false, false, false, false, false, false] (by kernel_rfl) rfl rfl ⟨hx311_0, hx311_1, hx311_2, hx311_3, hx311_4, hx311_5, hx311_6, hx311_7, hx311_8, hx313_0, hx313_1, hx313_2, hx313_3, hx313_4, hx313_5, hx313_6, hx313_7, hx313_8, hx315_0, hx315_1, hx315_2, hx315_3, hx315_4, hx315_5, hx315_6, hx315_7, hx315_8⟩ (fun hHeld => ?_); refine with_tabW rollbacknetlaw27_DeterminantUnions.tab11 rollbacknetlaw27_DeterminantUnions.bits11 (fun HT_ HW_ => ?_)
 generalize wr.drew = w54 at HO_6 HO_7 HO_8 HO_9 HO_10 HO_11 BK273 HB hx311_0 hx311_1 hx311_2 hx311_3 hx311_4 hx311_5 hx311_6 hx311_7 hx311_8 hx313_0 hx313_1 hx313_2 hx313_3 hx313_4 hx313_5 hx313_6 hx313_7 hx313_8 hx315_0 hx315_1 hx315_2 hx315_3 hx315_4 hx315_5 hx315_6 hx315_7 hx315_8 hHeld ⊢
 refine pur HT_.out 0 (some 46) (bm 21 1) ?_
 refine pur HT_.out 1 (some 47) (bm 21 3) ?_
 refine pur HT_.out 2 (some 48) (bm 21 7) ?_
 refine pur HT_.out 3 (some 49) (bm 21 15) ?_
 refine pur HT_.out 6 (some 52) (bm 21 79) ?_
 refine pur HT_.out 7 (some 53) (bm 21 207) ?_
 refine pur HT_.out 8 (some 54) (bm 21 463) ?_
 refine pur HT_.out 9 (some 55) (bm 21 975) ?_
 refine take_ (i := 4) (N := some 50) (v := ?_) (a' := ?_) #[true, true, true, true, true, false, true, true, true, true, false, false, false, false, false, false, false, false, false, false, false] rfl rfl (take_ofW HT_.out HW_.out (by kernel_rfl)) (fun _ _ _ h => h) (Or.inl ⟨by rfl, ?_⟩) hHeld ?_ ?_
 rotate_left
 ·(
 rintro w' ⟨s0, s1, s2, s3, s4, s5, s6, s7, s8, s9, s10, s11, s12, s13, s14, s15, s16, s17, s18, s19, s20, s21, s22, s23, s24, s25, s26⟩
 go_simp
 with_reducible rfl)
 rotate_left
 ·(
 simp only [Act.put, List.setIfInBounds_toArray, List.set_cons_zero, List.set_cons_succ, i64_w, i32_w]
 rfl)
 refine take_ (i := 10) (N := some 56) (v := ?_) (a' := ?_) #[true, true, true, true, true, false, true, true, true, true, true, false, false, false, false, false, false, false, false, false, false] rfl rfl (take_ofW HT_.out HW_.out (by kernel_rfl)) (fun _ _ _ h => h) (Or.inl ⟨by rfl, ?_⟩) hHeld ?_ ?_
 rotate_left
 ·(
 rintro w' ⟨s0, s1, s2, s3, s4, s5, s6, s7, s8, s9, s10, s11, s12, s13, s14, s15, s16, s17, s18, s19, s20, s21, s22, s23, s24, s25, s26⟩
 go_simp
 with_reducible rfl)
 rotate_left
 ·(
 simp only [Act.put, List.setIfInBounds_toArray, List.set_cons_zero, List.set_cons_succ, i64_w, i32_w]
 rfl)
 refine one_ (i := 5) (N := some 51) #[true, true, true, true, true, true, true, true, true, true, true, false, false, false, false, false, false, false, false, false, false] rfl rfl (one_of HT_.out (by kernel_rfl)) (by decide) (fun K hK => ?_)
 refine goes_ Try.func29 (by kernel_rfl) rfl #[.slice Ao55 t290.length co55, .agg #[.int .i64 ((rd_T39 y308 x12_1).f0), .int .i64 ((rd_T39 y308 x12_1).f1), .int .i64 ((rd_T39 y308 x12_1).f2.f0), .int .i64 ((rd_T39 y308 x12_1).f2.f1), .int .i64 ((rd_T39 y308 x12_1).f2.f2), .int .i64 ((rd_T39 y308 x12_1).f2.f3.f0), .int .i64 ((rd_T39 y308 x12_1).f2.f3.f1), .int .i64 ((rd_T39 y308 x12_1).f2.f4), .int .i64 ((rd_T39 y308 x12_1).f2.f5)]] (by first | rfl | (refine wanted_on rfl rfl rfl ?_; first | assumption | (simp [*]; done))) rfl rfl (by (try simp only [List.map_toArray, List.map_cons, List.map_nil]); first | done | rfl | (simp only [List.length_drop, List.length_take]; rfl)) ?_
 with_reducible refine (determinant_Has.calls k1 _ _ t290 ((rd_T39 y308 x12_1).f0) ((rd_T39 y308 x12_1).f1) ((rd_T39 y308 x12_1).f2.f0) ((rd_T39 y308 x12_1).f2.f1) ((rd_T39 y308 x12_1).f2.f2) ((rd_T39 y308 x12_1).f2.f3.f0) ((rd_T39 y308 x12_1).f2.f3.f1) ((rd_T39 y308 x12_1).f2.f4) ((rd_T39 y308 x12_1).f2.f5) t312 _ ?side1 ?side2 A37.out).mono ?_
 (case side1 => repeat (first | exact (Kd.R_reads' HO_9.out).2.2 | (with_reducible refine Kd.C_alloc ?_ _) | (with_reducible refine Kd.C_drewN ?_ _) | (with_reducible refine Kd.C_drew ?_)))
 (case side2 => exact (Kd.R_reads' HO_9.out).2.1)
 rintro e w56 ⟨rfl, hb⟩
 have HS0_ := (hb.cell (World.block_lt_of_cell? _ _ (hHeld.1))).trans (hHeld.1)
 have HS1_ := (hb.cell (World.block_lt_of_cell? _ _ (hHeld.2.1))).trans (hHeld.2.1)
 have HS2_ := (hb.cell (World.block_lt_of_cell? _ _ (hHeld.2.2.1))).trans (hHeld.2.2.1)
 have HS3_ := (hb.cell (World.block_lt_of_cell? _ _ (hHeld.2.2.2.1))).trans (hHeld.2.2.2.1)
 have HS4_ := (hb.cell (World.block_lt_of_cell? _ _ (hHeld.2.2.2.2.1))).trans (hHeld.2.2.2.2.1)
 have HS5_ := (hb.cell (World.block_lt_of_cell? _ _ (hHeld.2.2.2.2.2.1))).trans (hHeld.2.2.2.2.2.1)
 have HS6_ := (hb.cell (World.block_lt_of_cell? _ _ (hHeld.2.2.2.2.2.2.1))).trans (hHeld.2.2.2.2.2.2.1)
 have HS7_ := (hb.cell (World.block_lt_of_cell? _ _ (hHeld.2.2.2.2.2.2.2.1))).trans (hHeld.2.2.2.2.2.2.2.1)
 have HS8_ := (hb.cell (World.block_lt_of_cell? _ _ (hHeld.2.2.2.2.2.2.2.2.1))).trans (hHeld.2.2.2.2.2.2.2.2.1)
 have HS9_ := (hb.cell (World.block_lt_of_cell? _ _ (hHeld.2.2.2.2.2.2.2.2.2.1))).trans (hHeld.2.2.2.2.2.2.2.2.2.1)
 have HS10_ := (hb.cell (World.block_lt_of_cell? _ _ (hHeld.2.2.2.2.2.2.2.2.2.2.1))).trans (hHeld.2.2.2.2.2.2.2.2.2.2.1)
 have HS11_ := (hb.cell (World.block_lt_of_cell? _ _ (hHeld.2.2.2.2.2.2.2.2.2.2.2.1))).trans (hHeld.2.2.2.2.2.2.2.2.2.2.2.1)
 have HS12_ := (hb.cell (World.block_lt_of_cell? _ _ (hHeld.2.2.2.2.2.2.2.2.2.2.2.2.1))).trans (hHeld.2.2.2.2.2.2.2.2.2.2.2.2.1)
 have HS13_ := (hb.cell (World.block_lt_of_cell? _ _ (hHeld.2.2.2.2.2.2.2.2.2.2.2.2.2.1))).trans (hHeld.2.2.2.2.2.2.2.2.2.2.2.2.2.1)
 have HS14_ := (hb.cell (World.block_lt_of_cell? _ _ (hHeld.2.2.2.2.2.2.2.2.2.2.2.2.2.2.1))).trans (hHeld.2.2.2.2.2.2.2.2.2.2.2.2.2.2.1)
 have HS15_ := (hb.cell (World.block_lt_of_cell? _ _ (hHeld.2.2.2.2.2.2.2.2.2.2.2.2.2.2.2.1))).trans (hHeld.2.2.2.2.2.2.2.2.2.2.2.2.2.2.2.1)
 have HS16_ := (hb.cell (World.block_lt_of_cell? _ _ (hHeld.2.2.2.2.2.2.2.2.2.2.2.2.2.2.2.2.1))).trans (hHeld.2.2.2.2.2.2.2.2.2.2.2.2.2.2.2.2.1)
 have HS17_ := (hb.cell (World.block_lt_of_cell? _ _ (hHeld.2.2.2.2.2.2.2.2.2.2.2.2.2.2.2.2.2.1))).trans (hHeld.2.2.2.2.2.2.2.2.2.2.2.2.2.2.2.2.2.1)
 have HS18_ := (hb.cell (World.block_lt_of_cell? _ _ (hHeld.2.2.2.2.2.2.2.2.2.2.2.2.2.2.2.2.2.2.1))).trans (hHeld.2.2.2.2.2.2.2.2.2.2.2.2.2.2.2.2.2.2.1)
 have HS19_ := (hb.cell (World.block_lt_of_cell? _ _ (hHeld.2.2.2.2.2.2.2.2.2.2.2.2.2.2.2.2.2.2.2.1))).trans (hHeld.2.2.2.2.2.2.2.2.2.2.2.2.2.2.2.2.2.2.2.1)
 have HS20_ := (hb.cell (World.block_lt_of_cell? _ _ (hHeld.2.2.2.2.2.2.2.2.2.2.2.2.2.2.2.2.2.2.2.2.1))).trans (hHeld.2.2.2.2.2.2.2.2.2.2.2.2.2.2.2.2.2.2.2.2.1)
 have HS21_ := (hb.cell (World.block_lt_of_cell? _ _ (hHeld.2.2.2.2.2.2.2.2.2.2.2.2.2.2.2.2.2.2.2.2.2.1))).trans (hHeld.2.2.2.2.2.2.2.2.2.2.2.2.2.2.2.2.2.2.2.2.2.1)
 have HS22_ := (hb.cell (World.block_lt_of_cell? _ _ (hHeld.2.2.2.2.2.2.2.2.2.2.2.2.2.2.2.2.2.2.2.2.2.2.1))).trans (hHeld.2.2.2.2.2.2.2.2.2.2.2.2.2.2.2.2.2.2.2.2.2.2.1)
 have HS23_ := (hb.cell (World.block_lt_of_cell? _ _ (hHeld.2.2.2.2.2.2.2.2.2.2.2.2.2.2.2.2.2.2.2.2.2.2.2.1))).trans (hHeld.2.2.2.2.2.2.2.2.2.2.2.2.2.2.2.2.2.2.2.2.2.2.2.1)
 have HS24_ := (hb.cell (World.block_lt_of_cell? _ _ (hHeld.2.2.2.2.2.2.2.2.2.2.2.2.2.2.2.2.2.2.2.2.2.2.2.2.1))).trans (hHeld.2.2.2.2.2.2.2.2.2.2.2.2.2.2.2.2.2.2.2.2.2.2.2.2.1)
 have HS25_ := (hb.cell (World.block_lt_of_cell? _ _ (hHeld.2.2.2.2.2.2.2.2.2.2.2.2.2.2.2.2.2.2.2.2.2.2.2.2.2.1))).trans (hHeld.2.2.2.2.2.2.2.2.2.2.2.2.2.2.2.2.2.2.2.2.2.2.2.2.2.1)
 have HS26_ := (hb.cell (World.block_lt_of_cell? _ _ (hHeld.2.2.2.2.2.2.2.2.2.2.2.2.2.2.2.2.2.2.2.2.2.2.2.2.2.2))).trans (hHeld.2.2.2.2.2.2.2.2.2.2.2.2.2.2.2.2.2.2.2.2.2.2.2.2.2.2)
 refine ⟨_, rfl, ?_⟩
 have n0_ := Aside0.mk (Kd.R_below (rq HO_6.out) hb)
 have n1_ := Aside0.mk (Kd.R_below (rq HO_7.out) hb)
 have n2_ := Aside0.mk (Kd.R_below (rq HO_8.out) hb)
 have n3_ := Aside0.mk (Kd.R_below (rq HO_9.out) hb)
 have n4_ := Aside0.mk (Kd.R_below (rq HO_10.out) hb)
 have n5_ := Aside0.mk (Kd.R_below (rq HO_11.out) hb)
 have n6_ := Aside0.mk (blk_below (g := gb273) (o := .cells #[.int .i64 a1_0, .int .i64 a1_1, .int .i64 a1_2, .int .i64 a1_3, .int .i64 a1_4, .int .i64 a1_5, .int .i64 a1_6, .int .i64 a1_7, .int .i64 a1_8] 39 (0, 0)) (kq BK273.out) hb)
 have n7_ := Aside0.mk (below_step (bq1 HB.out GE273.out) hb)
 clear HO_6
 clear HO_7
 clear HO_8
 clear HO_9
 clear HO_10
 clear HO_11
 clear BK273
 clear HB
 have HO_6 := n0_
 have HO_7 := n1_
 have HO_8 := n2_
 have HO_9 := n3_
 have HO_10 := n4_
 have HO_11 := n5_
 have BK273 := n6_
 have HB := n7_
 clear n0_ n1_ n2_ n3_ n4_ n5_ n6_ n7_
 (try clear hb)
 (try clear hb2)
 (try clear hk)
 (try clear hi)
 refine hK.out _ _ ⟨HS0_, HS1_, HS2_, HS3_, HS4_, HS5_, HS6_, HS7_, HS8_, HS9_, HS10_, HS11_, HS12_, HS13_, HS14_, HS15_, HS16_, HS17_, HS18_, HS19_, HS20_, HS21_, HS22_, HS23_, HS24_, HS25_, HS26_⟩ (fun hHeld => ?_)
 clear hK K
 refine norm_ (a' := ?_) ?_ ?_
 rotate_left
 ·(
 show Act.put _ (some 51) _ = _
 simp only [Act.put, List.setIfInBounds_toArray, List.set_cons_zero, List.set_cons_succ, i64_w, i32_w]
 rfl)
 refine one_ (i := 11) (N := some 57) #[true, true, true, true, true, true, true, true, true, true, true, true, false, false, false, false, false, false, false, false, false] rfl rfl (one_of HT_.out (by kernel_rfl)) (by decide) (fun K hK => ?_)
 refine goes_ Try.func29 (by kernel_rfl) rfl #[.slice Ao21 t278.length co21, .agg #[.int .i64 ((rd_T39 y308 x12_1).f0), .int .i64 ((rd_T39 y308 x12_1).f1), .int .i64 ((rd_T39 y308 x12_1).f2.f0), .int .i64 ((rd_T39 y308 x12_1).f2.f1), .int .i64 ((rd_T39 y308 x12_1).f2.f2), .int .i64 ((rd_T39 y308 x12_1).f2.f3.f0), .int .i64 ((rd_T39 y308 x12_1).f2.f3.f1), .int .i64 ((rd_T39 y308 x12_1).f2.f4), .int .i64 ((rd_T39 y308 x12_1).f2.f5)]] (by first | rfl | (refine wanted_on rfl rfl rfl ?_; first | assumption | (simp [*]; done))) rfl rfl (by (try simp only [List.map_toArray, List.map_cons, List.map_nil]); first | done | rfl | (simp only [List.length_drop, List.length_take]; rfl)) ?_
 with_reducible refine (determinant_Has.calls k1 _ _ t278 ((rd_T39 y308 x12_1).f0) ((rd_T39 y308 x12_1).f1) ((rd_T39 y308 x12_1).f2.f0) ((rd_T39 y308 x12_1).f2.f1) ((rd_T39 y308 x12_1).f2.f2) ((rd_T39 y308 x12_1).f2.f3.f0) ((rd_T39 y308 x12_1).f2.f3.f1) ((rd_T39 y308 x12_1).f2.f4) ((rd_T39 y308 x12_1).f2.f5) false _ ?side1 ?side2 A38.out).mono ?_
 (case side1 => repeat (first | exact (Kd.R_reads' HO_6.out).2.2 | (with_reducible refine Kd.C_alloc ?_ _) | (with_reducible refine Kd.C_drewN ?_ _) | (with_reducible refine Kd.C_drew ?_)))
 (case side2 => exact (Kd.R_reads' HO_6.out).2.1)
 rintro e w57 ⟨rfl, hb⟩
 have HS0_ := (hb.cell (World.block_lt_of_cell? _ _ (hHeld.1))).trans (hHeld.1)
 have HS1_ := (hb.cell (World.block_lt_of_cell? _ _ (hHeld.2.1))).trans (hHeld.2.1)
 have HS2_ := (hb.cell (World.block_lt_of_cell? _ _ (hHeld.2.2.1))).trans (hHeld.2.2.1)
 have HS3_ := (hb.cell (World.block_lt_of_cell? _ _ (hHeld.2.2.2.1))).trans (hHeld.2.2.2.1)
 have HS4_ := (hb.cell (World.block_lt_of_cell? _ _ (hHeld.2.2.2.2.1))).trans (hHeld.2.2.2.2.1)
 have HS5_ := (hb.cell (World.block_lt_of_cell? _ _ (hHeld.2.2.2.2.2.1))).trans (hHeld.2.2.2.2.2.1)
 have HS6_ := (hb.cell (World.block_lt_of_cell? _ _ (hHeld.2.2.2.2.2.2.1))).trans (hHeld.2.2.2.2.2.2.1)
 have HS7_ := (hb.cell (World.block_lt_of_cell? _ _ (hHeld.2.2.2.2.2.2.2.1))).trans (hHeld.2.2.2.2.2.2.2.1)
 have HS8_ := (hb.cell (World.block_lt_of_cell? _ _ (hHeld.2.2.2.2.2.2.2.2.1))).trans (hHeld.2.2.2.2.2.2.2.2.1)
 have HS9_ := (hb.cell (World.block_lt_of_cell? _ _ (hHeld.2.2.2.2.2.2.2.2.2.1))).trans (hHeld.2.2.2.2.2.2.2.2.2.1)
 have HS10_ := (hb.cell (World.block_lt_of_cell? _ _ (hHeld.2.2.2.2.2.2.2.2.2.2.1))).trans (hHeld.2.2.2.2.2.2.2.2.2.2.1)
 have HS11_ := (hb.cell (World.block_lt_of_cell? _ _ (hHeld.2.2.2.2.2.2.2.2.2.2.2.1))).trans (hHeld.2.2.2.2.2.2.2.2.2.2.2.1)
 have HS12_ := (hb.cell (World.block_lt_of_cell? _ _ (hHeld.2.2.2.2.2.2.2.2.2.2.2.2.1))).trans (hHeld.2.2.2.2.2.2.2.2.2.2.2.2.1)
 have HS13_ := (hb.cell (World.block_lt_of_cell? _ _ (hHeld.2.2.2.2.2.2.2.2.2.2.2.2.2.1))).trans (hHeld.2.2.2.2.2.2.2.2.2.2.2.2.2.1)
 have HS14_ := (hb.cell (World.block_lt_of_cell? _ _ (hHeld.2.2.2.2.2.2.2.2.2.2.2.2.2.2.1))).trans (hHeld.2.2.2.2.2.2.2.2.2.2.2.2.2.2.1)
 have HS15_ := (hb.cell (World.block_lt_of_cell? _ _ (hHeld.2.2.2.2.2.2.2.2.2.2.2.2.2.2.2.1))).trans (hHeld.2.2.2.2.2.2.2.2.2.2.2.2.2.2.2.1)
 have HS16_ := (hb.cell (World.block_lt_of_cell? _ _ (hHeld.2.2.2.2.2.2.2.2.2.2.2.2.2.2.2.2.1))).trans (hHeld.2.2.2.2.2.2.2.2.2.2.2.2.2.2.2.2.1)
 have HS17_ := (hb.cell (World.block_lt_of_cell? _ _ (hHeld.2.2.2.2.2.2.2.2.2.2.2.2.2.2.2.2.2.1))).trans (hHeld.2.2.2.2.2.2.2.2.2.2.2.2.2.2.2.2.2.1)
 have HS18_ := (hb.cell (World.block_lt_of_cell? _ _ (hHeld.2.2.2.2.2.2.2.2.2.2.2.2.2.2.2.2.2.2.1))).trans (hHeld.2.2.2.2.2.2.2.2.2.2.2.2.2.2.2.2.2.2.1)
 have HS19_ := (hb.cell (World.block_lt_of_cell? _ _ (hHeld.2.2.2.2.2.2.2.2.2.2.2.2.2.2.2.2.2.2.2.1))).trans (hHeld.2.2.2.2.2.2.2.2.2.2.2.2.2.2.2.2.2.2.2.1)
 have HS20_ := (hb.cell (World.block_lt_of_cell? _ _ (hHeld.2.2.2.2.2.2.2.2.2.2.2.2.2.2.2.2.2.2.2.2.1))).trans (hHeld.2.2.2.2.2.2.2.2.2.2.2.2.2.2.2.2.2.2.2.2.1)
 have HS21_ := (hb.cell (World.block_lt_of_cell? _ _ (hHeld.2.2.2.2.2.2.2.2.2.2.2.2.2.2.2.2.2.2.2.2.2.1))).trans (hHeld.2.2.2.2.2.2.2.2.2.2.2.2.2.2.2.2.2.2.2.2.2.1)
 have HS22_ := (hb.cell (World.block_lt_of_cell? _ _ (hHeld.2.2.2.2.2.2.2.2.2.2.2.2.2.2.2.2.2.2.2.2.2.2.1))).trans (hHeld.2.2.2.2.2.2.2.2.2.2.2.2.2.2.2.2.2.2.2.2.2.2.1)
 have HS23_ := (hb.cell (World.block_lt_of_cell? _ _ (hHeld.2.2.2.2.2.2.2.2.2.2.2.2.2.2.2.2.2.2.2.2.2.2.2.1))).trans (hHeld.2.2.2.2.2.2.2.2.2.2.2.2.2.2.2.2.2.2.2.2.2.2.2.1)
 have HS24_ := (hb.cell (World.block_lt_of_cell? _ _ (hHeld.2.2.2.2.2.2.2.2.2.2.2.2.2.2.2.2.2.2.2.2.2.2.2.2.1))).trans (hHeld.2.2.2.2.2.2.2.2.2.2.2.2.2.2.2.2.2.2.2.2.2.2.2.2.1)
 have HS25_ := (hb.cell (World.block_lt_of_cell? _ _ (hHeld.2.2.2.2.2.2.2.2.2.2.2.2.2.2.2.2.2.2.2.2.2.2.2.2.2.1))).trans (hHeld.2.2.2.2.2.2.2.2.2.2.2.2.2.2.2.2.2.2.2.2.2.2.2.2.2.1)
 have HS26_ := (hb.cell (World.block_lt_of_cell? _ _ (hHeld.2.2.2.2.2.2.2.2.2.2.2.2.2.2.2.2.2.2.2.2.2.2.2.2.2.2))).trans (hHeld.2.2.2.2.2.2.2.2.2.2.2.2.2.2.2.2.2.2.2.2.2.2.2.2.2.2)
 refine ⟨_, rfl, ?_⟩
 have n0_ := Aside0.mk (Kd.R_below (rq HO_6.out) hb)
 have n1_ := Aside0.mk (Kd.R_below (rq HO_7.out) hb)
 have n2_ := Aside0.mk (Kd.R_below (rq HO_8.out) hb)
 have n3_ := Aside0.mk (Kd.R_below (rq HO_9.out) hb)
 have n4_ := Aside0.mk (Kd.R_below (rq HO_10.out) hb)
 have n5_ := Aside0.mk (Kd.R_below (rq HO_11.out) hb)
 have n6_ := Aside0.mk (blk_below (g := gb273) (o := .cells #[.int .i64 a1_0, .int .i64 a1_1, .int .i64 a1_2, .int .i64 a1_3, .int .i64 a1_4, .int .i64 a1_5, .int .i64 a1_6, .int .i64 a1_7, .int .i64 a1_8] 39 (0, 0)) (kq BK273.out) hb)
 have n7_ := Aside0.mk (below_step (bq1 HB.out GE273.out) hb)
 clear HO_6
 clear HO_7
 clear HO_8
 clear HO_9
 clear HO_10
 clear HO_11
 clear BK273
 clear HB
 have HO_6 := n0_
 have HO_7 := n1_
 have HO_8 := n2_
 have HO_9 := n3_
 have HO_10 := n4_
 have HO_11 := n5_
 have BK273 := n6_
 have HB := n7_
 clear n0_ n1_ n2_ n3_ n4_ n5_ n6_ n7_
 (try clear hb)
 (try clear hb2)
 (try clear hk)
 (try clear hi)
 refine hK.out _ _ ⟨HS0_, HS1_, HS2_, HS3_, HS4_, HS5_, HS6_, HS7_, HS8_, HS9_, HS10_, HS11_, HS12_, HS13_, HS14_, HS15_, HS16_, HS17_, HS18_, HS19_, HS20_, HS21_, HS22_, HS23_, HS24_, HS25_, HS26_⟩ (fun hHeld => ?_)
 clear hK K
 refine norm_ (a' := ?_) ?_ ?_
 rotate_left
 ·(
 show Act.put _ (some 57) _ = _
 simp only [Act.put, List.setIfInBounds_toArray, List.set_cons_zero, List.set_cons_succ, i64_w, i32_w]
 rfl)
 refine pur HT_.out 12 (some 58) (bm 21 8191) ?_
 refine pur HT_.out 13 (some 59) (bm 21 16383) ?_
 refine pur HT_.out 14 (some 60) (bm 21 32767) ?_
 refine pur HT_.out 15 (some 61) (bm 21 65535) ?_
 refine pur HT_.out 16 (some 62) (bm 21 131071) ?_
 refine take_ (i := 17) (N := some 63) (v := ?_) (a' := ?_) #[true, true, true, true, true, true, true, true, true, true, true, true, true, true, true, true, true, true, false, false, false] rfl rfl (take_ofW HT_.out HW_.out (by kernel_rfl)) (fun _ _ _ h => h) (Or.inl ⟨by rfl, ?_⟩) hHeld ?_ ?_
 rotate_left
 ·(
 rintro w' ⟨s0, s1, s2, s3, s4, s5, s6, s7, s8, s9, s10, s11, s12, s13, s14, s15, s16, s17, s18, s19, s20, s21, s22, s23, s24, s25, s26⟩
 go_simp
 with_reducible rfl)
 rotate_left
 ·(
 simp only [Act.put, List.setIfInBounds_toArray, List.set_cons_zero, List.set_cons_succ, i64_w, i32_w]
 rfl)
 refine one_ (i := 18) (N := some 64) #[true, true, true, true, true, true, true, true, true, true, true, true, true, true, true, true, true, true, true, false, false] rfl rfl (one_of HT_.out (by kernel_rfl)) (by decide) (fun K hK => ?_)
 refine goes_ Try.func29 (by kernel_rfl) rfl #[.slice Ao22 t282.length co22, .agg #[.int .i64 ((rd_T39 y308 x12_1).f0), .int .i64 ((rd_T39 y308 x12_1).f1), .int .i64 ((rd_T39 y308 x12_1).f2.f0), .int .i64 ((rd_T39 y308 x12_1).f2.f1), .int .i64 ((rd_T39 y308 x12_1).f2.f2), .int .i64 ((rd_T39 y308 x12_1).f2.f3.f0), .int .i64 ((rd_T39 y308 x12_1).f2.f3.f1), .int .i64 ((rd_T39 y308 x12_1).f2.f4), .int .i64 ((rd_T39 y308 x12_1).f2.f5)]] (by first | rfl | (refine wanted_on rfl rfl rfl ?_; first | assumption | (simp [*]; done))) rfl rfl (by (try simp only [List.map_toArray, List.map_cons, List.map_nil]); first | done | rfl | (simp only [List.length_drop, List.length_take]; rfl)) ?_
 with_reducible refine (determinant_Has.calls k1 _ _ t282 ((rd_T39 y308 x12_1).f0) ((rd_T39 y308 x12_1).f1) ((rd_T39 y308 x12_1).f2.f0) ((rd_T39 y308 x12_1).f2.f1) ((rd_T39 y308 x12_1).f2.f2) ((rd_T39 y308 x12_1).f2.f3.f0) ((rd_T39 y308 x12_1).f2.f3.f1) ((rd_T39 y308 x12_1).f2.f4) ((rd_T39 y308 x12_1).f2.f5) t316 _ ?side1 ?side2 A51.out).mono ?_
 (case side1 => repeat (first | exact (Kd.R_reads' HO_7.out).2.2 | (with_reducible refine Kd.C_alloc ?_ _) | (with_reducible refine Kd.C_drewN ?_ _) | (with_reducible refine Kd.C_drew ?_)))
 (case side2 => exact (Kd.R_reads' HO_7.out).2.1)
 rintro e w58 ⟨rfl, hb⟩
 have HS0_ := (hb.cell (World.block_lt_of_cell? _ _ (hHeld.1))).trans (hHeld.1)
 have HS1_ := (hb.cell (World.block_lt_of_cell? _ _ (hHeld.2.1))).trans (hHeld.2.1)
 have HS2_ := (hb.cell (World.block_lt_of_cell? _ _ (hHeld.2.2.1))).trans (hHeld.2.2.1)
 have HS3_ := (hb.cell (World.block_lt_of_cell? _ _ (hHeld.2.2.2.1))).trans (hHeld.2.2.2.1)
 have HS4_ := (hb.cell (World.block_lt_of_cell? _ _ (hHeld.2.2.2.2.1))).trans (hHeld.2.2.2.2.1)
 have HS5_ := (hb.cell (World.block_lt_of_cell? _ _ (hHeld.2.2.2.2.2.1))).trans (hHeld.2.2.2.2.2.1)
 have HS6_ := (hb.cell (World.block_lt_of_cell? _ _ (hHeld.2.2.2.2.2.2.1))).trans (hHeld.2.2.2.2.2.2.1)
 have HS7_ := (hb.cell (World.block_lt_of_cell? _ _ (hHeld.2.2.2.2.2.2.2.1))).trans (hHeld.2.2.2.2.2.2.2.1)
 have HS8_ := (hb.cell (World.block_lt_of_cell? _ _ (hHeld.2.2.2.2.2.2.2.2.1))).trans (hHeld.2.2.2.2.2.2.2.2.1)
 have HS9_ := (hb.cell (World.block_lt_of_cell? _ _ (hHeld.2.2.2.2.2.2.2.2.2.1))).trans (hHeld.2.2.2.2.2.2.2.2.2.1)
 have HS10_ := (hb.cell (World.block_lt_of_cell? _ _ (hHeld.2.2.2.2.2.2.2.2.2.2.1))).trans (hHeld.2.2.2.2.2.2.2.2.2.2.1)
 have HS11_ := (hb.cell (World.block_lt_of_cell? _ _ (hHeld.2.2.2.2.2.2.2.2.2.2.2.1))).trans (hHeld.2.2.2.2.2.2.2.2.2.2.2.1)
 have HS12_ := (hb.cell (World.block_lt_of_cell? _ _ (hHeld.2.2.2.2.2.2.2.2.2.2.2.2.1))).trans (hHeld.2.2.2.2.2.2.2.2.2.2.2.2.1)
 have HS13_ := (hb.cell (World.block_lt_of_cell? _ _ (hHeld.2.2.2.2.2.2.2.2.2.2.2.2.2.1))).trans (hHeld.2.2.2.2.2.2.2.2.2.2.2.2.2.1)
 have HS14_ := (hb.cell (World.block_lt_of_cell? _ _ (hHeld.2.2.2.2.2.2.2.2.2.2.2.2.2.2.1))).trans (hHeld.2.2.2.2.2.2.2.2.2.2.2.2.2.2.1)
 have HS15_ := (hb.cell (World.block_lt_of_cell? _ _ (hHeld.2.2.2.2.2.2.2.2.2.2.2.2.2.2.2.1))).trans (hHeld.2.2.2.2.2.2.2.2.2.2.2.2.2.2.2.1)
 have HS16_ := (hb.cell (World.block_lt_of_cell? _ _ (hHeld.2.2.2.2.2.2.2.2.2.2.2.2.2.2.2.2.1))).trans (hHeld.2.2.2.2.2.2.2.2.2.2.2.2.2.2.2.2.1)
 have HS17_ := (hb.cell (World.block_lt_of_cell? _ _ (hHeld.2.2.2.2.2.2.2.2.2.2.2.2.2.2.2.2.2.1))).trans (hHeld.2.2.2.2.2.2.2.2.2.2.2.2.2.2.2.2.2.1)
 have HS18_ := (hb.cell (World.block_lt_of_cell? _ _ (hHeld.2.2.2.2.2.2.2.2.2.2.2.2.2.2.2.2.2.2.1))).trans (hHeld.2.2.2.2.2.2.2.2.2.2.2.2.2.2.2.2.2.2.1)
 have HS19_ := (hb.cell (World.block_lt_of_cell? _ _ (hHeld.2.2.2.2.2.2.2.2.2.2.2.2.2.2.2.2.2.2.2.1))).trans (hHeld.2.2.2.2.2.2.2.2.2.2.2.2.2.2.2.2.2.2.2.1)
 have HS20_ := (hb.cell (World.block_lt_of_cell? _ _ (hHeld.2.2.2.2.2.2.2.2.2.2.2.2.2.2.2.2.2.2.2.2.1))).trans (hHeld.2.2.2.2.2.2.2.2.2.2.2.2.2.2.2.2.2.2.2.2.1)
 have HS21_ := (hb.cell (World.block_lt_of_cell? _ _ (hHeld.2.2.2.2.2.2.2.2.2.2.2.2.2.2.2.2.2.2.2.2.2.1))).trans (hHeld.2.2.2.2.2.2.2.2.2.2.2.2.2.2.2.2.2.2.2.2.2.1)
 have HS22_ := (hb.cell (World.block_lt_of_cell? _ _ (hHeld.2.2.2.2.2.2.2.2.2.2.2.2.2.2.2.2.2.2.2.2.2.2.1))).trans (hHeld.2.2.2.2.2.2.2.2.2.2.2.2.2.2.2.2.2.2.2.2.2.2.1)
 have HS23_ := (hb.cell (World.block_lt_of_cell? _ _ (hHeld.2.2.2.2.2.2.2.2.2.2.2.2.2.2.2.2.2.2.2.2.2.2.2.1))).trans (hHeld.2.2.2.2.2.2.2.2.2.2.2.2.2.2.2.2.2.2.2.2.2.2.2.1)
 have HS24_ := (hb.cell (World.block_lt_of_cell? _ _ (hHeld.2.2.2.2.2.2.2.2.2.2.2.2.2.2.2.2.2.2.2.2.2.2.2.2.1))).trans (hHeld.2.2.2.2.2.2.2.2.2.2.2.2.2.2.2.2.2.2.2.2.2.2.2.2.1)
 have HS25_ := (hb.cell (World.block_lt_of_cell? _ _ (hHeld.2.2.2.2.2.2.2.2.2.2.2.2.2.2.2.2.2.2.2.2.2.2.2.2.2.1))).trans (hHeld.2.2.2.2.2.2.2.2.2.2.2.2.2.2.2.2.2.2.2.2.2.2.2.2.2.1)
 have HS26_ := (hb.cell (World.block_lt_of_cell? _ _ (hHeld.2.2.2.2.2.2.2.2.2.2.2.2.2.2.2.2.2.2.2.2.2.2.2.2.2.2))).trans (hHeld.2.2.2.2.2.2.2.2.2.2.2.2.2.2.2.2.2.2.2.2.2.2.2.2.2.2)
 refine ⟨_, rfl, ?_⟩
 have n0_ := Aside0.mk (Kd.R_below (rq HO_6.out) hb)
 have n1_ := Aside0.mk (Kd.R_below (rq HO_7.out) hb)
 have n2_ := Aside0.mk (Kd.R_below (rq HO_8.out) hb)
 have n3_ := Aside0.mk (Kd.R_below (rq HO_9.out) hb)
 have n4_ := Aside0.mk (Kd.R_below (rq HO_10.out) hb)
 have n5_ := Aside0.mk (Kd.R_below (rq HO_11.out) hb)
 have n6_ := Aside0.mk (blk_below (g := gb273) (o := .cells #[.int .i64 a1_0, .int .i64 a1_1, .int .i64 a1_2, .int .i64 a1_3, .int .i64 a1_4, .int .i64 a1_5, .int .i64 a1_6, .int .i64 a1_7, .int .i64 a1_8] 39 (0, 0)) (kq BK273.out) hb)
 have n7_ := Aside0.mk (below_step (bq1 HB.out GE273.out) hb)
 clear HO_6
 clear HO_7
 clear HO_8
 clear HO_9
 clear HO_10
 clear HO_11
 clear BK273
 clear HB
 have HO_6 := n0_
 have HO_7 := n1_
 have HO_8 := n2_
 have HO_9 := n3_
 have HO_10 := n4_
 have HO_11 := n5_
 have BK273 := n6_
 have HB := n7_
 clear n0_ n1_ n2_ n3_ n4_ n5_ n6_ n7_
 (try clear hb)
 (try clear hb2)
 (try clear hk)
 (try clear hi)
 refine hK.out _ _ ⟨HS0_, HS1_, HS2_, HS3_, HS4_, HS5_, HS6_, HS7_, HS8_, HS9_, HS10_, HS11_, HS12_, HS13_, HS14_, HS15_, HS16_, HS17_, HS18_, HS19_, HS20_, HS21_, HS22_, HS23_, HS24_, HS25_, HS26_⟩ (fun hHeld => ?_)
 clear hK K
 refine norm_ (a' := ?_) ?_ ?_
 rotate_left
 ·(
 show Act.put _ (some 64) _ = _
 simp only [Act.put, List.setIfInBounds_toArray, List.set_cons_zero, List.set_cons_succ, i64_w, i32_w]
 rfl)
 refine pur HT_.out 19 (some 65) (bm 21 1048575) ?_
 refine pur HT_.out 20 (some 66) (bm 21 2097151) ?_
 refine done_ (done_of HT_.out (by kernel_rfl)) ?_
 try go_wp2
 go_ret
 exact ⟨by first | rfl | (simp [errW_none, errW_some] <;> rfl) | (simp [*, errW_none, errW_some] <;> rfl), bq1 HB.out GE273.out⟩)
 ·(
 rw [if_neg c52] at H
 have c52b0 : (t312 != t316) = false := by simpa using c52
 (try (have c52b1 : decide (t312 = t316) = true := by simpa using c52))
 (try (have c52b2 : (t312 == t316) = true := by simpa using c52))
 clear c52
 have H' := Aside0.mk H
 clear H
 obtain ⟨Ao59, co59, eo59⟩ := Kd.R_slice HO_11.out
 subst eo59
 try go_wp2
 have n0_ := Aside0.mk (Kd.R_drew HO_6.out)
 have n1_ := Aside0.mk (Kd.R_drew HO_7.out)
 have n2_ := Aside0.mk (Kd.R_drew HO_8.out)
 have n3_ := Aside0.mk (Kd.R_drew HO_9.out)
 have n4_ := Aside0.mk (Kd.R_drew HO_10.out)
 have n5_ := Aside0.mk (Kd.R_drew HO_11.out)
 have n6_ := Aside0.mk (blk_drew BK273.out)
 have n7_ := Aside0.mk (below_drew1 HB.out)
 clear HO_6
 clear HO_7
 clear HO_8
 clear HO_9
 clear HO_10
 clear HO_11
 clear BK273
 clear HB
 have HO_6 := n0_
 have HO_7 := n1_
 have HO_8 := n2_
 have HO_9 := n3_
 have HO_10 := n4_
 have HO_11 := n5_
 have BK273 := n6_
 have HB := n7_
 clear n0_ n1_ n2_ n3_ n4_ n5_ n6_ n7_
 have p311 : 0 ≤ (x12_1 : Int) := of_decide_eq_true (by first | (with_reducible assumption) | assumption)
 have q311 : x12_1 < (y308.length : Int) := of_decide_eq_true (by first | (with_reducible assumption) | assumption)
 obtain ⟨ad311, e311, hx311_0, hx311_1, hx311_2, hx311_3, hx311_4, hx311_5, hx311_6, hx311_7, hx311_8⟩ := at_T39 (Kd.R_reads' HO_11.out).2.2 x12_1 p311 q311
 cases e311
 replace p311 := eq_true p311
 replace q311 := eq_true q311
 have p313 : 0 ≤ (x12_1 : Int) := of_decide_eq_true (by first | (with_reducible assumption) | assumption)
 have q313 : x12_1 < (y308.length : Int) := of_decide_eq_true (by first | (with_reducible assumption) | assumption)
 obtain ⟨ad313, e313, hx313_0, hx313_1, hx313_2, hx313_3, hx313_4, hx313_5, hx313_6, hx313_7, hx313_8⟩ := at_T39 (Kd.R_reads' HO_11.out).2.2 x12_1 p313 q313
 obtain rfl : ad311 = ad313 := (by injection e313)
 replace p313 := eq_true p313
 replace q313 := eq_true q313
 obtain ⟨Ao61, co61, eo61⟩ := Kd.R_slice HO_9.out
 (first | subst eo61 | (injection eo61 with f1_ f2_ f3_; have f4_ := f1_.symm; have f5_ := f3_.symm; clear f1_ f2_ f3_; subst f4_; subst f5_))
 have p315 : 0 ≤ (x12_1 : Int) := of_decide_eq_true (by first | (with_reducible assumption) | assumption)
 have q315 : x12_1 < (y308.length : Int) := of_decide_eq_true (by first | (with_reducible assumption) | assumption)
 obtain ⟨ad315, e315, hx315_0, hx315_1, hx315_2, hx315_3, hx315_4, hx315_5, hx315_6, hx315_7, hx315_8⟩ := at_T39 (Kd.R_reads' HO_11.out).2.2 x12_1 p315 q315
 obtain rfl : ad311 = ad315 := (by injection e315)
 replace p315 := eq_true p315
 replace q315 := eq_true q315
 refine start_ (n := 21) (S := fun w' => w'.cell? (ad311.add ((x12_1).toNat * 9)) = some (.int .i64 ((rd_T39 y308 x12_1).f0)) ∧ w'.cell? ⟨(ad311.add ((x12_1).toNat * 9)).block, (ad311.add ((x12_1).toNat * 9)).off + 1, none⟩ = some (.int .i64 ((rd_T39 y308 x12_1).f1)) ∧ w'.cell? ⟨(ad311.add ((x12_1).toNat * 9)).block, (ad311.add ((x12_1).toNat * 9)).off + 2, none⟩ = some (.int .i64 ((rd_T39 y308 x12_1).f2.f0)) ∧ w'.cell? ⟨(ad311.add ((x12_1).toNat * 9)).block, (ad311.add ((x12_1).toNat * 9)).off + 3, none⟩ = some (.int .i64 ((rd_T39 y308 x12_1).f2.f1)) ∧ w'.cell? ⟨(ad311.add ((x12_1).toNat * 9)).block, (ad311.add ((x12_1).toNat * 9)).off + 4, none⟩ = some (.int .i64 ((rd_T39 y308 x12_1).f2.f2)) ∧ w'.cell? ⟨(ad311.add ((x12_1).toNat * 9)).block, (ad311.add ((x12_1).toNat * 9)).off + 5, none⟩ = some (.int .i64 ((rd_T39 y308 x12_1).f2.f3.f0)) ∧ w'.cell? ⟨(ad311.add ((x12_1).toNat * 9)).block, (ad311.add ((x12_1).toNat * 9)).off + 6, none⟩ = some (.int .i64 ((rd_T39 y308 x12_1).f2.f3.f1)) ∧ w'.cell? ⟨(ad311.add ((x12_1).toNat * 9)).block, (ad311.add ((x12_1).toNat * 9)).off + 7, none⟩ = some (.int .i64 ((rd_T39 y308 x12_1).f2.f4)) ∧ w'.cell? ⟨(ad311.add ((x12_1).toNat * 9)).block, (ad311.add ((x12_1).toNat * 9)).off + 8, none⟩ = some (.int .i64 ((rd_T39 y308 x12_1).f2.f5)) ∧ w'.cell? (ad311.add ((x12_1).toNat * 9)) = some (.int .i64 ((rd_T39 y308 x12_1).f0)) ∧ w'.cell? ⟨(ad311.add ((x12_1).toNat * 9)).block, (ad311.add ((x12_1).toNat * 9)).off + 1, none⟩ = some (.int .i64 ((rd_T39 y308 x12_1).f1)) ∧ w'.cell? ⟨(ad311.add ((x12_1).toNat * 9)).block, (ad311.add ((x12_1).toNat * 9)).off + 2, none⟩ = some (.int .i64 ((rd_T39 y308 x12_1).f2.f0)) ∧ w'.cell? ⟨(ad311.add ((x12_1).toNat * 9)).block, (ad311.add ((x12_1).toNat * 9)).off + 3, none⟩ = some (.int .i64 ((rd_T39 y308 x12_1).f2.f1)) ∧ w'.cell? ⟨(ad311.add ((x12_1).toNat * 9)).block, (ad311.add ((x12_1).toNat * 9)).off + 4, none⟩ = some (.int .i64 ((rd_T39 y308 x12_1).f2.f2)) ∧ w'.cell? ⟨(ad311.add ((x12_1).toNat * 9)).block, (ad311.add ((x12_1).toNat * 9)).off + 5, none⟩ = some (.int .i64 ((rd_T39 y308 x12_1).f2.f3.f0)) ∧ w'.cell? ⟨(ad311.add ((x12_1).toNat * 9)).block, (ad311.add ((x12_1).toNat * 9)).off + 6, none⟩ = some (.int .i64 ((rd_T39 y308 x12_1).f2.f3.f1)) ∧ w'.cell? ⟨(ad311.add ((x12_1).toNat * 9)).block, (ad311.add ((x12_1).toNat * 9)).off + 7, none⟩ = some (.int .i64 ((rd_T39 y308 x12_1).f2.f4)) ∧ w'.cell? ⟨(ad311.add ((x12_1).toNat * 9)).block, (ad311.add ((x12_1).toNat * 9)).off + 8, none⟩ = some (.int .i64 ((rd_T39 y308 x12_1).f2.f5)) ∧ w'.cell? (ad311.add ((x12_1).toNat * 9)) = some (.int .i64 ((rd_T39 y308 x12_1).f0)) ∧ w'.cell? ⟨(ad311.add ((x12_1).toNat * 9)).block, (ad311.add ((x12_1).toNat * 9)).off + 1, none⟩ = some (.int .i64 ((rd_T39 y308 x12_1).f1)) ∧ w'.cell? ⟨(ad311.add ((x12_1).toNat * 9)).block, (ad311.add ((x12_1).toNat * 9)).off + 2, none⟩ = some (.int .i64 ((rd_T39 y308 x12_1).f2.f0)) ∧ w'.cell? ⟨(ad311.add ((x12_1).toNat * 9)).block, (ad311.add ((x12_1).toNat * 9)).off + 3, none⟩ = some (.int .i64 ((rd_T39 y308 x12_1).f2.f1)) ∧ w'.cell? ⟨(ad311.add ((x12_1).toNat * 9)).block, (ad311.add ((x12_1).toNat * 9)).off + 4, none⟩ = some (.int .i64 ((rd_T39 y308 x12_1).f2.f2)) ∧ w'.cell? ⟨(ad311.add ((x12_1).toNat * 9)).block, (ad311.add ((x12_1).toNat * 9)).off + 5, none⟩ = some (.int .i64 ((rd_T39 y308 x12_1).f2.f3.f0)) ∧ w'.cell? ⟨(ad311.add ((x12_1).toNat * 9)).block, (ad311.add ((x12_1).toNat * 9)).off + 6, none⟩ = some (.int .i64 ((rd_T39 y308 x12_1).f2.f3.f1)) ∧ w'.cell? ⟨(ad311.add ((x12_1).toNat * 9)).block, (ad311.add ((x12_1).toNat * 9)).off + 7, none⟩ = some (.int .i64 ((rd_T39 y308 x12_1).f2.f4)) ∧ w'.cell? ⟨(ad311.add ((x12_1).toNat * 9)).block, (ad311.add ((x12_1).toNat * 9)).off + 8, none⟩ = some (.int .i64 ((rd_T39 y308 x12_1).f2.f5))) (ds := []) #[false, false, false, false, false, false, false, false, false, false, false, false, false, false, false, false, false, false, false, false, false] (by kernel_rfl) rfl rfl ⟨hx311_0, hx311_1, hx311_2, hx311_3, hx311_4, hx311_5, hx311_6, hx311_7, hx311_8, hx313_0, hx313_1, hx313_2, hx313_3, hx313_4, hx313_5, hx313_6, hx313_7, hx313_8, hx315_0, hx315_1, hx315_2, hx315_3, hx315_4, hx315_5, hx315_6, hx315_7, hx315_8⟩ (fun hHeld => ?_); refine with_tabW rollbacknetlaw27_DeterminantUnions.tab11 rollbacknetlaw27_DeterminantUnions.bits11 (fun HT_ HW_ => ?_)
 generalize wr.drew = w60 at HO_6 HO_7 HO_8 HO_9 HO_10 HO_11 BK273 HB hx311_0 hx311_1 hx311_2 hx311_3 hx311_4 hx311_5 hx311_6 hx311_7 hx311_8 hx313_0 hx313_1 hx313_2 hx313_3 hx313_4 hx313_5 hx313_6 hx313_7 hx313_8 hx315_0 hx315_1 hx315_2 hx315_3 hx315_4 hx315_5 hx315_6 hx315_7 hx315_8 hHeld ⊢
 refine pur HT_.out 0 (some 46) (bm 21 1) ?_
 refine pur HT_.out 1 (some 47) (bm 21 3) ?_
 refine pur HT_.out 2 (some 48) (bm 21 7) ?_
 refine pur HT_.out 3 (some 49) (bm 21 15) ?_
 refine pur HT_.out 6 (some 52) (bm 21 79) ?_
 refine pur HT_.out 7 (some 53) (bm 21 207) ?_
 refine pur HT_.out 8 (some 54) (bm 21 463) ?_
 refine pur HT_.out 9 (some 55) (bm 21 975) ?_
 refine take_ (i := 4) (N := some 50) (v := ?_) (a' := ?_) #[true, true, true, true, true, false, true, true, true, true, false, false, false, false, false, false, false, false, false, false, false] rfl rfl (take_ofW HT_.out HW_.out (by kernel_rfl)) (fun _ _ _ h => h) (Or.inl ⟨by rfl, ?_⟩) hHeld ?_ ?_
 rotate_left
 ·(
 rintro w' ⟨s0, s1, s2, s3, s4, s5, s6, s7, s8, s9, s10, s11, s12, s13, s14, s15, s16, s17, s18, s19, s20, s21, s22, s23, s24, s25, s26⟩
 go_simp
 with_reducible rfl)
 rotate_left
 ·(
 simp only [Act.put, List.setIfInBounds_toArray, List.set_cons_zero, List.set_cons_succ, i64_w, i32_w]
 rfl)
 refine take_ (i := 10) (N := some 56) (v := ?_) (a' := ?_) #[true, true, true, true, true, false, true, true, true, true, true, false, false, false, false, false, false, false, false, false, false] rfl rfl (take_ofW HT_.out HW_.out (by kernel_rfl)) (fun _ _ _ h => h) (Or.inl ⟨by rfl, ?_⟩) hHeld ?_ ?_
 rotate_left
 ·(
 rintro w' ⟨s0, s1, s2, s3, s4, s5, s6, s7, s8, s9, s10, s11, s12, s13, s14, s15, s16, s17, s18, s19, s20, s21, s22, s23, s24, s25, s26⟩
 go_simp
 with_reducible rfl)
 rotate_left
 ·(
 simp only [Act.put, List.setIfInBounds_toArray, List.set_cons_zero, List.set_cons_succ, i64_w, i32_w]
 rfl)
 refine one_ (i := 5) (N := some 51) #[true, true, true, true, true, true, true, true, true, true, true, false, false, false, false, false, false, false, false, false, false] rfl rfl (one_of HT_.out (by kernel_rfl)) (by decide) (fun K hK => ?_)
 refine goes_ Try.func29 (by kernel_rfl) rfl #[.slice Ao61 t290.length co61, .agg #[.int .i64 ((rd_T39 y308 x12_1).f0), .int .i64 ((rd_T39 y308 x12_1).f1), .int .i64 ((rd_T39 y308 x12_1).f2.f0), .int .i64 ((rd_T39 y308 x12_1).f2.f1), .int .i64 ((rd_T39 y308 x12_1).f2.f2), .int .i64 ((rd_T39 y308 x12_1).f2.f3.f0), .int .i64 ((rd_T39 y308 x12_1).f2.f3.f1), .int .i64 ((rd_T39 y308 x12_1).f2.f4), .int .i64 ((rd_T39 y308 x12_1).f2.f5)]] (by first | rfl | (refine wanted_on rfl rfl rfl ?_; first | assumption | (simp [*]; done))) rfl rfl (by (try simp only [List.map_toArray, List.map_cons, List.map_nil]); first | done | rfl | (simp only [List.length_drop, List.length_take]; rfl)) ?_
 with_reducible refine (determinant_Has.calls k1 _ _ t290 ((rd_T39 y308 x12_1).f0) ((rd_T39 y308 x12_1).f1) ((rd_T39 y308 x12_1).f2.f0) ((rd_T39 y308 x12_1).f2.f1) ((rd_T39 y308 x12_1).f2.f2) ((rd_T39 y308 x12_1).f2.f3.f0) ((rd_T39 y308 x12_1).f2.f3.f1) ((rd_T39 y308 x12_1).f2.f4) ((rd_T39 y308 x12_1).f2.f5) t312 _ ?side1 ?side2 A37.out).mono ?_
 (case side1 => repeat (first | exact (Kd.R_reads' HO_9.out).2.2 | (with_reducible refine Kd.C_alloc ?_ _) | (with_reducible refine Kd.C_drewN ?_ _) | (with_reducible refine Kd.C_drew ?_)))
 (case side2 => exact (Kd.R_reads' HO_9.out).2.1)
 rintro e w62 ⟨rfl, hb⟩
 have HS0_ := (hb.cell (World.block_lt_of_cell? _ _ (hHeld.1))).trans (hHeld.1)
 have HS1_ := (hb.cell (World.block_lt_of_cell? _ _ (hHeld.2.1))).trans (hHeld.2.1)
 have HS2_ := (hb.cell (World.block_lt_of_cell? _ _ (hHeld.2.2.1))).trans (hHeld.2.2.1)
 have HS3_ := (hb.cell (World.block_lt_of_cell? _ _ (hHeld.2.2.2.1))).trans (hHeld.2.2.2.1)
 have HS4_ := (hb.cell (World.block_lt_of_cell? _ _ (hHeld.2.2.2.2.1))).trans (hHeld.2.2.2.2.1)
 have HS5_ := (hb.cell (World.block_lt_of_cell? _ _ (hHeld.2.2.2.2.2.1))).trans (hHeld.2.2.2.2.2.1)
 have HS6_ := (hb.cell (World.block_lt_of_cell? _ _ (hHeld.2.2.2.2.2.2.1))).trans (hHeld.2.2.2.2.2.2.1)
 have HS7_ := (hb.cell (World.block_lt_of_cell? _ _ (hHeld.2.2.2.2.2.2.2.1))).trans (hHeld.2.2.2.2.2.2.2.1)
 have HS8_ := (hb.cell (World.block_lt_of_cell? _ _ (hHeld.2.2.2.2.2.2.2.2.1))).trans (hHeld.2.2.2.2.2.2.2.2.1)
 have HS9_ := (hb.cell (World.block_lt_of_cell? _ _ (hHeld.2.2.2.2.2.2.2.2.2.1))).trans (hHeld.2.2.2.2.2.2.2.2.2.1)
 have HS10_ := (hb.cell (World.block_lt_of_cell? _ _ (hHeld.2.2.2.2.2.2.2.2.2.2.1))).trans (hHeld.2.2.2.2.2.2.2.2.2.2.1)
 have HS11_ := (hb.cell (World.block_lt_of_cell? _ _ (hHeld.2.2.2.2.2.2.2.2.2.2.2.1))).trans (hHeld.2.2.2.2.2.2.2.2.2.2.2.1)
 have HS12_ := (hb.cell (World.block_lt_of_cell? _ _ (hHeld.2.2.2.2.2.2.2.2.2.2.2.2.1))).trans (hHeld.2.2.2.2.2.2.2.2.2.2.2.2.1)
 have HS13_ := (hb.cell (World.block_lt_of_cell? _ _ (hHeld.2.2.2.2.2.2.2.2.2.2.2.2.2.1))).trans (hHeld.2.2.2.2.2.2.2.2.2.2.2.2.2.1)
 have HS14_ := (hb.cell (World.block_lt_of_cell? _ _ (hHeld.2.2.2.2.2.2.2.2.2.2.2.2.2.2.1))).trans (hHeld.2.2.2.2.2.2.2.2.2.2.2.2.2.2.1)
 have HS15_ := (hb.cell (World.block_lt_of_cell? _ _ (hHeld.2.2.2.2.2.2.2.2.2.2.2.2.2.2.2.1))).trans (hHeld.2.2.2.2.2.2.2.2.2.2.2.2.2.2.2.1)
 have HS16_ := (hb.cell (World.block_lt_of_cell? _ _ (hHeld.2.2.2.2.2.2.2.2.2.2.2.2.2.2.2.2.1))).trans (hHeld.2.2.2.2.2.2.2.2.2.2.2.2.2.2.2.2.1)
 have HS17_ := (hb.cell (World.block_lt_of_cell? _ _ (hHeld.2.2.2.2.2.2.2.2.2.2.2.2.2.2.2.2.2.1))).trans (hHeld.2.2.2.2.2.2.2.2.2.2.2.2.2.2.2.2.2.1)
 have HS18_ := (hb.cell (World.block_lt_of_cell? _ _ (hHeld.2.2.2.2.2.2.2.2.2.2.2.2.2.2.2.2.2.2.1))).trans (hHeld.2.2.2.2.2.2.2.2.2.2.2.2.2.2.2.2.2.2.1)
 have HS19_ := (hb.cell (World.block_lt_of_cell? _ _ (hHeld.2.2.2.2.2.2.2.2.2.2.2.2.2.2.2.2.2.2.2.1))).trans (hHeld.2.2.2.2.2.2.2.2.2.2.2.2.2.2.2.2.2.2.2.1)
 have HS20_ := (hb.cell (World.block_lt_of_cell? _ _ (hHeld.2.2.2.2.2.2.2.2.2.2.2.2.2.2.2.2.2.2.2.2.1))).trans (hHeld.2.2.2.2.2.2.2.2.2.2.2.2.2.2.2.2.2.2.2.2.1)
 have HS21_ := (hb.cell (World.block_lt_of_cell? _ _ (hHeld.2.2.2.2.2.2.2.2.2.2.2.2.2.2.2.2.2.2.2.2.2.1))).trans (hHeld.2.2.2.2.2.2.2.2.2.2.2.2.2.2.2.2.2.2.2.2.2.1)
 have HS22_ := (hb.cell (World.block_lt_of_cell? _ _ (hHeld.2.2.2.2.2.2.2.2.2.2.2.2.2.2.2.2.2.2.2.2.2.2.1))).trans (hHeld.2.2.2.2.2.2.2.2.2.2.2.2.2.2.2.2.2.2.2.2.2.2.1)
 have HS23_ := (hb.cell (World.block_lt_of_cell? _ _ (hHeld.2.2.2.2.2.2.2.2.2.2.2.2.2.2.2.2.2.2.2.2.2.2.2.1))).trans (hHeld.2.2.2.2.2.2.2.2.2.2.2.2.2.2.2.2.2.2.2.2.2.2.2.1)
 have HS24_ := (hb.cell (World.block_lt_of_cell? _ _ (hHeld.2.2.2.2.2.2.2.2.2.2.2.2.2.2.2.2.2.2.2.2.2.2.2.2.1))).trans (hHeld.2.2.2.2.2.2.2.2.2.2.2.2.2.2.2.2.2.2.2.2.2.2.2.2.1)
 have HS25_ := (hb.cell (World.block_lt_of_cell? _ _ (hHeld.2.2.2.2.2.2.2.2.2.2.2.2.2.2.2.2.2.2.2.2.2.2.2.2.2.1))).trans (hHeld.2.2.2.2.2.2.2.2.2.2.2.2.2.2.2.2.2.2.2.2.2.2.2.2.2.1)
 have HS26_ := (hb.cell (World.block_lt_of_cell? _ _ (hHeld.2.2.2.2.2.2.2.2.2.2.2.2.2.2.2.2.2.2.2.2.2.2.2.2.2.2))).trans (hHeld.2.2.2.2.2.2.2.2.2.2.2.2.2.2.2.2.2.2.2.2.2.2.2.2.2.2)
 refine ⟨_, rfl, ?_⟩
 have n0_ := Aside0.mk (Kd.R_below (rq HO_6.out) hb)
 have n1_ := Aside0.mk (Kd.R_below (rq HO_7.out) hb)
 have n2_ := Aside0.mk (Kd.R_below (rq HO_8.out) hb)
 have n3_ := Aside0.mk (Kd.R_below (rq HO_9.out) hb)
 have n4_ := Aside0.mk (Kd.R_below (rq HO_10.out) hb)
 have n5_ := Aside0.mk (Kd.R_below (rq HO_11.out) hb)
 have n6_ := Aside0.mk (blk_below (g := gb273) (o := .cells #[.int .i64 a1_0, .int .i64 a1_1, .int .i64 a1_2, .int .i64 a1_3, .int .i64 a1_4, .int .i64 a1_5, .int .i64 a1_6, .int .i64 a1_7, .int .i64 a1_8] 39 (0, 0)) (kq BK273.out) hb)
 have n7_ := Aside0.mk (below_step (bq1 HB.out GE273.out) hb)
 clear HO_6
 clear HO_7
 clear HO_8
 clear HO_9
 clear HO_10
 clear HO_11
 clear BK273
 clear HB
 have HO_6 := n0_
 have HO_7 := n1_
 have HO_8 := n2_
 have HO_9 := n3_
 have HO_10 := n4_
 have HO_11 := n5_
 have BK273 := n6_
 have HB := n7_
 clear n0_ n1_ n2_ n3_ n4_ n5_ n6_ n7_
 (try clear hb)
 (try clear hb2)
 (try clear hk)
 (try clear hi)
 refine hK.out _ _ ⟨HS0_, HS1_, HS2_, HS3_, HS4_, HS5_, HS6_, HS7_, HS8_, HS9_, HS10_, HS11_, HS12_, HS13_, HS14_, HS15_, HS16_, HS17_, HS18_, HS19_, HS20_, HS21_, HS22_, HS23_, HS24_, HS25_, HS26_⟩ (fun hHeld => ?_)
 clear hK K
 refine norm_ (a' := ?_) ?_ ?_
 rotate_left
 ·(
 show Act.put _ (some 51) _ = _
 simp only [Act.put, List.setIfInBounds_toArray, List.set_cons_zero, List.set_cons_succ, i64_w, i32_w]
 rfl)
 refine one_ (i := 11) (N := some 57) #[true, true, true, true, true, true, true, true, true, true, true, true, false, false, false, false, false, false, false, false, false] rfl rfl (one_of HT_.out (by kernel_rfl)) (by decide) (fun K hK => ?_)
 refine goes_ Try.func29 (by kernel_rfl) rfl #[.slice Ao21 t278.length co21, .agg #[.int .i64 ((rd_T39 y308 x12_1).f0), .int .i64 ((rd_T39 y308 x12_1).f1), .int .i64 ((rd_T39 y308 x12_1).f2.f0), .int .i64 ((rd_T39 y308 x12_1).f2.f1), .int .i64 ((rd_T39 y308 x12_1).f2.f2), .int .i64 ((rd_T39 y308 x12_1).f2.f3.f0), .int .i64 ((rd_T39 y308 x12_1).f2.f3.f1), .int .i64 ((rd_T39 y308 x12_1).f2.f4), .int .i64 ((rd_T39 y308 x12_1).f2.f5)]] (by first | rfl | (refine wanted_on rfl rfl rfl ?_; first | assumption | (simp [*]; done))) rfl rfl (by (try simp only [List.map_toArray, List.map_cons, List.map_nil]); first | done | rfl | (simp only [List.length_drop, List.length_take]; rfl)) ?_
 with_reducible refine (determinant_Has.calls k1 _ _ t278 ((rd_T39 y308 x12_1).f0) ((rd_T39 y308 x12_1).f1) ((rd_T39 y308 x12_1).f2.f0) ((rd_T39 y308 x12_1).f2.f1) ((rd_T39 y308 x12_1).f2.f2) ((rd_T39 y308 x12_1).f2.f3.f0) ((rd_T39 y308 x12_1).f2.f3.f1) ((rd_T39 y308 x12_1).f2.f4) ((rd_T39 y308 x12_1).f2.f5) false _ ?side1 ?side2 A38.out).mono ?_
 (case side1 => repeat (first | exact (Kd.R_reads' HO_6.out).2.2 | (with_reducible refine Kd.C_alloc ?_ _) | (with_reducible refine Kd.C_drewN ?_ _) | (with_reducible refine Kd.C_drew ?_)))
 (case side2 => exact (Kd.R_reads' HO_6.out).2.1)
 rintro e w63 ⟨rfl, hb⟩
 have HS0_ := (hb.cell (World.block_lt_of_cell? _ _ (hHeld.1))).trans (hHeld.1)
 have HS1_ := (hb.cell (World.block_lt_of_cell? _ _ (hHeld.2.1))).trans (hHeld.2.1)
 have HS2_ := (hb.cell (World.block_lt_of_cell? _ _ (hHeld.2.2.1))).trans (hHeld.2.2.1)
 have HS3_ := (hb.cell (World.block_lt_of_cell? _ _ (hHeld.2.2.2.1))).trans (hHeld.2.2.2.1)
 have HS4_ := (hb.cell (World.block_lt_of_cell? _ _ (hHeld.2.2.2.2.1))).trans (hHeld.2.2.2.2.1)
 have HS5_ := (hb.cell (World.block_lt_of_cell? _ _ (hHeld.2.2.2.2.2.1))).trans (hHeld.2.2.2.2.2.1)
 have HS6_ := (hb.cell (World.block_lt_of_cell? _ _ (hHeld.2.2.2.2.2.2.1))).trans (hHeld.2.2.2.2.2.2.1)
 have HS7_ := (hb.cell (World.block_lt_of_cell? _ _ (hHeld.2.2.2.2.2.2.2.1))).trans (hHeld.2.2.2.2.2.2.2.1)
 have HS8_ := (hb.cell (World.block_lt_of_cell? _ _ (hHeld.2.2.2.2.2.2.2.2.1))).trans (hHeld.2.2.2.2.2.2.2.2.1)
 have HS9_ := (hb.cell (World.block_lt_of_cell? _ _ (hHeld.2.2.2.2.2.2.2.2.2.1))).trans (hHeld.2.2.2.2.2.2.2.2.2.1)
 have HS10_ := (hb.cell (World.block_lt_of_cell? _ _ (hHeld.2.2.2.2.2.2.2.2.2.2.1))).trans (hHeld.2.2.2.2.2.2.2.2.2.2.1)
 have HS11_ := (hb.cell (World.block_lt_of_cell? _ _ (hHeld.2.2.2.2.2.2.2.2.2.2.2.1))).trans (hHeld.2.2.2.2.2.2.2.2.2.2.2.1)
 have HS12_ := (hb.cell (World.block_lt_of_cell? _ _ (hHeld.2.2.2.2.2.2.2.2.2.2.2.2.1))).trans (hHeld.2.2.2.2.2.2.2.2.2.2.2.2.1)
 have HS13_ := (hb.cell (World.block_lt_of_cell? _ _ (hHeld.2.2.2.2.2.2.2.2.2.2.2.2.2.1))).trans (hHeld.2.2.2.2.2.2.2.2.2.2.2.2.2.1)
 have HS14_ := (hb.cell (World.block_lt_of_cell? _ _ (hHeld.2.2.2.2.2.2.2.2.2.2.2.2.2.2.1))).trans (hHeld.2.2.2.2.2.2.2.2.2.2.2.2.2.2.1)
 have HS15_ := (hb.cell (World.block_lt_of_cell? _ _ (hHeld.2.2.2.2.2.2.2.2.2.2.2.2.2.2.2.1))).trans (hHeld.2.2.2.2.2.2.2.2.2.2.2.2.2.2.2.1)
 have HS16_ := (hb.cell (World.block_lt_of_cell? _ _ (hHeld.2.2.2.2.2.2.2.2.2.2.2.2.2.2.2.2.1))).trans (hHeld.2.2.2.2.2.2.2.2.2.2.2.2.2.2.2.2.1)
 have HS17_ := (hb.cell (World.block_lt_of_cell? _ _ (hHeld.2.2.2.2.2.2.2.2.2.2.2.2.2.2.2.2.2.1))).trans (hHeld.2.2.2.2.2.2.2.2.2.2.2.2.2.2.2.2.2.1)
 have HS18_ := (hb.cell (World.block_lt_of_cell? _ _ (hHeld.2.2.2.2.2.2.2.2.2.2.2.2.2.2.2.2.2.2.1))).trans (hHeld.2.2.2.2.2.2.2.2.2.2.2.2.2.2.2.2.2.2.1)
 have HS19_ := (hb.cell (World.block_lt_of_cell? _ _ (hHeld.2.2.2.2.2.2.2.2.2.2.2.2.2.2.2.2.2.2.2.1))).trans (hHeld.2.2.2.2.2.2.2.2.2.2.2.2.2.2.2.2.2.2.2.1)
 have HS20_ := (hb.cell (World.block_lt_of_cell? _ _ (hHeld.2.2.2.2.2.2.2.2.2.2.2.2.2.2.2.2.2.2.2.2.1))).trans (hHeld.2.2.2.2.2.2.2.2.2.2.2.2.2.2.2.2.2.2.2.2.1)
 have HS21_ := (hb.cell (World.block_lt_of_cell? _ _ (hHeld.2.2.2.2.2.2.2.2.2.2.2.2.2.2.2.2.2.2.2.2.2.1))).trans (hHeld.2.2.2.2.2.2.2.2.2.2.2.2.2.2.2.2.2.2.2.2.2.1)
 have HS22_ := (hb.cell (World.block_lt_of_cell? _ _ (hHeld.2.2.2.2.2.2.2.2.2.2.2.2.2.2.2.2.2.2.2.2.2.2.1))).trans (hHeld.2.2.2.2.2.2.2.2.2.2.2.2.2.2.2.2.2.2.2.2.2.2.1)
 have HS23_ := (hb.cell (World.block_lt_of_cell? _ _ (hHeld.2.2.2.2.2.2.2.2.2.2.2.2.2.2.2.2.2.2.2.2.2.2.2.1))).trans (hHeld.2.2.2.2.2.2.2.2.2.2.2.2.2.2.2.2.2.2.2.2.2.2.2.1)
 have HS24_ := (hb.cell (World.block_lt_of_cell? _ _ (hHeld.2.2.2.2.2.2.2.2.2.2.2.2.2.2.2.2.2.2.2.2.2.2.2.2.1))).trans (hHeld.2.2.2.2.2.2.2.2.2.2.2.2.2.2.2.2.2.2.2.2.2.2.2.2.1)
 have HS25_ := (hb.cell (World.block_lt_of_cell? _ _ (hHeld.2.2.2.2.2.2.2.2.2.2.2.2.2.2.2.2.2.2.2.2.2.2.2.2.2.1))).trans (hHeld.2.2.2.2.2.2.2.2.2.2.2.2.2.2.2.2.2.2.2.2.2.2.2.2.2.1)
 have HS26_ := (hb.cell (World.block_lt_of_cell? _ _ (hHeld.2.2.2.2.2.2.2.2.2.2.2.2.2.2.2.2.2.2.2.2.2.2.2.2.2.2))).trans (hHeld.2.2.2.2.2.2.2.2.2.2.2.2.2.2.2.2.2.2.2.2.2.2.2.2.2.2)
 refine ⟨_, rfl, ?_⟩
 have n0_ := Aside0.mk (Kd.R_below (rq HO_6.out) hb)
 have n1_ := Aside0.mk (Kd.R_below (rq HO_7.out) hb)
 have n2_ := Aside0.mk (Kd.R_below (rq HO_8.out) hb)
 have n3_ := Aside0.mk (Kd.R_below (rq HO_9.out) hb)
 have n4_ := Aside0.mk (Kd.R_below (rq HO_10.out) hb)
 have n5_ := Aside0.mk (Kd.R_below (rq HO_11.out) hb)
 have n6_ := Aside0.mk (blk_below (g := gb273) (o := .cells #[.int .i64 a1_0, .int .i64 a1_1, .int .i64 a1_2, .int .i64 a1_3, .int .i64 a1_4, .int .i64 a1_5, .int .i64 a1_6, .int .i64 a1_7, .int .i64 a1_8] 39 (0, 0)) (kq BK273.out) hb)
 have n7_ := Aside0.mk (below_step (bq1 HB.out GE273.out) hb)
 clear HO_6
 clear HO_7
 clear HO_8
 clear HO_9
 clear HO_10
 clear HO_11
 clear BK273
 clear HB
 have HO_6 := n0_
 have HO_7 := n1_
 have HO_8 := n2_
 have HO_9 := n3_
 have HO_10 := n4_
 have HO_11 := n5_
 have BK273 := n6_
 have HB := n7_
 clear n0_ n1_ n2_ n3_ n4_ n5_ n6_ n7_
 (try clear hb)
 (try clear hb2)
 (try clear hk)
 (try clear hi)
 refine hK.out _ _ ⟨HS0_, HS1_, HS2_, HS3_, HS4_, HS5_, HS6_, HS7_, HS8_, HS9_, HS10_, HS11_, HS12_, HS13_, HS14_, HS15_, HS16_, HS17_, HS18_, HS19_, HS20_, HS21_, HS22_, HS23_, HS24_, HS25_, HS26_⟩ (fun hHeld => ?_)
 clear hK K
 refine norm_ (a' := ?_) ?_ ?_
 rotate_left
 ·(
 show Act.put _ (some 57) _ = _
 simp only [Act.put, List.setIfInBounds_toArray, List.set_cons_zero, List.set_cons_succ, i64_w, i32_w]
 rfl)
 refine pur HT_.out 12 (some 58) (bm 21 8191) ?_
 refine pur HT_.out 13 (some 59) (bm 21 16383) ?_
 refine pur HT_.out 14 (some 60) (bm 21 32767) ?_
 refine pur HT_.out 15 (some 61) (bm 21 65535) ?_
 refine pur HT_.out 16 (some 62) (bm 21 131071) ?_
 refine take_ (i := 17) (N := some 63) (v := ?_) (a' := ?_) #[true, true, true, true, true, true, true, true, true, true, true, true, true, true, true, true, true, true, false, false, false] rfl rfl (take_ofW HT_.out HW_.out (by kernel_rfl)) (fun _ _ _ h => h) (Or.inl ⟨by rfl, ?_⟩) hHeld ?_ ?_
 rotate_left
 ·(
 rintro w' ⟨s0, s1, s2, s3, s4, s5, s6, s7, s8, s9, s10, s11, s12, s13, s14, s15, s16, s17, s18, s19, s20, s21, s22, s23, s24, s25, s26⟩
 go_simp
 with_reducible rfl)
 rotate_left
 ·(
 simp only [Act.put, List.setIfInBounds_toArray, List.set_cons_zero, List.set_cons_succ, i64_w, i32_w]
 rfl)
 refine one_ (i := 18) (N := some 64) #[true, true, true, true, true, true, true, true, true, true, true, true, true, true, true, true, true, true, true, false, false] rfl rfl (one_of HT_.out (by kernel_rfl)) (by decide) (fun K hK => ?_)
 refine goes_ Try.func29 (by kernel_rfl) rfl #[.slice Ao22 t282.length co22, .agg #[.int .i64 ((rd_T39 y308 x12_1).f0), .int .i64 ((rd_T39 y308 x12_1).f1), .int .i64 ((rd_T39 y308 x12_1).f2.f0), .int .i64 ((rd_T39 y308 x12_1).f2.f1), .int .i64 ((rd_T39 y308 x12_1).f2.f2), .int .i64 ((rd_T39 y308 x12_1).f2.f3.f0), .int .i64 ((rd_T39 y308 x12_1).f2.f3.f1), .int .i64 ((rd_T39 y308 x12_1).f2.f4), .int .i64 ((rd_T39 y308 x12_1).f2.f5)]] (by first | rfl | (refine wanted_on rfl rfl rfl ?_; first | assumption | (simp [*]; done))) rfl rfl (by (try simp only [List.map_toArray, List.map_cons, List.map_nil]); first | done | rfl | (simp only [List.length_drop, List.length_take]; rfl)) ?_
 with_reducible refine (determinant_Has.calls k1 _ _ t282 ((rd_T39 y308 x12_1).f0) ((rd_T39 y308 x12_1).f1) ((rd_T39 y308 x12_1).f2.f0) ((rd_T39 y308 x12_1).f2.f1) ((rd_T39 y308 x12_1).f2.f2) ((rd_T39 y308 x12_1).f2.f3.f0) ((rd_T39 y308 x12_1).f2.f3.f1) ((rd_T39 y308 x12_1).f2.f4) ((rd_T39 y308 x12_1).f2.f5) t316 _ ?side1 ?side2 A51.out).mono ?_
 (case side1 => repeat (first | exact (Kd.R_reads' HO_7.out).2.2 | (with_reducible refine Kd.C_alloc ?_ _) | (with_reducible refine Kd.C_drewN ?_ _) | (with_reducible refine Kd.C_drew ?_)))
 (case side2 => exact (Kd.R_reads' HO_7.out).2.1)
 rintro e w64 ⟨rfl, hb⟩
 have HS0_ := (hb.cell (World.block_lt_of_cell? _ _ (hHeld.1))).trans (hHeld.1)
 have HS1_ := (hb.cell (World.block_lt_of_cell? _ _ (hHeld.2.1))).trans (hHeld.2.1)
 have HS2_ := (hb.cell (World.block_lt_of_cell? _ _ (hHeld.2.2.1))).trans (hHeld.2.2.1)
 have HS3_ := (hb.cell (World.block_lt_of_cell? _ _ (hHeld.2.2.2.1))).trans (hHeld.2.2.2.1)
 have HS4_ := (hb.cell (World.block_lt_of_cell? _ _ (hHeld.2.2.2.2.1))).trans (hHeld.2.2.2.2.1)
 have HS5_ := (hb.cell (World.block_lt_of_cell? _ _ (hHeld.2.2.2.2.2.1))).trans (hHeld.2.2.2.2.2.1)
 have HS6_ := (hb.cell (World.block_lt_of_cell? _ _ (hHeld.2.2.2.2.2.2.1))).trans (hHeld.2.2.2.2.2.2.1)
 have HS7_ := (hb.cell (World.block_lt_of_cell? _ _ (hHeld.2.2.2.2.2.2.2.1))).trans (hHeld.2.2.2.2.2.2.2.1)
 have HS8_ := (hb.cell (World.block_lt_of_cell? _ _ (hHeld.2.2.2.2.2.2.2.2.1))).trans (hHeld.2.2.2.2.2.2.2.2.1)
 have HS9_ := (hb.cell (World.block_lt_of_cell? _ _ (hHeld.2.2.2.2.2.2.2.2.2.1))).trans (hHeld.2.2.2.2.2.2.2.2.2.1)
 have HS10_ := (hb.cell (World.block_lt_of_cell? _ _ (hHeld.2.2.2.2.2.2.2.2.2.2.1))).trans (hHeld.2.2.2.2.2.2.2.2.2.2.1)
 have HS11_ := (hb.cell (World.block_lt_of_cell? _ _ (hHeld.2.2.2.2.2.2.2.2.2.2.2.1))).trans (hHeld.2.2.2.2.2.2.2.2.2.2.2.1)
 have HS12_ := (hb.cell (World.block_lt_of_cell? _ _ (hHeld.2.2.2.2.2.2.2.2.2.2.2.2.1))).trans (hHeld.2.2.2.2.2.2.2.2.2.2.2.2.1)
 have HS13_ := (hb.cell (World.block_lt_of_cell? _ _ (hHeld.2.2.2.2.2.2.2.2.2.2.2.2.2.1))).trans (hHeld.2.2.2.2.2.2.2.2.2.2.2.2.2.1)
 have HS14_ := (hb.cell (World.block_lt_of_cell? _ _ (hHeld.2.2.2.2.2.2.2.2.2.2.2.2.2.2.1))).trans (hHeld.2.2.2.2.2.2.2.2.2.2.2.2.2.2.1)
 have HS15_ := (hb.cell (World.block_lt_of_cell? _ _ (hHeld.2.2.2.2.2.2.2.2.2.2.2.2.2.2.2.1))).trans (hHeld.2.2.2.2.2.2.2.2.2.2.2.2.2.2.2.1)
 have HS16_ := (hb.cell (World.block_lt_of_cell? _ _ (hHeld.2.2.2.2.2.2.2.2.2.2.2.2.2.2.2.2.1))).trans (hHeld.2.2.2.2.2.2.2.2.2.2.2.2.2.2.2.2.1)
 have HS17_ := (hb.cell (World.block_lt_of_cell? _ _ (hHeld.2.2.2.2.2.2.2.2.2.2.2.2.2.2.2.2.2.1))).trans (hHeld.2.2.2.2.2.2.2.2.2.2.2.2.2.2.2.2.2.1)
 have HS18_ := (hb.cell (World.block_lt_of_cell? _ _ (hHeld.2.2.2.2.2.2.2.2.2.2.2.2.2.2.2.2.2.2.1))).trans (hHeld.2.2.2.2.2.2.2.2.2.2.2.2.2.2.2.2.2.2.1)
 have HS19_ := (hb.cell (World.block_lt_of_cell? _ _ (hHeld.2.2.2.2.2.2.2.2.2.2.2.2.2.2.2.2.2.2.2.1))).trans (hHeld.2.2.2.2.2.2.2.2.2.2.2.2.2.2.2.2.2.2.2.1)
 have HS20_ := (hb.cell (World.block_lt_of_cell? _ _ (hHeld.2.2.2.2.2.2.2.2.2.2.2.2.2.2.2.2.2.2.2.2.1))).trans (hHeld.2.2.2.2.2.2.2.2.2.2.2.2.2.2.2.2.2.2.2.2.1)
 have HS21_ := (hb.cell (World.block_lt_of_cell? _ _ (hHeld.2.2.2.2.2.2.2.2.2.2.2.2.2.2.2.2.2.2.2.2.2.1))).trans (hHeld.2.2.2.2.2.2.2.2.2.2.2.2.2.2.2.2.2.2.2.2.2.1)
 have HS22_ := (hb.cell (World.block_lt_of_cell? _ _ (hHeld.2.2.2.2.2.2.2.2.2.2.2.2.2.2.2.2.2.2.2.2.2.2.1))).trans (hHeld.2.2.2.2.2.2.2.2.2.2.2.2.2.2.2.2.2.2.2.2.2.2.1)
 have HS23_ := (hb.cell (World.block_lt_of_cell? _ _ (hHeld.2.2.2.2.2.2.2.2.2.2.2.2.2.2.2.2.2.2.2.2.2.2.2.1))).trans (hHeld.2.2.2.2.2.2.2.2.2.2.2.2.2.2.2.2.2.2.2.2.2.2.2.1)
 have HS24_ := (hb.cell (World.block_lt_of_cell? _ _ (hHeld.2.2.2.2.2.2.2.2.2.2.2.2.2.2.2.2.2.2.2.2.2.2.2.2.1))).trans (hHeld.2.2.2.2.2.2.2.2.2.2.2.2.2.2.2.2.2.2.2.2.2.2.2.2.1)
 have HS25_ := (hb.cell (World.block_lt_of_cell? _ _ (hHeld.2.2.2.2.2.2.2.2.2.2.2.2.2.2.2.2.2.2.2.2.2.2.2.2.2.1))).trans (hHeld.2.2.2.2.2.2.2.2.2.2.2.2.2.2.2.2.2.2.2.2.2.2.2.2.2.1)
 have HS26_ := (hb.cell (World.block_lt_of_cell? _ _ (hHeld.2.2.2.2.2.2.2.2.2.2.2.2.2.2.2.2.2.2.2.2.2.2.2.2.2.2))).trans (hHeld.2.2.2.2.2.2.2.2.2.2.2.2.2.2.2.2.2.2.2.2.2.2.2.2.2.2)
 refine ⟨_, rfl, ?_⟩
 have n0_ := Aside0.mk (Kd.R_below (rq HO_6.out) hb)
 have n1_ := Aside0.mk (Kd.R_below (rq HO_7.out) hb)
 have n2_ := Aside0.mk (Kd.R_below (rq HO_8.out) hb)
 have n3_ := Aside0.mk (Kd.R_below (rq HO_9.out) hb)
 have n4_ := Aside0.mk (Kd.R_below (rq HO_10.out) hb)
 have n5_ := Aside0.mk (Kd.R_below (rq HO_11.out) hb)
 have n6_ := Aside0.mk (blk_below (g := gb273) (o := .cells #[.int .i64 a1_0, .int .i64 a1_1, .int .i64 a1_2, .int .i64 a1_3, .int .i64 a1_4, .int .i64 a1_5, .int .i64 a1_6, .int .i64 a1_7, .int .i64 a1_8] 39 (0, 0)) (kq BK273.out) hb)
 have n7_ := Aside0.mk (below_step (bq1 HB.out GE273.out) hb)
 clear HO_6
 clear HO_7
 clear HO_8
 clear HO_9
 clear HO_10
 clear HO_11
 clear BK273
 clear HB
 have HO_6 := n0_
 have HO_7 := n1_
 have HO_8 := n2_
 have HO_9 := n3_
 have HO_10 := n4_
 have HO_11 := n5_
 have BK273 := n6_
 have HB := n7_
 clear n0_ n1_ n2_ n3_ n4_ n5_ n6_ n7_
 (try clear hb)
 (try clear hb2)
 (try clear hk)
 (try clear hi)
 refine hK.out _ _ ⟨HS0_, HS1_, HS2_, HS3_, HS4_, HS5_, HS6_, HS7_, HS8_, HS9_, HS10_, HS11_, HS12_, HS13_, HS14_, HS15_, HS16_, HS17_, HS18_, HS19_, HS20_, HS21_, HS22_, HS23_, HS24_, HS25_, HS26_⟩ (fun hHeld => ?_)
 clear hK K
 refine norm_ (a' := ?_) ?_ ?_
 rotate_left
 ·(
 show Act.put _ (some 64) _ = _
 simp only [Act.put, List.setIfInBounds_toArray, List.set_cons_zero, List.set_cons_succ, i64_w, i32_w]
 rfl)
 refine pur HT_.out 19 (some 65) (bm 21 1048575) ?_
 refine pur HT_.out 20 (some 66) (bm 21 2097151) ?_
 refine done_ (done_of HT_.out (by kernel_rfl)) ?_
 try go_wp2
 go_roundg k1
 case measure => have := HK1.out; omega
 case rel => exact ⟨(wrap64 (x12_1 + 1)), (by first | rfl | (simp; done) | (simp [*]; done)), H', ⟨by have := HK1.out; omega⟩, ⟨rq HO_6.out⟩, ⟨rq HO_7.out⟩, ⟨rq HO_8.out⟩, ⟨rq HO_9.out⟩, ⟨rq HO_10.out⟩, ⟨rq HO_11.out⟩, ⟨kq BK273.out⟩, ⟨bq1 HB.out GE273.out⟩⟩)))
 ·(
 rw [if_neg c36] at H
 exact absurd H (by simp)))
 ·(
 rw [if_neg c35] at H
 have c35b0 : decide (x12_1 < (y308.length : Int)) = false := decide_eq_false c35
 clear c35
 have H' := Aside0.mk H
 clear H
 obtain ⟨Ao65, co65, eo65⟩ := Kd.R_slice HO_11.out
 subst eo65
 go_wp2
 go_loopg [13] k1 (fun kq v13 w' => ∃ (x13_2 : Int), v13 = .int .i64 x13_2 ∧ Aside0 (rollbacknetlaw27_DeterminantUnions.l1 kq t278 t282 t286 t290 t296 x13_2 a1_0 a1_1 a1_2 a1_3 a1_4 a1_5 a1_6 a1_7 a1_8 = some r) ∧ Aside0 (kq ≤ k1) ∧ Aside0 (Kd.R k39 39 w' w.heap.size (fun k_ => some k_ ≠ ((.slice Ao22 t282.length co22) : Value).ownBlock ∧ some k_ ≠ ((.slice Ao24 t286.length co24) : Value).ownBlock ∧ some k_ ≠ (v291 : Value).ownBlock ∧ some k_ ≠ (v297 : Value).ownBlock ∧ k_ ≠ gb273) (.slice Ao21 t278.length co21) t278) ∧ Aside0 (Kd.R k39 39 w' w.heap.size (fun k_ => some k_ ≠ ((.slice Ao21 t278.length co21) : Value).ownBlock ∧ some k_ ≠ ((.slice Ao24 t286.length co24) : Value).ownBlock ∧ some k_ ≠ (v291 : Value).ownBlock ∧ some k_ ≠ (v297 : Value).ownBlock ∧ k_ ≠ gb273) (.slice Ao22 t282.length co22) t282) ∧ Aside0 (Kd.R k39 39 w' w.heap.size (fun k_ => some k_ ≠ ((.slice Ao21 t278.length co21) : Value).ownBlock ∧ some k_ ≠ ((.slice Ao22 t282.length co22) : Value).ownBlock ∧ some k_ ≠ (v291 : Value).ownBlock ∧ some k_ ≠ (v297 : Value).ownBlock ∧ k_ ≠ gb273) (.slice Ao24 t286.length co24) t286) ∧ Aside0 (Kd.R k39 39 w' w.heap.size (fun k_ => some k_ ≠ ((.slice Ao21 t278.length co21) : Value).ownBlock ∧ some k_ ≠ ((.slice Ao22 t282.length co22) : Value).ownBlock ∧ some k_ ≠ ((.slice Ao24 t286.length co24) : Value).ownBlock ∧ some k_ ≠ (v297 : Value).ownBlock ∧ k_ ≠ gb273) v291 t290) ∧ Aside0 (Kd.R k39 39 w' w.heap.size (fun k_ => some k_ ≠ ((.slice Ao21 t278.length co21) : Value).ownBlock ∧ some k_ ≠ ((.slice Ao22 t282.length co22) : Value).ownBlock ∧ some k_ ≠ ((.slice Ao24 t286.length co24) : Value).ownBlock ∧ some k_ ≠ (v291 : Value).ownBlock ∧ k_ ≠ gb273) v297 t296) ∧ Aside0 (w'.heap[gb273]? = some (.cells #[.int .i64 a1_0, .int .i64 a1_1, .int .i64 a1_2, .int .i64 a1_3, .int .i64 a1_4, .int .i64 a1_5, .int .i64 a1_6, .int .i64 a1_7, .int .i64 a1_8] 39 (0, 0))) ∧ Aside0 (Below w.heap.size w w'))
 case atStart => exact ⟨(0), (by first | rfl | (simp; done) | (simp [*]; done)), H', ⟨Nat.le_refl _⟩, ⟨by (with_reducible repeat (first | apply Kd.R_alloc | apply Kd.R_drewN | apply Kd.R_drew)); exact Kd.R_mono HO_6.out (fun _ hk => ⟨hk.1, ⟨hk.2.1, ⟨hk.2.2.1, ⟨hk.2.2.2.1, hk.2.2.2.2.2⟩⟩⟩⟩)⟩, ⟨by (with_reducible repeat (first | apply Kd.R_alloc | apply Kd.R_drewN | apply Kd.R_drew)); exact Kd.R_mono HO_7.out (fun _ hk => ⟨hk.1, ⟨hk.2.1, ⟨hk.2.2.1, ⟨hk.2.2.2.1, hk.2.2.2.2.2⟩⟩⟩⟩)⟩, ⟨by (with_reducible repeat (first | apply Kd.R_alloc | apply Kd.R_drewN | apply Kd.R_drew)); exact Kd.R_mono HO_8.out (fun _ hk => ⟨hk.1, ⟨hk.2.1, ⟨hk.2.2.1, ⟨hk.2.2.2.1, hk.2.2.2.2.2⟩⟩⟩⟩)⟩, ⟨by (with_reducible repeat (first | apply Kd.R_alloc | apply Kd.R_drewN | apply Kd.R_drew)); exact Kd.R_mono HO_9.out (fun _ hk => ⟨hk.1, ⟨hk.2.1, ⟨hk.2.2.1, ⟨hk.2.2.2.1, hk.2.2.2.2.2⟩⟩⟩⟩)⟩, ⟨by (with_reducible repeat (first | apply Kd.R_alloc | apply Kd.R_drewN | apply Kd.R_drew)); exact Kd.R_mono HO_10.out (fun _ hk => ⟨hk.1, ⟨hk.2.1, ⟨hk.2.2.1, ⟨hk.2.2.2.1, hk.2.2.2.2.2⟩⟩⟩⟩)⟩, ⟨kq BK273.out⟩, ⟨bq1 HB.out GE273.out⟩⟩
 case round =>(
 clear H'
 try clear c2
 try clear p2
 try clear c3
 try clear p3
 try clear q3
 try clear hx3
 try clear c5
 try clear p6
 try clear c29
 try clear p31
 try clear q31
 try clear hx31
 try clear c35
 try clear c35b0
 try clear c36
 try clear c52
 try clear c52b0
 try clear c52b1
 try clear c52b2
 try clear p64
 try clear hx311_0
 try clear hx311_1
 try clear hx311_2
 try clear hx311_3
 try clear hx311_4
 try clear hx311_5
 try clear hx311_6
 try clear hx311_7
 try clear hx311_8
 try clear hx313_0
 try clear hx313_1
 try clear hx313_2
 try clear hx313_3
 try clear hx313_4
 try clear hx313_5
 try clear hx313_6
 try clear hx313_7
 try clear hx313_8
 try clear hx315_0
 try clear hx315_1
 try clear hx315_2
 try clear hx315_3
 try clear hx315_4
 try clear hx315_5
 try clear hx315_6
 try clear hx315_7
 try clear hx315_8
 try clear p311
 try clear p313
 try clear p315
 try clear q311
 try clear q313
 try clear q315
 obtain ⟨x13_2, rfl, HA, HK2, HO_6, HO_7, HO_8, HO_9, HO_10, BK273, HB⟩ := hrel
 cases gk with
 | zero => exact absurd HA.out (by simp [rollbacknetlaw27_DeterminantUnions.l1])
 | succ k2 =>(
 have H := HA.out
 clear HA
 simp only [rollbacknetlaw27_DeterminantUnions.l1] at H
 by_cases c66 : (wrap64 (x13_2 + 1)) < (t290.length : Int)
 ·(
 rw [if_pos c66] at H
 have c66b0 : decide ((wrap64 (x13_2 + 1)) < (t290.length : Int)) = true := decide_eq_true c66
 clear c66
 by_cases c67 : 0 ≤ x13_2
 ·(
 rw [if_pos c67] at H
 have c67b0 : decide (0 ≤ x13_2) = true := decide_eq_true c67
 clear c67
 by_cases c68 : x13_2 < (t290.length : Int)
 ·(
 rw [if_pos c68] at H
 have c68b0 : decide (x13_2 < (t290.length : Int)) = true := decide_eq_true c68
 clear c68
 obtain ⟨ji69, hji69⟩ : ∃ j_ : Int, (wrap64 (x13_2 + 1)) = j_ := ⟨_, rfl⟩
 replace H : (if 0 ≤ (ji69) then ((determinant_Compare.f k2 ((rd_T39 t290 x13_2).f0) ((rd_T39 t290 x13_2).f1) ((rd_T39 t290 x13_2).f2.f0) ((rd_T39 t290 x13_2).f2.f1) ((rd_T39 t290 x13_2).f2.f2) ((rd_T39 t290 x13_2).f2.f3.f0) ((rd_T39 t290 x13_2).f2.f3.f1) ((rd_T39 t290 x13_2).f2.f4) ((rd_T39 t290 x13_2).f2.f5) ((rd_T39 t290 (ji69)).f0) ((rd_T39 t290 (ji69)).f1) ((rd_T39 t290 (ji69)).f2.f0) ((rd_T39 t290 (ji69)).f2.f1) ((rd_T39 t290 (ji69)).f2.f2) ((rd_T39 t290 (ji69)).f2.f3.f0) ((rd_T39 t290 (ji69)).f2.f3.f1) ((rd_T39 t290 (ji69)).f2.f4) ((rd_T39 t290 (ji69)).f2.f5)).bind fun t319 => (if t319 ≥ 0 then (some false) else (rollbacknetlaw27_DeterminantUnions.l1 k2 t278 t282 t286 t290 t296 ji69 a1_0 a1_1 a1_2 a1_3 a1_4 a1_5 a1_6 a1_7 a1_8))) else (none)) = some r := by first | (rw [hji69] at H; exact H) | (simp only [hji69] at H ⊢; exact H)
 (try rw [hji69] at c66b0)
 have hji69w : (IntKind.i64.wrap (x13_2 + 1)) = ji69 := (i64_w _).trans hji69
 by_cases c70 : 0 ≤ (ji69)
 ·(
 rw [if_pos c70] at H
 have c70b0 : decide (0 ≤ (ji69)) = true := decide_eq_true c70
 clear c70
 replace H := Option.bind_eq_some_iff.mp H
 obtain ⟨t319, A710, H⟩ := H
 replace H : (if t319 ≥ 0 then (some false) else (rollbacknetlaw27_DeterminantUnions.l1 k2 t278 t282 t286 t290 t296 ji69 a1_0 a1_1 a1_2 a1_3 a1_4 a1_5 a1_6 a1_7 a1_8)) = some r := H
 have A71 := Aside0.mk A710
 clear A710
 by_cases c72 : t319 ≥ 0
 ·(
 rw [if_pos c72] at H
 have c72b0 : decide (0 ≤ t319) = true := decide_eq_true c72
 clear c72
 obtain rfl := Option.some.inj H
 obtain ⟨Ao73, co73, eo73⟩ := Kd.R_slice HO_9.out
 subst eo73
 try go_wp2
 have n0_ := Aside0.mk (Kd.R_drew HO_6.out)
 have n1_ := Aside0.mk (Kd.R_drew HO_7.out)
 have n2_ := Aside0.mk (Kd.R_drew HO_8.out)
 have n3_ := Aside0.mk (Kd.R_drew HO_9.out)
 have n4_ := Aside0.mk (Kd.R_drew HO_10.out)
 have n5_ := Aside0.mk (blk_drew BK273.out)
 have n6_ := Aside0.mk (below_drew1 HB.out)
 clear HO_6
 clear HO_7
 clear HO_8
 clear HO_9
 clear HO_10
 clear BK273
 clear HB
 have HO_6 := n0_
 have HO_7 := n1_
 have HO_8 := n2_
 have HO_9 := n3_
 have HO_10 := n4_
 have BK273 := n5_
 have HB := n6_
 clear n0_ n1_ n2_ n3_ n4_ n5_ n6_
 have p317 : 0 ≤ (x13_2 : Int) := of_decide_eq_true (by first | (with_reducible assumption) | assumption)
 have q317 : x13_2 < (t290.length : Int) := of_decide_eq_true (by first | (with_reducible assumption) | assumption)
 obtain ⟨ad317, e317, hx317_0, hx317_1, hx317_2, hx317_3, hx317_4, hx317_5, hx317_6, hx317_7, hx317_8⟩ := at_T39 (Kd.R_reads' HO_9.out).2.2 x13_2 p317 q317
 cases e317
 replace p317 := eq_true p317
 replace q317 := eq_true q317
 have p318 : 0 ≤ ((ji69) : Int) := of_decide_eq_true (by first | (with_reducible assumption) | assumption)
 have q318 : (ji69) < (t290.length : Int) := of_decide_eq_true (by first | (with_reducible assumption) | assumption)
 obtain ⟨ad318, e318, hx318_0, hx318_1, hx318_2, hx318_3, hx318_4, hx318_5, hx318_6, hx318_7, hx318_8⟩ := at_T39 (Kd.R_reads' HO_9.out).2.2 (ji69) p318 q318
 obtain rfl : ad317 = ad318 := (by injection e318)
 replace p318 := eq_true p318
 replace q318 := eq_true q318
 refine start_ (n := 11) (S := fun w' => w'.cell? (ad317.add ((x13_2).toNat * 9)) = some (.int .i64 ((rd_T39 t290 x13_2).f0)) ∧ w'.cell? ⟨(ad317.add ((x13_2).toNat * 9)).block, (ad317.add ((x13_2).toNat * 9)).off + 1, none⟩ = some (.int .i64 ((rd_T39 t290 x13_2).f1)) ∧ w'.cell? ⟨(ad317.add ((x13_2).toNat * 9)).block, (ad317.add ((x13_2).toNat * 9)).off + 2, none⟩ = some (.int .i64 ((rd_T39 t290 x13_2).f2.f0)) ∧ w'.cell? ⟨(ad317.add ((x13_2).toNat * 9)).block, (ad317.add ((x13_2).toNat * 9)).off + 3, none⟩ = some (.int .i64 ((rd_T39 t290 x13_2).f2.f1)) ∧ w'.cell? ⟨(ad317.add ((x13_2).toNat * 9)).block, (ad317.add ((x13_2).toNat * 9)).off + 4, none⟩ = some (.int .i64 ((rd_T39 t290 x13_2).f2.f2)) ∧ w'.cell? ⟨(ad317.add ((x13_2).toNat * 9)).block, (ad317.add ((x13_2).toNat * 9)).off + 5, none⟩ = some (.int .i64 ((rd_T39 t290 x13_2).f2.f3.f0)) ∧ w'.cell? ⟨(ad317.add ((x13_2).toNat * 9)).block, (ad317.add ((x13_2).toNat * 9)).off + 6, none⟩ = some (.int .i64 ((rd_T39 t290 x13_2).f2.f3.f1)) ∧ w'.cell? ⟨(ad317.add ((x13_2).toNat * 9)).block, (ad317.add ((x13_2).toNat * 9)).off + 7, none⟩ = some (.int .i64 ((rd_T39 t290 x13_2).f2.f4)) ∧ w'.cell? ⟨(ad317.add ((x13_2).toNat * 9)).block, (ad317.add ((x13_2).toNat * 9)).off + 8, none⟩ = some (.int .i64 ((rd_T39 t290 x13_2).f2.f5)) ∧ w'.cell? (ad317.add (((ji69)).toNat * 9)) = some (.int .i64 ((rd_T39 t290 (ji69)).f0)) ∧ w'.cell? ⟨(ad317.add (((ji69)).toNat * 9)).block, (ad317.add (((ji69)).toNat * 9)).off + 1, none⟩ = some (.int .i64 ((rd_T39 t290 (ji69)).f1)) ∧ w'.cell? ⟨(ad317.add (((ji69)).toNat * 9)).block, (ad317.add (((ji69)).toNat * 9)).off + 2, none⟩ = some (.int .i64 ((rd_T39 t290 (ji69)).f2.f0)) ∧ w'.cell? ⟨(ad317.add (((ji69)).toNat * 9)).block, (ad317.add (((ji69)).toNat * 9)).off + 3, none⟩ = some (.int .i64 ((rd_T39 t290 (ji69)).f2.f1)) ∧ w'.cell? ⟨(ad317.add (((ji69)).toNat * 9)).block, (ad317.add (((ji69)).toNat * 9)).off + 4, none⟩ = some (.int .i64 ((rd_T39 t290 (ji69)).f2.f2)) ∧ w'.cell? ⟨(ad317.add (((ji69)).toNat * 9)).block, (ad317.add (((ji69)).toNat * 9)).off + 5, none⟩ = some (.int .i64 ((rd_T39 t290 (ji69)).f2.f3.f0)) ∧ w'.cell? ⟨(ad317.add (((ji69)).toNat * 9)).block, (ad317.add (((ji69)).toNat * 9)).off + 6, none⟩ = some (.int .i64 ((rd_T39 t290 (ji69)).f2.f3.f1)) ∧ w'.cell? ⟨(ad317.add (((ji69)).toNat * 9)).block, (ad317.add (((ji69)).toNat * 9)).off + 7, none⟩ = some (.int .i64 ((rd_T39 t290 (ji69)).f2.f4)) ∧ w'.cell? ⟨(ad317.add (((ji69)).toNat * 9)).block, (ad317.add (((ji69)).toNat * 9)).off + 8, none⟩ = some (.int .i64 ((rd_T39 t290 (ji69)).f2.f5))) (ds := []) #[false, false, false, false, false, false, false, false, false, false, false] (by kernel_rfl) rfl rfl ⟨hx317_0, hx317_1, hx317_2, hx317_3, hx317_4, hx317_5, hx317_6, hx317_7, hx317_8, hx318_0, hx318_1, hx318_2, hx318_3, hx318_4, hx318_5, hx318_6, hx318_7, hx318_8⟩ (fun hHeld => ?_); refine with_tabW rollbacknetlaw27_DeterminantUnions.tab16 rollbacknetlaw27_DeterminantUnions.bits16 (fun HT_ HW_ => ?_)
 generalize wr.drew = w74 at HO_6 HO_7 HO_8 HO_9 HO_10 BK273 HB hx317_0 hx317_1 hx317_2 hx317_3 hx317_4 hx317_5 hx317_6 hx317_7 hx317_8 hx318_0 hx318_1 hx318_2 hx318_3 hx318_4 hx318_5 hx318_6 hx318_7 hx318_8 hHeld ⊢
 refine pur HT_.out 0 (some 74) (bm 11 1) ?_
 refine pur HT_.out 1 (some 75) (bm 11 3) ?_
 refine pur HT_.out 2 (some 76) (bm 11 7) ?_
 refine pur HT_.out 4 (some 78) (bm 11 23) ?_
 refine pur HT_.out 5 (some 79) (bm 11 55) ?_
 refine pur HT_.out 6 (some 80) (bm 11 119) ?_
 refine pur HT_.out 7 (some 81) (bm 11 247) ?_
 refine take_ (i := 3) (N := some 77) (v := ?_) (a' := ?_) #[true, true, true, true, true, true, true, true, false, false, false] rfl rfl (take_ofW HT_.out HW_.out (by kernel_rfl)) (fun _ _ _ h => h) (Or.inl ⟨by rfl, ?_⟩) hHeld ?_ ?_
 rotate_left
 ·(
 rintro w' ⟨s0, s1, s2, s3, s4, s5, s6, s7, s8, s9, s10, s11, s12, s13, s14, s15, s16, s17⟩
 go_simp
 with_reducible rfl)
 rotate_left
 ·(
 simp only [Act.put, List.setIfInBounds_toArray, List.set_cons_zero, List.set_cons_succ, i64_w, i32_w]
 rfl)
 refine take_ (i := 8) (N := some 82) (v := ?_) (a' := ?_) #[true, true, true, true, true, true, true, true, true, false, false] rfl rfl (take_ofW HT_.out HW_.out (by kernel_rfl)) (fun _ _ _ h => h) (Or.inl ⟨by rfl, ?_⟩) hHeld ?_ ?_
 rotate_left
 ·(
 rintro w' ⟨s0, s1, s2, s3, s4, s5, s6, s7, s8, s9, s10, s11, s12, s13, s14, s15, s16, s17⟩
 go_simp
 with_reducible rfl)
 rotate_left
 ·(
 simp only [Act.put, List.setIfInBounds_toArray, List.set_cons_zero, List.set_cons_succ, i64_w, i32_w]
 rfl)
 refine one_ (i := 9) (N := some 83) #[true, true, true, true, true, true, true, true, true, true, false] rfl rfl (one_of HT_.out (by kernel_rfl)) (by decide) (fun K hK => ?_)
 refine goes_ Try.func21 (by kernel_rfl) rfl #[.agg #[.int .i64 ((rd_T39 t290 x13_2).f0), .int .i64 ((rd_T39 t290 x13_2).f1), .int .i64 ((rd_T39 t290 x13_2).f2.f0), .int .i64 ((rd_T39 t290 x13_2).f2.f1), .int .i64 ((rd_T39 t290 x13_2).f2.f2), .int .i64 ((rd_T39 t290 x13_2).f2.f3.f0), .int .i64 ((rd_T39 t290 x13_2).f2.f3.f1), .int .i64 ((rd_T39 t290 x13_2).f2.f4), .int .i64 ((rd_T39 t290 x13_2).f2.f5)], .agg #[.int .i64 ((rd_T39 t290 (ji69)).f0), .int .i64 ((rd_T39 t290 (ji69)).f1), .int .i64 ((rd_T39 t290 (ji69)).f2.f0), .int .i64 ((rd_T39 t290 (ji69)).f2.f1), .int .i64 ((rd_T39 t290 (ji69)).f2.f2), .int .i64 ((rd_T39 t290 (ji69)).f2.f3.f0), .int .i64 ((rd_T39 t290 (ji69)).f2.f3.f1), .int .i64 ((rd_T39 t290 (ji69)).f2.f4), .int .i64 ((rd_T39 t290 (ji69)).f2.f5)]] (by first | rfl | (refine wanted_on rfl rfl rfl ?_; first | assumption | (simp [*]; done))) rfl rfl (by (try simp only [List.map_toArray, List.map_cons, List.map_nil]); first | done | (simp only [hji69]; rfl) | rfl | (simp only [List.length_drop, List.length_take]; rfl)) ?_
 with_reducible refine (determinant_Compare.calls k2 ((rd_T39 t290 x13_2).f0) ((rd_T39 t290 x13_2).f1) ((rd_T39 t290 x13_2).f2.f0) ((rd_T39 t290 x13_2).f2.f1) ((rd_T39 t290 x13_2).f2.f2) ((rd_T39 t290 x13_2).f2.f3.f0) ((rd_T39 t290 x13_2).f2.f3.f1) ((rd_T39 t290 x13_2).f2.f4) ((rd_T39 t290 x13_2).f2.f5) ((rd_T39 t290 (ji69)).f0) ((rd_T39 t290 (ji69)).f1) ((rd_T39 t290 (ji69)).f2.f0) ((rd_T39 t290 (ji69)).f2.f1) ((rd_T39 t290 (ji69)).f2.f2) ((rd_T39 t290 (ji69)).f2.f3.f0) ((rd_T39 t290 (ji69)).f2.f3.f1) ((rd_T39 t290 (ji69)).f2.f4) ((rd_T39 t290 (ji69)).f2.f5) t319 _ A71.out).mono ?_
 rintro e w75 ⟨rfl, hb⟩
 have HS0_ := (hb.cell (World.block_lt_of_cell? _ _ (hHeld.1))).trans (hHeld.1)
 have HS1_ := (hb.cell (World.block_lt_of_cell? _ _ (hHeld.2.1))).trans (hHeld.2.1)
 have HS2_ := (hb.cell (World.block_lt_of_cell? _ _ (hHeld.2.2.1))).trans (hHeld.2.2.1)
 have HS3_ := (hb.cell (World.block_lt_of_cell? _ _ (hHeld.2.2.2.1))).trans (hHeld.2.2.2.1)
 have HS4_ := (hb.cell (World.block_lt_of_cell? _ _ (hHeld.2.2.2.2.1))).trans (hHeld.2.2.2.2.1)
 have HS5_ := (hb.cell (World.block_lt_of_cell? _ _ (hHeld.2.2.2.2.2.1))).trans (hHeld.2.2.2.2.2.1)
 have HS6_ := (hb.cell (World.block_lt_of_cell? _ _ (hHeld.2.2.2.2.2.2.1))).trans (hHeld.2.2.2.2.2.2.1)
 have HS7_ := (hb.cell (World.block_lt_of_cell? _ _ (hHeld.2.2.2.2.2.2.2.1))).trans (hHeld.2.2.2.2.2.2.2.1)
 have HS8_ := (hb.cell (World.block_lt_of_cell? _ _ (hHeld.2.2.2.2.2.2.2.2.1))).trans (hHeld.2.2.2.2.2.2.2.2.1)
 have HS9_ := (hb.cell (World.block_lt_of_cell? _ _ (hHeld.2.2.2.2.2.2.2.2.2.1))).trans (hHeld.2.2.2.2.2.2.2.2.2.1)
 have HS10_ := (hb.cell (World.block_lt_of_cell? _ _ (hHeld.2.2.2.2.2.2.2.2.2.2.1))).trans (hHeld.2.2.2.2.2.2.2.2.2.2.1)
 have HS11_ := (hb.cell (World.block_lt_of_cell? _ _ (hHeld.2.2.2.2.2.2.2.2.2.2.2.1))).trans (hHeld.2.2.2.2.2.2.2.2.2.2.2.1)
 have HS12_ := (hb.cell (World.block_lt_of_cell? _ _ (hHeld.2.2.2.2.2.2.2.2.2.2.2.2.1))).trans (hHeld.2.2.2.2.2.2.2.2.2.2.2.2.1)
 have HS13_ := (hb.cell (World.block_lt_of_cell? _ _ (hHeld.2.2.2.2.2.2.2.2.2.2.2.2.2.1))).trans (hHeld.2.2.2.2.2.2.2.2.2.2.2.2.2.1)
 have HS14_ := (hb.cell (World.block_lt_of_cell? _ _ (hHeld.2.2.2.2.2.2.2.2.2.2.2.2.2.2.1))).trans (hHeld.2.2.2.2.2.2.2.2.2.2.2.2.2.2.1)
 have HS15_ := (hb.cell (World.block_lt_of_cell? _ _ (hHeld.2.2.2.2.2.2.2.2.2.2.2.2.2.2.2.1))).trans (hHeld.2.2.2.2.2.2.2.2.2.2.2.2.2.2.2.1)
 have HS16_ := (hb.cell (World.block_lt_of_cell? _ _ (hHeld.2.2.2.2.2.2.2.2.2.2.2.2.2.2.2.2.1))).trans (hHeld.2.2.2.2.2.2.2.2.2.2.2.2.2.2.2.2.1)
 have HS17_ := (hb.cell (World.block_lt_of_cell? _ _ (hHeld.2.2.2.2.2.2.2.2.2.2.2.2.2.2.2.2.2))).trans (hHeld.2.2.2.2.2.2.2.2.2.2.2.2.2.2.2.2.2)
 refine ⟨_, rfl, ?_⟩
 have n0_ := Aside0.mk (Kd.R_below (rq HO_6.out) hb)
 have n1_ := Aside0.mk (Kd.R_below (rq HO_7.out) hb)
 have n2_ := Aside0.mk (Kd.R_below (rq HO_8.out) hb)
 have n3_ := Aside0.mk (Kd.R_below (rq HO_9.out) hb)
 have n4_ := Aside0.mk (Kd.R_below (rq HO_10.out) hb)
 have n5_ := Aside0.mk (blk_below (g := gb273) (o := .cells #[.int .i64 a1_0, .int .i64 a1_1, .int .i64 a1_2, .int .i64 a1_3, .int .i64 a1_4, .int .i64 a1_5, .int .i64 a1_6, .int .i64 a1_7, .int .i64 a1_8] 39 (0, 0)) (kq BK273.out) hb)
 have n6_ := Aside0.mk (below_step (bq1 HB.out GE273.out) hb)
 clear HO_6
 clear HO_7
 clear HO_8
 clear HO_9
 clear HO_10
 clear BK273
 clear HB
 have HO_6 := n0_
 have HO_7 := n1_
 have HO_8 := n2_
 have HO_9 := n3_
 have HO_10 := n4_
 have BK273 := n5_
 have HB := n6_
 clear n0_ n1_ n2_ n3_ n4_ n5_ n6_
 (try clear hb)
 (try clear hb2)
 (try clear hk)
 (try clear hi)
 refine hK.out _ _ ⟨HS0_, HS1_, HS2_, HS3_, HS4_, HS5_, HS6_, HS7_, HS8_, HS9_, HS10_, HS11_, HS12_, HS13_, HS14_, HS15_, HS16_, HS17_⟩ (fun hHeld => ?_)
 clear hK K
 refine norm_ (a' := ?_) ?_ ?_
 rotate_left
 ·(
 show Act.put _ (some 83) _ = _
 simp only [Act.put, List.setIfInBounds_toArray, List.set_cons_zero, List.set_cons_succ, i64_w, i32_w]
 rfl)
 refine pur HT_.out 10 (some 84) (bm 11 2047) ?_
 refine done_ (done_of HT_.out (by kernel_rfl)) ?_
 try go_wp2
 go_ret
 exact ⟨by first | rfl | (simp [errW_none, errW_some] <;> rfl) | (simp only [← hji69]; first | rfl | (simp [errW_none, errW_some] <;> rfl)) | (simp [*, errW_none, errW_some] <;> rfl), bq1 HB.out GE273.out⟩)
 ·(
 rw [if_neg c72] at H
 have c72b0 : decide (0 ≤ t319) = false := decide_eq_false c72
 clear c72
 have H' := Aside0.mk H
 clear H
 obtain ⟨Ao76, co76, eo76⟩ := Kd.R_slice HO_9.out
 subst eo76
 try go_wp2
 have n0_ := Aside0.mk (Kd.R_drew HO_6.out)
 have n1_ := Aside0.mk (Kd.R_drew HO_7.out)
 have n2_ := Aside0.mk (Kd.R_drew HO_8.out)
 have n3_ := Aside0.mk (Kd.R_drew HO_9.out)
 have n4_ := Aside0.mk (Kd.R_drew HO_10.out)
 have n5_ := Aside0.mk (blk_drew BK273.out)
 have n6_ := Aside0.mk (below_drew1 HB.out)
 clear HO_6
 clear HO_7
 clear HO_8
 clear HO_9
 clear HO_10
 clear BK273
 clear HB
 have HO_6 := n0_
 have HO_7 := n1_
 have HO_8 := n2_
 have HO_9 := n3_
 have HO_10 := n4_
 have BK273 := n5_
 have HB := n6_
 clear n0_ n1_ n2_ n3_ n4_ n5_ n6_
 have p317 : 0 ≤ (x13_2 : Int) := of_decide_eq_true (by first | (with_reducible assumption) | assumption)
 have q317 : x13_2 < (t290.length : Int) := of_decide_eq_true (by first | (with_reducible assumption) | assumption)
 obtain ⟨ad317, e317, hx317_0, hx317_1, hx317_2, hx317_3, hx317_4, hx317_5, hx317_6, hx317_7, hx317_8⟩ := at_T39 (Kd.R_reads' HO_9.out).2.2 x13_2 p317 q317
 cases e317
 replace p317 := eq_true p317
 replace q317 := eq_true q317
 have p318 : 0 ≤ ((ji69) : Int) := of_decide_eq_true (by first | (with_reducible assumption) | assumption)
 have q318 : (ji69) < (t290.length : Int) := of_decide_eq_true (by first | (with_reducible assumption) | assumption)
 obtain ⟨ad318, e318, hx318_0, hx318_1, hx318_2, hx318_3, hx318_4, hx318_5, hx318_6, hx318_7, hx318_8⟩ := at_T39 (Kd.R_reads' HO_9.out).2.2 (ji69) p318 q318
 obtain rfl : ad317 = ad318 := (by injection e318)
 replace p318 := eq_true p318
 replace q318 := eq_true q318
 refine start_ (n := 11) (S := fun w' => w'.cell? (ad317.add ((x13_2).toNat * 9)) = some (.int .i64 ((rd_T39 t290 x13_2).f0)) ∧ w'.cell? ⟨(ad317.add ((x13_2).toNat * 9)).block, (ad317.add ((x13_2).toNat * 9)).off + 1, none⟩ = some (.int .i64 ((rd_T39 t290 x13_2).f1)) ∧ w'.cell? ⟨(ad317.add ((x13_2).toNat * 9)).block, (ad317.add ((x13_2).toNat * 9)).off + 2, none⟩ = some (.int .i64 ((rd_T39 t290 x13_2).f2.f0)) ∧ w'.cell? ⟨(ad317.add ((x13_2).toNat * 9)).block, (ad317.add ((x13_2).toNat * 9)).off + 3, none⟩ = some (.int .i64 ((rd_T39 t290 x13_2).f2.f1)) ∧ w'.cell? ⟨(ad317.add ((x13_2).toNat * 9)).block, (ad317.add ((x13_2).toNat * 9)).off + 4, none⟩ = some (.int .i64 ((rd_T39 t290 x13_2).f2.f2)) ∧ w'.cell? ⟨(ad317.add ((x13_2).toNat * 9)).block, (ad317.add ((x13_2).toNat * 9)).off + 5, none⟩ = some (.int .i64 ((rd_T39 t290 x13_2).f2.f3.f0)) ∧ w'.cell? ⟨(ad317.add ((x13_2).toNat * 9)).block, (ad317.add ((x13_2).toNat * 9)).off + 6, none⟩ = some (.int .i64 ((rd_T39 t290 x13_2).f2.f3.f1)) ∧ w'.cell? ⟨(ad317.add ((x13_2).toNat * 9)).block, (ad317.add ((x13_2).toNat * 9)).off + 7, none⟩ = some (.int .i64 ((rd_T39 t290 x13_2).f2.f4)) ∧ w'.cell? ⟨(ad317.add ((x13_2).toNat * 9)).block, (ad317.add ((x13_2).toNat * 9)).off + 8, none⟩ = some (.int .i64 ((rd_T39 t290 x13_2).f2.f5)) ∧ w'.cell? (ad317.add (((ji69)).toNat * 9)) = some (.int .i64 ((rd_T39 t290 (ji69)).f0)) ∧ w'.cell? ⟨(ad317.add (((ji69)).toNat * 9)).block, (ad317.add (((ji69)).toNat * 9)).off + 1, none⟩ = some (.int .i64 ((rd_T39 t290 (ji69)).f1)) ∧ w'.cell? ⟨(ad317.add (((ji69)).toNat * 9)).block, (ad317.add (((ji69)).toNat * 9)).off + 2, none⟩ = some (.int .i64 ((rd_T39 t290 (ji69)).f2.f0)) ∧ w'.cell? ⟨(ad317.add (((ji69)).toNat * 9)).block, (ad317.add (((ji69)).toNat * 9)).off + 3, none⟩ = some (.int .i64 ((rd_T39 t290 (ji69)).f2.f1)) ∧ w'.cell? ⟨(ad317.add (((ji69)).toNat * 9)).block, (ad317.add (((ji69)).toNat * 9)).off + 4, none⟩ = some (.int .i64 ((rd_T39 t290 (ji69)).f2.f2)) ∧ w'.cell? ⟨(ad317.add (((ji69)).toNat * 9)).block, (ad317.add (((ji69)).toNat * 9)).off + 5, none⟩ = some (.int .i64 ((rd_T39 t290 (ji69)).f2.f3.f0)) ∧ w'.cell? ⟨(ad317.add (((ji69)).toNat * 9)).block, (ad317.add (((ji69)).toNat * 9)).off + 6, none⟩ = some (.int .i64 ((rd_T39 t290 (ji69)).f2.f3.f1)) ∧ w'.cell? ⟨(ad317.add (((ji69)).toNat * 9)).block, (ad317.add (((ji69)).toNat * 9)).off + 7, none⟩ = some (.int .i64 ((rd_T39 t290 (ji69)).f2.f4)) ∧ w'.cell? ⟨(ad317.add (((ji69)).toNat * 9)).block, (ad317.add (((ji69)).toNat * 9)).off + 8, none⟩ = some (.int .i64 ((rd_T39 t290 (ji69)).f2.f5))) (ds := []) #[false, false, false, false, false, false, false, false, false, false, false] (by kernel_rfl) rfl rfl ⟨hx317_0, hx317_1, hx317_2, hx317_3, hx317_4, hx317_5, hx317_6, hx317_7, hx317_8, hx318_0, hx318_1, hx318_2, hx318_3, hx318_4, hx318_5, hx318_6, hx318_7, hx318_8⟩ (fun hHeld => ?_); refine with_tabW rollbacknetlaw27_DeterminantUnions.tab16 rollbacknetlaw27_DeterminantUnions.bits16 (fun HT_ HW_ => ?_)
 generalize wr.drew = w77 at HO_6 HO_7 HO_8 HO_9 HO_10 BK273 HB hx317_0 hx317_1 hx317_2 hx317_3 hx317_4 hx317_5 hx317_6 hx317_7 hx317_8 hx318_0 hx318_1 hx318_2 hx318_3 hx318_4 hx318_5 hx318_6 hx318_7 hx318_8 hHeld ⊢
 refine pur HT_.out 0 (some 74) (bm 11 1) ?_
 refine pur HT_.out 1 (some 75) (bm 11 3) ?_
 refine pur HT_.out 2 (some 76) (bm 11 7) ?_
 refine pur HT_.out 4 (some 78) (bm 11 23) ?_
 refine pur HT_.out 5 (some 79) (bm 11 55) ?_
 refine pur HT_.out 6 (some 80) (bm 11 119) ?_
 refine pur HT_.out 7 (some 81) (bm 11 247) ?_
 refine take_ (i := 3) (N := some 77) (v := ?_) (a' := ?_) #[true, true, true, true, true, true, true, true, false, false, false] rfl rfl (take_ofW HT_.out HW_.out (by kernel_rfl)) (fun _ _ _ h => h) (Or.inl ⟨by rfl, ?_⟩) hHeld ?_ ?_
 rotate_left
 ·(
 rintro w' ⟨s0, s1, s2, s3, s4, s5, s6, s7, s8, s9, s10, s11, s12, s13, s14, s15, s16, s17⟩
 go_simp
 with_reducible rfl)
 rotate_left
 ·(
 simp only [Act.put, List.setIfInBounds_toArray, List.set_cons_zero, List.set_cons_succ, i64_w, i32_w]
 rfl)
 refine take_ (i := 8) (N := some 82) (v := ?_) (a' := ?_) #[true, true, true, true, true, true, true, true, true, false, false] rfl rfl (take_ofW HT_.out HW_.out (by kernel_rfl)) (fun _ _ _ h => h) (Or.inl ⟨by rfl, ?_⟩) hHeld ?_ ?_
 rotate_left
 ·(
 rintro w' ⟨s0, s1, s2, s3, s4, s5, s6, s7, s8, s9, s10, s11, s12, s13, s14, s15, s16, s17⟩
 go_simp
 with_reducible rfl)
 rotate_left
 ·(
 simp only [Act.put, List.setIfInBounds_toArray, List.set_cons_zero, List.set_cons_succ, i64_w, i32_w]
 rfl)
 refine one_ (i := 9) (N := some 83) #[true, true, true, true, true, true, true, true, true, true, false] rfl rfl (one_of HT_.out (by kernel_rfl)) (by decide) (fun K hK => ?_)
 refine goes_ Try.func21 (by kernel_rfl) rfl #[.agg #[.int .i64 ((rd_T39 t290 x13_2).f0), .int .i64 ((rd_T39 t290 x13_2).f1), .int .i64 ((rd_T39 t290 x13_2).f2.f0), .int .i64 ((rd_T39 t290 x13_2).f2.f1), .int .i64 ((rd_T39 t290 x13_2).f2.f2), .int .i64 ((rd_T39 t290 x13_2).f2.f3.f0), .int .i64 ((rd_T39 t290 x13_2).f2.f3.f1), .int .i64 ((rd_T39 t290 x13_2).f2.f4), .int .i64 ((rd_T39 t290 x13_2).f2.f5)], .agg #[.int .i64 ((rd_T39 t290 (ji69)).f0), .int .i64 ((rd_T39 t290 (ji69)).f1), .int .i64 ((rd_T39 t290 (ji69)).f2.f0), .int .i64 ((rd_T39 t290 (ji69)).f2.f1), .int .i64 ((rd_T39 t290 (ji69)).f2.f2), .int .i64 ((rd_T39 t290 (ji69)).f2.f3.f0), .int .i64 ((rd_T39 t290 (ji69)).f2.f3.f1), .int .i64 ((rd_T39 t290 (ji69)).f2.f4), .int .i64 ((rd_T39 t290 (ji69)).f2.f5)]] (by first | rfl | (refine wanted_on rfl rfl rfl ?_; first | assumption | (simp [*]; done))) rfl rfl (by (try simp only [List.map_toArray, List.map_cons, List.map_nil]); first | done | (simp only [hji69]; rfl) | rfl | (simp only [List.length_drop, List.length_take]; rfl)) ?_
 with_reducible refine (determinant_Compare.calls k2 ((rd_T39 t290 x13_2).f0) ((rd_T39 t290 x13_2).f1) ((rd_T39 t290 x13_2).f2.f0) ((rd_T39 t290 x13_2).f2.f1) ((rd_T39 t290 x13_2).f2.f2) ((rd_T39 t290 x13_2).f2.f3.f0) ((rd_T39 t290 x13_2).f2.f3.f1) ((rd_T39 t290 x13_2).f2.f4) ((rd_T39 t290 x13_2).f2.f5) ((rd_T39 t290 (ji69)).f0) ((rd_T39 t290 (ji69)).f1) ((rd_T39 t290 (ji69)).f2.f0) ((rd_T39 t290 (ji69)).f2.f1) ((rd_T39 t290 (ji69)).f2.f2) ((rd_T39 t290 (ji69)).f2.f3.f0) ((rd_T39 t290 (ji69)).f2.f3.f1) ((rd_T39 t290 (ji69)).f2.f4) ((rd_T39 t290 (ji69)).f2.f5) t319 _ A71.out).mono ?_
 rintro e w78 ⟨rfl, hb⟩
 have HS0_ := (hb.cell (World.block_lt_of_cell? _ _ (hHeld.1))).trans (hHeld.1)
 have HS1_ := (hb.cell (World.block_lt_of_cell? _ _ (hHeld.2.1))).trans (hHeld.2.1)
 have HS2_ := (hb.cell (World.block_lt_of_cell? _ _ (hHeld.2.2.1))).trans (hHeld.2.2.1)
 have HS3_ := (hb.cell (World.block_lt_of_cell? _ _ (hHeld.2.2.2.1))).trans (hHeld.2.2.2.1)
 have HS4_ := (hb.cell (World.block_lt_of_cell? _ _ (hHeld.2.2.2.2.1))).trans (hHeld.2.2.2.2.1)
 have HS5_ := (hb.cell (World.block_lt_of_cell? _ _ (hHeld.2.2.2.2.2.1))).trans (hHeld.2.2.2.2.2.1)
 have HS6_ := (hb.cell (World.block_lt_of_cell? _ _ (hHeld.2.2.2.2.2.2.1))).trans (hHeld.2.2.2.2.2.2.1)
 have HS7_ := (hb.cell (World.block_lt_of_cell? _ _ (hHeld.2.2.2.2.2.2.2.1))).trans (hHeld.2.2.2.2.2.2.2.1)
 have HS8_ := (hb.cell (World.block_lt_of_cell? _ _ (hHeld.2.2.2.2.2.2.2.2.1))).trans (hHeld.2.2.2.2.2.2.2.2.1)
 have HS9_ := (hb.cell (World.block_lt_of_cell? _ _ (hHeld.2.2.2.2.2.2.2.2.2.1))).trans (hHeld.2.2.2.2.2.2.2.2.2.1)
 have HS10_ := (hb.cell (World.block_lt_of_cell? _ _ (hHeld.2.2.2.2.2.2.2.2.2.2.1))).trans (hHeld.2.2.2.2.2.2.2.2.2.2.1)
 have HS11_ := (hb.cell (World.block_lt_of_cell? _ _ (hHeld.2.2.2.2.2.2.2.2.2.2.2.1))).trans (hHeld.2.2.2.2.2.2.2.2.2.2.2.1)
 have HS12_ := (hb.cell (World.block_lt_of_cell? _ _ (hHeld.2.2.2.2.2.2.2.2.2.2.2.2.1))).trans (hHeld.2.2.2.2.2.2.2.2.2.2.2.2.1)
 have HS13_ := (hb.cell (World.block_lt_of_cell? _ _ (hHeld.2.2.2.2.2.2.2.2.2.2.2.2.2.1))).trans (hHeld.2.2.2.2.2.2.2.2.2.2.2.2.2.1)
 have HS14_ := (hb.cell (World.block_lt_of_cell? _ _ (hHeld.2.2.2.2.2.2.2.2.2.2.2.2.2.2.1))).trans (hHeld.2.2.2.2.2.2.2.2.2.2.2.2.2.2.1)
 have HS15_ := (hb.cell (World.block_lt_of_cell? _ _ (hHeld.2.2.2.2.2.2.2.2.2.2.2.2.2.2.2.1))).trans (hHeld.2.2.2.2.2.2.2.2.2.2.2.2.2.2.2.1)
 have HS16_ := (hb.cell (World.block_lt_of_cell? _ _ (hHeld.2.2.2.2.2.2.2.2.2.2.2.2.2.2.2.2.1))).trans (hHeld.2.2.2.2.2.2.2.2.2.2.2.2.2.2.2.2.1)
 have HS17_ := (hb.cell (World.block_lt_of_cell? _ _ (hHeld.2.2.2.2.2.2.2.2.2.2.2.2.2.2.2.2.2))).trans (hHeld.2.2.2.2.2.2.2.2.2.2.2.2.2.2.2.2.2)
 refine ⟨_, rfl, ?_⟩
 have n0_ := Aside0.mk (Kd.R_below (rq HO_6.out) hb)
 have n1_ := Aside0.mk (Kd.R_below (rq HO_7.out) hb)
 have n2_ := Aside0.mk (Kd.R_below (rq HO_8.out) hb)
 have n3_ := Aside0.mk (Kd.R_below (rq HO_9.out) hb)
 have n4_ := Aside0.mk (Kd.R_below (rq HO_10.out) hb)
 have n5_ := Aside0.mk (blk_below (g := gb273) (o := .cells #[.int .i64 a1_0, .int .i64 a1_1, .int .i64 a1_2, .int .i64 a1_3, .int .i64 a1_4, .int .i64 a1_5, .int .i64 a1_6, .int .i64 a1_7, .int .i64 a1_8] 39 (0, 0)) (kq BK273.out) hb)
 have n6_ := Aside0.mk (below_step (bq1 HB.out GE273.out) hb)
 clear HO_6
 clear HO_7
 clear HO_8
 clear HO_9
 clear HO_10
 clear BK273
 clear HB
 have HO_6 := n0_
 have HO_7 := n1_
 have HO_8 := n2_
 have HO_9 := n3_
 have HO_10 := n4_
 have BK273 := n5_
 have HB := n6_
 clear n0_ n1_ n2_ n3_ n4_ n5_ n6_
 (try clear hb)
 (try clear hb2)
 (try clear hk)
 (try clear hi)
 refine hK.out _ _ ⟨HS0_, HS1_, HS2_, HS3_, HS4_, HS5_, HS6_, HS7_, HS8_, HS9_, HS10_, HS11_, HS12_, HS13_, HS14_, HS15_, HS16_, HS17_⟩ (fun hHeld => ?_)
 clear hK K
 refine norm_ (a' := ?_) ?_ ?_
 rotate_left
 ·(
 show Act.put _ (some 83) _ = _
 simp only [Act.put, List.setIfInBounds_toArray, List.set_cons_zero, List.set_cons_succ, i64_w, i32_w]
 rfl)
 refine pur HT_.out 10 (some 84) (bm 11 2047) ?_
 refine done_ (done_of HT_.out (by kernel_rfl)) ?_
 try go_wp2
 go_roundg k2
 case measure => have := HK1.out; have := HK2.out; omega
 case rel => exact ⟨(ji69), (by first | rfl | (simp; done) | (simp only [← hji69] <;> (first | rfl | simp)) | (simp [*]; done)), H', ⟨by have := HK1.out; have := HK2.out; omega⟩, ⟨rq HO_6.out⟩, ⟨rq HO_7.out⟩, ⟨rq HO_8.out⟩, ⟨rq HO_9.out⟩, ⟨rq HO_10.out⟩, ⟨kq BK273.out⟩, ⟨bq1 HB.out GE273.out⟩⟩))
 ·(
 rw [if_neg c70] at H
 exact absurd H (by simp)))
 ·(
 rw [if_neg c68] at H
 exact absurd H (by simp)))
 ·(
 rw [if_neg c67] at H
 exact absurd H (by simp)))
 ·(
 rw [if_neg c66] at H
 have c66b0 : decide ((wrap64 (x13_2 + 1)) < (t290.length : Int)) = false := decide_eq_false c66
 clear c66
 replace H := Option.bind_eq_some_iff.mp H
 obtain ⟨t320, A790, H⟩ := H
 replace H : ((rollbacknetref27_Same.f k2 t290 t320).bind fun t323 => (if t323 = true then ((determinant_Merge.f k2 t290 t278).bind fun t324 => ((rollbacknetref27_Same.f k2 t290 t324).bind fun t327 => (if t327 = true then ((determinant_Merge.f k2 t290 t286).bind fun t328 => ((rollbacknetref27_Same.f k2 t296 t328).bind fun t331 => (if t331 = true then ((determinant_Add.f k2 t290 a1_0 a1_1 a1_2 a1_3 a1_4 a1_5 a1_6 a1_7 a1_8).bind fun t332 => ((determinant_Add.f k2 t290 a1_0 a1_1 a1_2 a1_3 a1_4 a1_5 a1_6 a1_7 a1_8).bind fun t335 => ((determinant_Add.f k2 t335 a1_0 a1_1 a1_2 a1_3 a1_4 a1_5 a1_6 a1_7 a1_8).bind fun t338 => ((rollbacknetref27_Same.f k2 t332 t338).bind fun t341 => (some t341))))) else (some false)))) else (some false)))) else (some false))) = some r := H
 have A79 := Aside0.mk A790
 clear A790
 replace H := Option.bind_eq_some_iff.mp H
 obtain ⟨t323, A800, H⟩ := H
 replace H : (if t323 = true then ((determinant_Merge.f k2 t290 t278).bind fun t324 => ((rollbacknetref27_Same.f k2 t290 t324).bind fun t327 => (if t327 = true then ((determinant_Merge.f k2 t290 t286).bind fun t328 => ((rollbacknetref27_Same.f k2 t296 t328).bind fun t331 => (if t331 = true then ((determinant_Add.f k2 t290 a1_0 a1_1 a1_2 a1_3 a1_4 a1_5 a1_6 a1_7 a1_8).bind fun t332 => ((determinant_Add.f k2 t290 a1_0 a1_1 a1_2 a1_3 a1_4 a1_5 a1_6 a1_7 a1_8).bind fun t335 => ((determinant_Add.f k2 t335 a1_0 a1_1 a1_2 a1_3 a1_4 a1_5 a1_6 a1_7 a1_8).bind fun t338 => ((rollbacknetref27_Same.f k2 t332 t338).bind fun t341 => (some t341))))) else (some false)))) else (some false)))) else (some false)) = some r := H
 have A80 := Aside0.mk A800
 clear A800
 by_cases c81 : t323 = true
 ·(
 subst c81
 have H1 : ((determinant_Merge.f k2 t290 t278).bind fun t324 => ((rollbacknetref27_Same.f k2 t290 t324).bind fun t327 => (if t327 = true then ((determinant_Merge.f k2 t290 t286).bind fun t328 => ((rollbacknetref27_Same.f k2 t296 t328).bind fun t331 => (if t331 = true then ((determinant_Add.f k2 t290 a1_0 a1_1 a1_2 a1_3 a1_4 a1_5 a1_6 a1_7 a1_8).bind fun t332 => ((determinant_Add.f k2 t290 a1_0 a1_1 a1_2 a1_3 a1_4 a1_5 a1_6 a1_7 a1_8).bind fun t335 => ((determinant_Add.f k2 t335 a1_0 a1_1 a1_2 a1_3 a1_4 a1_5 a1_6 a1_7 a1_8).bind fun t338 => ((rollbacknetref27_Same.f k2 t332 t338).bind fun t341 => (some t341))))) else (some false)))) else (some false)))) = some r := by rw [if_pos rfl] at H; exact H
 clear H
 have H := H1
 clear H1
 replace H := Option.bind_eq_some_iff.mp H
 obtain ⟨t324, A820, H⟩ := H
 replace H : ((rollbacknetref27_Same.f k2 t290 t324).bind fun t327 => (if t327 = true then ((determinant_Merge.f k2 t290 t286).bind fun t328 => ((rollbacknetref27_Same.f k2 t296 t328).bind fun t331 => (if t331 = true then ((determinant_Add.f k2 t290 a1_0 a1_1 a1_2 a1_3 a1_4 a1_5 a1_6 a1_7 a1_8).bind fun t332 => ((determinant_Add.f k2 t290 a1_0 a1_1 a1_2 a1_3 a1_4 a1_5 a1_6 a1_7 a1_8).bind fun t335 => ((determinant_Add.f k2 t335 a1_0 a1_1 a1_2 a1_3 a1_4 a1_5 a1_6 a1_7 a1_8).bind fun t338 => ((rollbacknetref27_Same.f k2 t332 t338).bind fun t341 => (some t341))))) else (some false)))) else (some false))) = some r := H
 have A82 := Aside0.mk A820
 clear A820
 replace H := Option.bind_eq_some_iff.mp H
 obtain ⟨t327, A830, H⟩ := H
 replace H : (if t327 = true then ((determinant_Merge.f k2 t290 t286).bind fun t328 => ((rollbacknetref27_Same.f k2 t296 t328).bind fun t331 => (if t331 = true then ((determinant_Add.f k2 t290 a1_0 a1_1 a1_2 a1_3 a1_4 a1_5 a1_6 a1_7 a1_8).bind fun t332 => ((determinant_Add.f k2 t290 a1_0 a1_1 a1_2 a1_3 a1_4 a1_5 a1_6 a1_7 a1_8).bind fun t335 => ((determinant_Add.f k2 t335 a1_0 a1_1 a1_2 a1_3 a1_4 a1_5 a1_6 a1_7 a1_8).bind fun t338 => ((rollbacknetref27_Same.f k2 t332 t338).bind fun t341 => (some t341))))) else (some false)))) else (some false)) = some r := H
 have A83 := Aside0.mk A830
 clear A830
 by_cases c84 : t327 = true
 ·(
 subst c84
 have H1 : ((determinant_Merge.f k2 t290 t286).bind fun t328 => ((rollbacknetref27_Same.f k2 t296 t328).bind fun t331 => (if t331 = true then ((determinant_Add.f k2 t290 a1_0 a1_1 a1_2 a1_3 a1_4 a1_5 a1_6 a1_7 a1_8).bind fun t332 => ((determinant_Add.f k2 t290 a1_0 a1_1 a1_2 a1_3 a1_4 a1_5 a1_6 a1_7 a1_8).bind fun t335 => ((determinant_Add.f k2 t335 a1_0 a1_1 a1_2 a1_3 a1_4 a1_5 a1_6 a1_7 a1_8).bind fun t338 => ((rollbacknetref27_Same.f k2 t332 t338).bind fun t341 => (some t341))))) else (some false)))) = some r := by rw [if_pos rfl] at H; exact H
 clear H
 have H := H1
 clear H1
 replace H := Option.bind_eq_some_iff.mp H
 obtain ⟨t328, A850, H⟩ := H
 replace H : ((rollbacknetref27_Same.f k2 t296 t328).bind fun t331 => (if t331 = true then ((determinant_Add.f k2 t290 a1_0 a1_1 a1_2 a1_3 a1_4 a1_5 a1_6 a1_7 a1_8).bind fun t332 => ((determinant_Add.f k2 t290 a1_0 a1_1 a1_2 a1_3 a1_4 a1_5 a1_6 a1_7 a1_8).bind fun t335 => ((determinant_Add.f k2 t335 a1_0 a1_1 a1_2 a1_3 a1_4 a1_5 a1_6 a1_7 a1_8).bind fun t338 => ((rollbacknetref27_Same.f k2 t332 t338).bind fun t341 => (some t341))))) else (some false))) = some r := H
 have A85 := Aside0.mk A850
 clear A850
 replace H := Option.bind_eq_some_iff.mp H
 obtain ⟨t331, A860, H⟩ := H
 replace H : (if t331 = true then ((determinant_Add.f k2 t290 a1_0 a1_1 a1_2 a1_3 a1_4 a1_5 a1_6 a1_7 a1_8).bind fun t332 => ((determinant_Add.f k2 t290 a1_0 a1_1 a1_2 a1_3 a1_4 a1_5 a1_6 a1_7 a1_8).bind fun t335 => ((determinant_Add.f k2 t335 a1_0 a1_1 a1_2 a1_3 a1_4 a1_5 a1_6 a1_7 a1_8).bind fun t338 => ((rollbacknetref27_Same.f k2 t332 t338).bind fun t341 => (some t341))))) else (some false)) = some r := H
 have A86 := Aside0.mk A860
 clear A860
 by_cases c87 : t331 = true
 ·(
 subst c87
 have H1 : ((determinant_Add.f k2 t290 a1_0 a1_1 a1_2 a1_3 a1_4 a1_5 a1_6 a1_7 a1_8).bind fun t332 => ((determinant_Add.f k2 t290 a1_0 a1_1 a1_2 a1_3 a1_4 a1_5 a1_6 a1_7 a1_8).bind fun t335 => ((determinant_Add.f k2 t335 a1_0 a1_1 a1_2 a1_3 a1_4 a1_5 a1_6 a1_7 a1_8).bind fun t338 => ((rollbacknetref27_Same.f k2 t332 t338).bind fun t341 => (some t341))))) = some r := by rw [if_pos rfl] at H; exact H
 clear H
 have H := H1
 clear H1
 replace H := Option.bind_eq_some_iff.mp H
 obtain ⟨t332, A880, H⟩ := H
 replace H : ((determinant_Add.f k2 t290 a1_0 a1_1 a1_2 a1_3 a1_4 a1_5 a1_6 a1_7 a1_8).bind fun t335 => ((determinant_Add.f k2 t335 a1_0 a1_1 a1_2 a1_3 a1_4 a1_5 a1_6 a1_7 a1_8).bind fun t338 => ((rollbacknetref27_Same.f k2 t332 t338).bind fun t341 => (some t341)))) = some r := H
 have A88 := Aside0.mk A880
 clear A880
 replace H := Option.bind_eq_some_iff.mp H
 obtain ⟨t335, A890, H⟩ := H
 replace H : ((determinant_Add.f k2 t335 a1_0 a1_1 a1_2 a1_3 a1_4 a1_5 a1_6 a1_7 a1_8).bind fun t338 => ((rollbacknetref27_Same.f k2 t332 t338).bind fun t341 => (some t341))) = some r := H
 have A89 := Aside0.mk A890
 clear A890
 replace H := Option.bind_eq_some_iff.mp H
 obtain ⟨t338, A900, H⟩ := H
 replace H : ((rollbacknetref27_Same.f k2 t332 t338).bind fun t341 => (some t341)) = some r := H
 have A90 := Aside0.mk A900
 clear A900
 replace H := Option.bind_eq_some_iff.mp H
 obtain ⟨t341, A910, H⟩ := H
 replace H : (some t341) = some r := H
 have A91 := Aside0.mk A910
 clear A910
 obtain rfl := Option.some.inj H
 obtain ⟨Ao92, co92, eo92⟩ := Kd.R_slice HO_9.out
 subst eo92
 try go_wp2
 have n0_ := Aside0.mk (Kd.R_drew HO_6.out)
 have n1_ := Aside0.mk (Kd.R_drew HO_7.out)
 have n2_ := Aside0.mk (Kd.R_drew HO_8.out)
 have n3_ := Aside0.mk (Kd.R_drew HO_9.out)
 have n4_ := Aside0.mk (Kd.R_drew HO_10.out)
 have n5_ := Aside0.mk (blk_drew BK273.out)
 have n6_ := Aside0.mk (below_drew1 HB.out)
 clear HO_6
 clear HO_7
 clear HO_8
 clear HO_9
 clear HO_10
 clear BK273
 clear HB
 have HO_6 := n0_
 have HO_7 := n1_
 have HO_8 := n2_
 have HO_9 := n3_
 have HO_10 := n4_
 have BK273 := n5_
 have HB := n6_
 clear n0_ n1_ n2_ n3_ n4_ n5_ n6_
 refine start_ (n := 31) (S := fun w' => w'.cell? ⟨gb273, 0, none⟩ = some (.int .i64 a1_0) ∧ w'.cell? ⟨gb273, 1, none⟩ = some (.int .i64 a1_1) ∧ w'.cell? ⟨gb273, 2, none⟩ = some (.int .i64 a1_2) ∧ w'.cell? ⟨gb273, 3, none⟩ = some (.int .i64 a1_3) ∧ w'.cell? ⟨gb273, 4, none⟩ = some (.int .i64 a1_4) ∧ w'.cell? ⟨gb273, 5, none⟩ = some (.int .i64 a1_5) ∧ w'.cell? ⟨gb273, 6, none⟩ = some (.int .i64 a1_6) ∧ w'.cell? ⟨gb273, 7, none⟩ = some (.int .i64 a1_7) ∧ w'.cell? ⟨gb273, 8, none⟩ = some (.int .i64 a1_8)) (ds := []) #[false, false, false, false, false, false, false, false, false, false, false, false, false, false, false, false, false, false, false, false, false, false, false, false, false, false, false, false, false, false, false] (by kernel_rfl) rfl rfl ⟨(blk_cell BK273.out 0).trans rfl, (blk_cell BK273.out 1).trans rfl, (blk_cell BK273.out 2).trans rfl, (blk_cell BK273.out 3).trans rfl, (blk_cell BK273.out 4).trans rfl, (blk_cell BK273.out 5).trans rfl, (blk_cell BK273.out 6).trans rfl, (blk_cell BK273.out 7).trans rfl, (blk_cell BK273.out 8).trans rfl⟩ (fun hHeld => ?_); refine with_tabW rollbacknetlaw27_DeterminantUnions.tab18 rollbacknetlaw27_DeterminantUnions.bits18 (fun HT_ HW_ => ?_)
 generalize wr.drew = w93 at HO_6 HO_7 HO_8 HO_9 HO_10 BK273 HB hHeld ⊢
 refine pur HT_.out 0 (some 85) (bm 31 1) ?_
 refine pur HT_.out 1 (some 86) (bm 31 3) ?_
 refine pur HT_.out 2 (some 87) (bm 31 7) ?_
 refine one_ (i := 3) (N := some 88) #[true, true, true, true, false, false, false, false, false, false, false, false, false, false, false, false, false, false, false, false, false, false, false, false, false, false, false, false, false, false, false] rfl rfl (one_of HT_.out (by kernel_rfl)) (by decide) (fun K hK => ?_)
 refine goes_ Try.func25 (by kernel_rfl) rfl #[.slice Ao22 t282.length co22, .slice Ao21 t278.length co21] (by first | rfl | (refine wanted_on rfl rfl rfl ?_; first | assumption | (simp [*]; done))) rfl rfl (by (try simp only [List.map_toArray, List.map_cons, List.map_nil]); first | done | rfl | (simp only [List.length_drop, List.length_take]; rfl)) ?_
 with_reducible refine (determinant_Merge.calls k2 _ _ t282 _ _ t278 t320 _ ?side1 ?side2 ?side3 ?side4 A79.out).mono ?_
 (case side1 => repeat (first | exact (Kd.R_reads' HO_7.out).2.2 | (with_reducible refine Kd.C_alloc ?_ _) | (with_reducible refine Kd.C_drewN ?_ _) | (with_reducible refine Kd.C_drew ?_)))
 (case side2 => exact (Kd.R_reads' HO_7.out).2.1)
 (case side3 => repeat (first | exact (Kd.R_reads' HO_6.out).2.2 | (with_reducible refine Kd.C_alloc ?_ _) | (with_reducible refine Kd.C_drewN ?_ _) | (with_reducible refine Kd.C_drew ?_)))
 (case side4 => exact (Kd.R_reads' HO_6.out).2.1)
 rintro e w94 ⟨v321, rfl, ho0, hb⟩
 refine ⟨_, rfl, ?_⟩
 have n0_ := Aside0.mk (Kd.R_elder' (rq HO_6.out) (Kd.R_base ho0) hb)
 have n1_ := Aside0.mk (Kd.R_elder' (rq HO_7.out) (Kd.R_base ho0) hb)
 have n2_ := Aside0.mk (Kd.R_elder' (rq HO_8.out) (Kd.R_base ho0) hb)
 have n3_ := Aside0.mk (Kd.R_elder' (rq HO_9.out) (Kd.R_base ho0) hb)
 have n4_ := Aside0.mk (Kd.R_elder' (rq HO_10.out) (Kd.R_base ho0) hb)
 have n5_ := Aside0.mk (Kd.R_lower (Kd.R_newB (Kd.R_new' (Kd.R_new' (Kd.R_new' (Kd.R_new' (Kd.R_new' ho0 (Kd.R_lt (rq HO_6.out))) (Kd.R_lt (rq HO_7.out))) (Kd.R_lt (rq HO_8.out))) (Kd.R_lt (rq HO_9.out))) (Kd.R_lt (rq HO_10.out))) (g := gb273) (o := .cells #[.int .i64 a1_0, .int .i64 a1_1, .int .i64 a1_2, .int .i64 a1_3, .int .i64 a1_4, .int .i64 a1_5, .int .i64 a1_6, .int .i64 a1_7, .int .i64 a1_8] 39 (0, 0)) (kq BK273.out)) (below_size (bq1 HB.out GE273.out)))
 have n6_ := Aside0.mk (blk_below (g := gb273) (o := .cells #[.int .i64 a1_0, .int .i64 a1_1, .int .i64 a1_2, .int .i64 a1_3, .int .i64 a1_4, .int .i64 a1_5, .int .i64 a1_6, .int .i64 a1_7, .int .i64 a1_8] 39 (0, 0)) (kq BK273.out) hb)
 have n7_ := Aside0.mk (below_step (bq1 HB.out GE273.out) hb)
 clear HO_6
 clear HO_7
 clear HO_8
 clear HO_9
 clear HO_10
 clear BK273
 clear HB
 have HO_6 := n0_
 have HO_7 := n1_
 have HO_8 := n2_
 have HO_9 := n3_
 have HO_10 := n4_
 have HO322 := n5_
 have BK273 := n6_
 have HB := n7_
 clear n0_ n1_ n2_ n3_ n4_ n5_ n6_ n7_
 (try clear hb)
 (try clear hb2)
 (try clear hk)
 (try clear hi)
 (try clear ho0)
 obtain ⟨Ao95, co95, eo95⟩ := Kd.R_slice HO322.out
 (first | subst eo95 | (injection eo95 with f1_ f2_ f3_; have f4_ := f1_.symm; have f5_ := f3_.symm; clear f1_ f2_ f3_; subst f4_; subst f5_))
 refine hK.out _ _ ⟨(blk_cell BK273.out 0).trans rfl, (blk_cell BK273.out 1).trans rfl, (blk_cell BK273.out 2).trans rfl, (blk_cell BK273.out 3).trans rfl, (blk_cell BK273.out 4).trans rfl, (blk_cell BK273.out 5).trans rfl, (blk_cell BK273.out 6).trans rfl, (blk_cell BK273.out 7).trans rfl, (blk_cell BK273.out 8).trans rfl⟩ (fun hHeld => ?_)
 clear hK K
 refine norm_ (a' := ?_) ?_ ?_
 rotate_left
 ·(
 show Act.put _ (some 88) _ = _
 simp only [Act.put, List.setIfInBounds_toArray, List.set_cons_zero, List.set_cons_succ, i64_w, i32_w]
 rfl)
 refine one_ (i := 4) (N := some 89) #[true, true, true, true, true, false, false, false, false, false, false, false, false, false, false, false, false, false, false, false, false, false, false, false, false, false, false, false, false, false, false] rfl rfl (one_of HT_.out (by kernel_rfl)) (by decide) (fun K hK => ?_)
 refine goes_ Try.func14 (by kernel_rfl) rfl #[.slice Ao92 t290.length co92, .slice Ao95 t320.length co95] (by first | rfl | (refine wanted_on rfl rfl rfl ?_; first | assumption | (simp [*]; done))) rfl rfl (by (try simp only [List.map_toArray, List.map_cons, List.map_nil]); first | done | rfl | (simp only [List.length_drop, List.length_take]; rfl)) ?_
 with_reducible refine (rollbacknetref27_Same.calls k2 _ _ t290 _ _ t320 true _ ?side1 ?side2 ?side3 ?side4 A80.out).mono ?_
 (case side1 => repeat (first | exact (Kd.R_reads' HO_9.out).2.2 | (with_reducible refine Kd.C_alloc ?_ _) | (with_reducible refine Kd.C_drewN ?_ _) | (with_reducible refine Kd.C_drew ?_)))
 (case side2 => exact (Kd.R_reads' HO_9.out).2.1)
 (case side3 => repeat (first | exact (Kd.R_reads' HO322.out).2.2 | (with_reducible refine Kd.C_alloc ?_ _) | (with_reducible refine Kd.C_drewN ?_ _) | (with_reducible refine Kd.C_drew ?_)))
 (case side4 => exact (Kd.R_reads' HO322.out).2.1)
 rintro e w' ⟨rfl, ⟨nd, rfl⟩⟩
 refine ⟨_, rfl, ?_⟩
 refine hK.out _ _ ⟨(blk_cell BK273.out 0).trans rfl, (blk_cell BK273.out 1).trans rfl, (blk_cell BK273.out 2).trans rfl, (blk_cell BK273.out 3).trans rfl, (blk_cell BK273.out 4).trans rfl, (blk_cell BK273.out 5).trans rfl, (blk_cell BK273.out 6).trans rfl, (blk_cell BK273.out 7).trans rfl, (blk_cell BK273.out 8).trans rfl⟩ (fun hHeld => ?_)
 clear hK K
 refine norm_ (a' := ?_) ?_ ?_
 rotate_left
 ·(
 show Act.put _ (some 89) _ = _
 simp only [Act.put, List.setIfInBounds_toArray, List.set_cons_zero, List.set_cons_succ, i64_w, i32_w]
 rfl)
 refine pur HT_.out 5 (some 90) (bm 31 63) ?_
 refine pur HT_.out 6 (some 91) (bm 31 127) ?_
 refine pur HT_.out 7 (some 92) (bm 31 255) ?_
 refine pur HT_.out 8 (some 93) (bm 31 511) ?_
 refine one_ (i := 9) (N := some 94) #[true, true, true, true, true, true, true, true, true, true, false, false, false, false, false, false, false, false, false, false, false, false, false, false, false, false, false, false, false, false, false] rfl rfl (one_of HT_.out (by kernel_rfl)) (by decide) (fun K hK => ?_)
 refine goes_ Try.func25 (by kernel_rfl) rfl #[.slice Ao92 t290.length co92, .slice Ao21 t278.length co21] (by first | rfl | (refine wanted_on rfl rfl rfl ?_; first | assumption | (simp [*]; done))) rfl rfl (by (try simp only [List.map_toArray, List.map_cons, List.map_nil]); first | done | rfl | (simp only [List.length_drop, List.length_take]; rfl)) ?_
 with_reducible refine (determinant_Merge.calls k2 _ _ t290 _ _ t278 t324 _ ?side1 ?side2 ?side3 ?side4 A82.out).mono ?_
 (case side1 => repeat (first | exact (Kd.R_reads' HO_9.out).2.2 | (with_reducible refine Kd.C_alloc ?_ _) | (with_reducible refine Kd.C_drewN ?_ _) | (with_reducible refine Kd.C_drew ?_)))
 (case side2 => exact (Kd.R_reads' HO_9.out).2.1)
 (case side3 => repeat (first | exact (Kd.R_reads' HO_6.out).2.2 | (with_reducible refine Kd.C_alloc ?_ _) | (with_reducible refine Kd.C_drewN ?_ _) | (with_reducible refine Kd.C_drew ?_)))
 (case side4 => exact (Kd.R_reads' HO_6.out).2.1)
 rintro e w96 ⟨v325, rfl, ho0, hb⟩
 refine ⟨_, rfl, ?_⟩
 have n0_ := Aside0.mk (Kd.R_elder' (rq HO_6.out) (Kd.R_base ho0) hb)
 have n1_ := Aside0.mk (Kd.R_elder' (rq HO_7.out) (Kd.R_base ho0) hb)
 have n2_ := Aside0.mk (Kd.R_elder' (rq HO_8.out) (Kd.R_base ho0) hb)
 have n3_ := Aside0.mk (Kd.R_elder' (rq HO_9.out) (Kd.R_base ho0) hb)
 have n4_ := Aside0.mk (Kd.R_elder' (rq HO_10.out) (Kd.R_base ho0) hb)
 have n5_ := Aside0.mk (Kd.R_elder' (rq HO322.out) (Kd.R_base ho0) hb)
 have n6_ := Aside0.mk (Kd.R_lower (Kd.R_newB (Kd.R_new' (Kd.R_new' (Kd.R_new' (Kd.R_new' (Kd.R_new' (Kd.R_new' ho0 (Kd.R_lt (rq HO_6.out))) (Kd.R_lt (rq HO_7.out))) (Kd.R_lt (rq HO_8.out))) (Kd.R_lt (rq HO_9.out))) (Kd.R_lt (rq HO_10.out))) (Kd.R_lt (rq HO322.out))) (g := gb273) (o := .cells #[.int .i64 a1_0, .int .i64 a1_1, .int .i64 a1_2, .int .i64 a1_3, .int .i64 a1_4, .int .i64 a1_5, .int .i64 a1_6, .int .i64 a1_7, .int .i64 a1_8] 39 (0, 0)) (kq BK273.out)) (below_size (bq1 HB.out GE273.out)))
 have n7_ := Aside0.mk (blk_below (g := gb273) (o := .cells #[.int .i64 a1_0, .int .i64 a1_1, .int .i64 a1_2, .int .i64 a1_3, .int .i64 a1_4, .int .i64 a1_5, .int .i64 a1_6, .int .i64 a1_7, .int .i64 a1_8] 39 (0, 0)) (kq BK273.out) hb)
 have n8_ := Aside0.mk (below_step (bq1 HB.out GE273.out) hb)
 clear HO_6
 clear HO_7
 clear HO_8
 clear HO_9
 clear HO_10
 clear HO322
 clear BK273
 clear HB
 have HO_6 := n0_
 have HO_7 := n1_
 have HO_8 := n2_
 have HO_9 := n3_
 have HO_10 := n4_
 have HO322 := n5_
 have HO326 := n6_
 have BK273 := n7_
 have HB := n8_
 clear n0_ n1_ n2_ n3_ n4_ n5_ n6_ n7_ n8_
 (try clear hb)
 (try clear hb2)
 (try clear hk)
 (try clear hi)
 (try clear ho0)
 obtain ⟨Ao97, co97, eo97⟩ := Kd.R_slice HO326.out
 (first | subst eo97 | (injection eo97 with f1_ f2_ f3_; have f4_ := f1_.symm; have f5_ := f3_.symm; clear f1_ f2_ f3_; subst f4_; subst f5_))
 refine hK.out _ _ ⟨(blk_cell BK273.out 0).trans rfl, (blk_cell BK273.out 1).trans rfl, (blk_cell BK273.out 2).trans rfl, (blk_cell BK273.out 3).trans rfl, (blk_cell BK273.out 4).trans rfl, (blk_cell BK273.out 5).trans rfl, (blk_cell BK273.out 6).trans rfl, (blk_cell BK273.out 7).trans rfl, (blk_cell BK273.out 8).trans rfl⟩ (fun hHeld => ?_)
 clear hK K
 refine norm_ (a' := ?_) ?_ ?_
 rotate_left
 ·(
 show Act.put _ (some 94) _ = _
 simp only [Act.put, List.setIfInBounds_toArray, List.set_cons_zero, List.set_cons_succ, i64_w, i32_w]
 rfl)
 refine one_ (i := 10) (N := some 95) #[true, true, true, true, true, true, true, true, true, true, true, false, false, false, false, false, false, false, false, false, false, false, false, false, false, false, false, false, false, false, false] rfl rfl (one_of HT_.out (by kernel_rfl)) (by decide) (fun K hK => ?_)
 refine goes_ Try.func14 (by kernel_rfl) rfl #[.slice Ao92 t290.length co92, .slice Ao97 t324.length co97] (by first | rfl | (refine wanted_on rfl rfl rfl ?_; first | assumption | (simp [*]; done))) rfl rfl (by (try simp only [List.map_toArray, List.map_cons, List.map_nil]); first | done | rfl | (simp only [List.length_drop, List.length_take]; rfl)) ?_
 with_reducible refine (rollbacknetref27_Same.calls k2 _ _ t290 _ _ t324 true _ ?side1 ?side2 ?side3 ?side4 A83.out).mono ?_
 (case side1 => repeat (first | exact (Kd.R_reads' HO_9.out).2.2 | (with_reducible refine Kd.C_alloc ?_ _) | (with_reducible refine Kd.C_drewN ?_ _) | (with_reducible refine Kd.C_drew ?_)))
 (case side2 => exact (Kd.R_reads' HO_9.out).2.1)
 (case side3 => repeat (first | exact (Kd.R_reads' HO326.out).2.2 | (with_reducible refine Kd.C_alloc ?_ _) | (with_reducible refine Kd.C_drewN ?_ _) | (with_reducible refine Kd.C_drew ?_)))
 (case side4 => exact (Kd.R_reads' HO326.out).2.1)
 rintro e w' ⟨rfl, ⟨nd, rfl⟩⟩
 refine ⟨_, rfl, ?_⟩
 refine hK.out _ _ ⟨(blk_cell BK273.out 0).trans rfl, (blk_cell BK273.out 1).trans rfl, (blk_cell BK273.out 2).trans rfl, (blk_cell BK273.out 3).trans rfl, (blk_cell BK273.out 4).trans rfl, (blk_cell BK273.out 5).trans rfl, (blk_cell BK273.out 6).trans rfl, (blk_cell BK273.out 7).trans rfl, (blk_cell BK273.out 8).trans rfl⟩ (fun hHeld => ?_)
 clear hK K
 refine norm_ (a' := ?_) ?_ ?_
 rotate_left
 ·(
 show Act.put _ (some 95) _ = _
 simp only [Act.put, List.setIfInBounds_toArray, List.set_cons_zero, List.set_cons_succ, i64_w, i32_w]
 rfl)
 refine pur HT_.out 11 (some 96) (bm 31 4095) ?_
 refine pur HT_.out 12 (some 97) (bm 31 8191) ?_
 refine pur HT_.out 13 (some 98) (bm 31 16383) ?_
 refine pur HT_.out 14 (some 99) (bm 31 32767) ?_
 refine pur HT_.out 15 (some 100) (bm 31 65535) ?_
 refine one_ (i := 16) (N := some 101) #[true, true, true, true, true, true, true, true, true, true, true, true, true, true, true, true, true, false, false, false, false, false, false, false, false, false, false, false, false, false, false] rfl rfl (one_of HT_.out (by kernel_rfl)) (by decide) (fun K hK => ?_)
 refine goes_ Try.func25 (by kernel_rfl) rfl #[.slice Ao92 t290.length co92, .slice Ao24 t286.length co24] (by first | rfl | (refine wanted_on rfl rfl rfl ?_; first | assumption | (simp [*]; done))) rfl rfl (by (try simp only [List.map_toArray, List.map_cons, List.map_nil]); first | done | rfl | (simp only [List.length_drop, List.length_take]; rfl)) ?_
 with_reducible refine (determinant_Merge.calls k2 _ _ t290 _ _ t286 t328 _ ?side1 ?side2 ?side3 ?side4 A85.out).mono ?_
 (case side1 => repeat (first | exact (Kd.R_reads' HO_9.out).2.2 | (with_reducible refine Kd.C_alloc ?_ _) | (with_reducible refine Kd.C_drewN ?_ _) | (with_reducible refine Kd.C_drew ?_)))
 (case side2 => exact (Kd.R_reads' HO_9.out).2.1)
 (case side3 => repeat (first | exact (Kd.R_reads' HO_8.out).2.2 | (with_reducible refine Kd.C_alloc ?_ _) | (with_reducible refine Kd.C_drewN ?_ _) | (with_reducible refine Kd.C_drew ?_)))
 (case side4 => exact (Kd.R_reads' HO_8.out).2.1)
 rintro e w98 ⟨v329, rfl, ho0, hb⟩
 refine ⟨_, rfl, ?_⟩
 have n0_ := Aside0.mk (Kd.R_elder' (rq HO_6.out) (Kd.R_base ho0) hb)
 have n1_ := Aside0.mk (Kd.R_elder' (rq HO_7.out) (Kd.R_base ho0) hb)
 have n2_ := Aside0.mk (Kd.R_elder' (rq HO_8.out) (Kd.R_base ho0) hb)
 have n3_ := Aside0.mk (Kd.R_elder' (rq HO_9.out) (Kd.R_base ho0) hb)
 have n4_ := Aside0.mk (Kd.R_elder' (rq HO_10.out) (Kd.R_base ho0) hb)
 have n5_ := Aside0.mk (Kd.R_elder' (rq HO322.out) (Kd.R_base ho0) hb)
 have n6_ := Aside0.mk (Kd.R_elder' (rq HO326.out) (Kd.R_base ho0) hb)
 have n7_ := Aside0.mk (Kd.R_lower (Kd.R_newB (Kd.R_new' (Kd.R_new' (Kd.R_new' (Kd.R_new' (Kd.R_new' (Kd.R_new' (Kd.R_new' ho0 (Kd.R_lt (rq HO_6.out))) (Kd.R_lt (rq HO_7.out))) (Kd.R_lt (rq HO_8.out))) (Kd.R_lt (rq HO_9.out))) (Kd.R_lt (rq HO_10.out))) (Kd.R_lt (rq HO322.out))) (Kd.R_lt (rq HO326.out))) (g := gb273) (o := .cells #[.int .i64 a1_0, .int .i64 a1_1, .int .i64 a1_2, .int .i64 a1_3, .int .i64 a1_4, .int .i64 a1_5, .int .i64 a1_6, .int .i64 a1_7, .int .i64 a1_8] 39 (0, 0)) (kq BK273.out)) (below_size (bq1 HB.out GE273.out)))
 have n8_ := Aside0.mk (blk_below (g := gb273) (o := .cells #[.int .i64 a1_0, .int .i64 a1_1, .int .i64 a1_2, .int .i64 a1_3, .int .i64 a1_4, .int .i64 a1_5, .int .i64 a1_6, .int .i64 a1_7, .int .i64 a1_8] 39 (0, 0)) (kq BK273.out) hb)
 have n9_ := Aside0.mk (below_step (bq1 HB.out GE273.out) hb)
 clear HO_6
 clear HO_7
 clear HO_8
 clear HO_9
 clear HO_10
 clear HO322
 clear HO326
 clear BK273
 clear HB
 have HO_6 := n0_
 have HO_7 := n1_
 have HO_8 := n2_
 have HO_9 := n3_
 have HO_10 := n4_
 have HO322 := n5_
 have HO326 := n6_
 have HO330 := n7_
 have BK273 := n8_
 have HB := n9_
 clear n0_ n1_ n2_ n3_ n4_ n5_ n6_ n7_ n8_ n9_
 (try clear hb)
 (try clear hb2)
 (try clear hk)
 (try clear hi)
 (try clear ho0)
 obtain ⟨Ao99, co99, eo99⟩ := Kd.R_slice HO_10.out
 (first | subst eo99 | (injection eo99 with f1_ f2_ f3_; have f4_ := f1_.symm; have f5_ := f3_.symm; clear f1_ f2_ f3_; subst f4_; subst f5_))
 obtain ⟨Ao100, co100, eo100⟩ := Kd.R_slice HO330.out
 (first | subst eo100 | (injection eo100 with f1_ f2_ f3_; have f4_ := f1_.symm; have f5_ := f3_.symm; clear f1_ f2_ f3_; subst f4_; subst f5_))
 refine hK.out _ _ ⟨(blk_cell BK273.out 0).trans rfl, (blk_cell BK273.out 1).trans rfl, (blk_cell BK273.out 2).trans rfl, (blk_cell BK273.out 3).trans rfl, (blk_cell BK273.out 4).trans rfl, (blk_cell BK273.out 5).trans rfl, (blk_cell BK273.out 6).trans rfl, (blk_cell BK273.out 7).trans rfl, (blk_cell BK273.out 8).trans rfl⟩ (fun hHeld => ?_)
 clear hK K
 refine norm_ (a' := ?_) ?_ ?_
 rotate_left
 ·(
 show Act.put _ (some 101) _ = _
 simp only [Act.put, List.setIfInBounds_toArray, List.set_cons_zero, List.set_cons_succ, i64_w, i32_w]
 rfl)
 refine one_ (i := 17) (N := some 102) #[true, true, true, true, true, true, true, true, true, true, true, true, true, true, true, true, true, true, false, false, false, false, false, false, false, false, false, false, false, false, false] rfl rfl (one_of HT_.out (by kernel_rfl)) (by decide) (fun K hK => ?_)
 refine goes_ Try.func14 (by kernel_rfl) rfl #[.slice Ao99 t296.length co99, .slice Ao100 t328.length co100] (by first | rfl | (refine wanted_on rfl rfl rfl ?_; first | assumption | (simp [*]; done))) rfl rfl (by (try simp only [List.map_toArray, List.map_cons, List.map_nil]); first | done | rfl | (simp only [List.length_drop, List.length_take]; rfl)) ?_
 with_reducible refine (rollbacknetref27_Same.calls k2 _ _ t296 _ _ t328 true _ ?side1 ?side2 ?side3 ?side4 A86.out).mono ?_
 (case side1 => repeat (first | exact (Kd.R_reads' HO_10.out).2.2 | (with_reducible refine Kd.C_alloc ?_ _) | (with_reducible refine Kd.C_drewN ?_ _) | (with_reducible refine Kd.C_drew ?_)))
 (case side2 => exact (Kd.R_reads' HO_10.out).2.1)
 (case side3 => repeat (first | exact (Kd.R_reads' HO330.out).2.2 | (with_reducible refine Kd.C_alloc ?_ _) | (with_reducible refine Kd.C_drewN ?_ _) | (with_reducible refine Kd.C_drew ?_)))
 (case side4 => exact (Kd.R_reads' HO330.out).2.1)
 rintro e w' ⟨rfl, ⟨nd, rfl⟩⟩
 refine ⟨_, rfl, ?_⟩
 refine hK.out _ _ ⟨(blk_cell BK273.out 0).trans rfl, (blk_cell BK273.out 1).trans rfl, (blk_cell BK273.out 2).trans rfl, (blk_cell BK273.out 3).trans rfl, (blk_cell BK273.out 4).trans rfl, (blk_cell BK273.out 5).trans rfl, (blk_cell BK273.out 6).trans rfl, (blk_cell BK273.out 7).trans rfl, (blk_cell BK273.out 8).trans rfl⟩ (fun hHeld => ?_)
 clear hK K
 refine norm_ (a' := ?_) ?_ ?_
 rotate_left
 ·(
 show Act.put _ (some 102) _ = _
 simp only [Act.put, List.setIfInBounds_toArray, List.set_cons_zero, List.set_cons_succ, i64_w, i32_w]
 rfl)
 refine pur HT_.out 18 (some 103) (bm 31 524287) ?_
 refine pur HT_.out 19 (some 104) (bm 31 1048575) ?_
 refine pur HT_.out 20 (some 105) (bm 31 2097151) ?_
 refine pur HT_.out 23 (some 108) (bm 31 10485759) ?_
 refine take_ (i := 21) (N := some 106) (v := ?_) (a' := ?_) #[true, true, true, true, true, true, true, true, true, true, true, true, true, true, true, true, true, true, true, true, true, true, false, true, false, false, false, false, false, false, false] rfl rfl (take_ofW HT_.out HW_.out (by kernel_rfl)) (fun _ _ _ h => h) (Or.inl ⟨by rfl, ?_⟩) hHeld ?_ ?_
 rotate_left
 ·(
 rintro w' ⟨s0, s1, s2, s3, s4, s5, s6, s7, s8⟩
 go_simp
 with_reducible rfl)
 rotate_left
 ·(
 simp only [Act.put, List.setIfInBounds_toArray, List.set_cons_zero, List.set_cons_succ, i64_w, i32_w]
 rfl)
 refine take_ (i := 24) (N := some 109) (v := ?_) (a' := ?_) #[true, true, true, true, true, true, true, true, true, true, true, true, true, true, true, true, true, true, true, true, true, true, false, true, true, false, false, false, false, false, false] rfl rfl (take_ofW HT_.out HW_.out (by kernel_rfl)) (fun _ _ _ h => h) (Or.inl ⟨by rfl, ?_⟩) hHeld ?_ ?_
 rotate_left
 ·(
 rintro w' ⟨s0, s1, s2, s3, s4, s5, s6, s7, s8⟩
 go_simp
 with_reducible rfl)
 rotate_left
 ·(
 simp only [Act.put, List.setIfInBounds_toArray, List.set_cons_zero, List.set_cons_succ, i64_w, i32_w]
 rfl)
 refine take_ (i := 26) (N := some 111) (v := ?_) (a' := ?_) #[true, true, true, true, true, true, true, true, true, true, true, true, true, true, true, true, true, true, true, true, true, true, false, true, true, false, true, false, false, false, false] rfl rfl (take_ofW HT_.out HW_.out (by kernel_rfl)) (fun _ _ _ h => h) (Or.inl ⟨by rfl, ?_⟩) hHeld ?_ ?_
 rotate_left
 ·(
 rintro w' ⟨s0, s1, s2, s3, s4, s5, s6, s7, s8⟩
 go_simp
 with_reducible rfl)
 rotate_left
 ·(
 simp only [Act.put, List.setIfInBounds_toArray, List.set_cons_zero, List.set_cons_succ, i64_w, i32_w]
 rfl)
 refine one_ (i := 22) (N := some 107) #[true, true, true, true, true, true, true, true, true, true, true, true, true, true, true, true, true, true, true, true, true, true, true, true, true, false, true, false, false, false, false] rfl rfl (one_of HT_.out (by kernel_rfl)) (by decide) (fun K hK => ?_)
 refine goes_ Try.func30 (by kernel_rfl) rfl #[.slice Ao92 t290.length co92, .agg #[.int .i64 a1_0, .int .i64 a1_1, .int .i64 a1_2, .int .i64 a1_3, .int .i64 a1_4, .int .i64 a1_5, .int .i64 a1_6, .int .i64 a1_7, .int .i64 a1_8]] (by first | rfl | (refine wanted_on rfl rfl rfl ?_; first | assumption | (simp [*]; done))) rfl rfl (by (try simp only [List.map_toArray, List.map_cons, List.map_nil]); first | done | rfl | (simp only [List.length_drop, List.length_take]; rfl)) ?_
 with_reducible refine (determinant_Add.calls k2 _ _ t290 a1_0 a1_1 a1_2 a1_3 a1_4 a1_5 a1_6 a1_7 a1_8 t332 _ ?side1 ?side2 A88.out).mono ?_
 (case side1 => repeat (first | exact (Kd.R_reads' HO_9.out).2.2 | (with_reducible refine Kd.C_alloc ?_ _) | (with_reducible refine Kd.C_drewN ?_ _) | (with_reducible refine Kd.C_drew ?_)))
 (case side2 => exact (Kd.R_reads' HO_9.out).2.1)
 rintro e w101 ⟨v333, rfl, ho0, hb⟩
 refine ⟨_, rfl, ?_⟩
 have n0_ := Aside0.mk (Kd.R_elder' (rq HO_6.out) (Kd.R_base ho0) hb)
 have n1_ := Aside0.mk (Kd.R_elder' (rq HO_7.out) (Kd.R_base ho0) hb)
 have n2_ := Aside0.mk (Kd.R_elder' (rq HO_8.out) (Kd.R_base ho0) hb)
 have n3_ := Aside0.mk (Kd.R_elder' (rq HO_9.out) (Kd.R_base ho0) hb)
 have n4_ := Aside0.mk (Kd.R_elder' (rq HO_10.out) (Kd.R_base ho0) hb)
 have n5_ := Aside0.mk (Kd.R_elder' (rq HO322.out) (Kd.R_base ho0) hb)
 have n6_ := Aside0.mk (Kd.R_elder' (rq HO326.out) (Kd.R_base ho0) hb)
 have n7_ := Aside0.mk (Kd.R_elder' (rq HO330.out) (Kd.R_base ho0) hb)
 have n8_ := Aside0.mk (Kd.R_lower (Kd.R_newB (Kd.R_new' (Kd.R_new' (Kd.R_new' (Kd.R_new' (Kd.R_new' (Kd.R_new' (Kd.R_new' (Kd.R_new' ho0 (Kd.R_lt (rq HO_6.out))) (Kd.R_lt (rq HO_7.out))) (Kd.R_lt (rq HO_8.out))) (Kd.R_lt (rq HO_9.out))) (Kd.R_lt (rq HO_10.out))) (Kd.R_lt (rq HO322.out))) (Kd.R_lt (rq HO326.out))) (Kd.R_lt (rq HO330.out))) (g := gb273) (o := .cells #[.int .i64 a1_0, .int .i64 a1_1, .int .i64 a1_2, .int .i64 a1_3, .int .i64 a1_4, .int .i64 a1_5, .int .i64 a1_6, .int .i64 a1_7, .int .i64 a1_8] 39 (0, 0)) (kq BK273.out)) (below_size (bq1 HB.out GE273.out)))
 have n9_ := Aside0.mk (blk_below (g := gb273) (o := .cells #[.int .i64 a1_0, .int .i64 a1_1, .int .i64 a1_2, .int .i64 a1_3, .int .i64 a1_4, .int .i64 a1_5, .int .i64 a1_6, .int .i64 a1_7, .int .i64 a1_8] 39 (0, 0)) (kq BK273.out) hb)
 have n10_ := Aside0.mk (below_step (bq1 HB.out GE273.out) hb)
 clear HO_6
 clear HO_7
 clear HO_8
 clear HO_9
 clear HO_10
 clear HO322
 clear HO326
 clear HO330
 clear BK273
 clear HB
 have HO_6 := n0_
 have HO_7 := n1_
 have HO_8 := n2_
 have HO_9 := n3_
 have HO_10 := n4_
 have HO322 := n5_
 have HO326 := n6_
 have HO330 := n7_
 have HO334 := n8_
 have BK273 := n9_
 have HB := n10_
 clear n0_ n1_ n2_ n3_ n4_ n5_ n6_ n7_ n8_ n9_ n10_
 (try clear hb)
 (try clear hb2)
 (try clear hk)
 (try clear hi)
 (try clear ho0)
 refine hK.out _ _ ⟨(blk_cell BK273.out 0).trans rfl, (blk_cell BK273.out 1).trans rfl, (blk_cell BK273.out 2).trans rfl, (blk_cell BK273.out 3).trans rfl, (blk_cell BK273.out 4).trans rfl, (blk_cell BK273.out 5).trans rfl, (blk_cell BK273.out 6).trans rfl, (blk_cell BK273.out 7).trans rfl, (blk_cell BK273.out 8).trans rfl⟩ (fun hHeld => ?_)
 clear hK K
 refine norm_ (a' := ?_) ?_ ?_
 rotate_left
 ·(
 show Act.put _ (some 107) _ = _
 simp only [Act.put, List.setIfInBounds_toArray, List.set_cons_zero, List.set_cons_succ, i64_w, i32_w]
 rfl)
 refine one_ (i := 25) (N := some 110) #[true, true, true, true, true, true, true, true, true, true, true, true, true, true, true, true, true, true, true, true, true, true, true, true, true, true, true, false, false, false, false] rfl rfl (one_of HT_.out (by kernel_rfl)) (by decide) (fun K hK => ?_)
 refine goes_ Try.func30 (by kernel_rfl) rfl #[.slice Ao92 t290.length co92, .agg #[.int .i64 a1_0, .int .i64 a1_1, .int .i64 a1_2, .int .i64 a1_3, .int .i64 a1_4, .int .i64 a1_5, .int .i64 a1_6, .int .i64 a1_7, .int .i64 a1_8]] (by first | rfl | (refine wanted_on rfl rfl rfl ?_; first | assumption | (simp [*]; done))) rfl rfl (by (try simp only [List.map_toArray, List.map_cons, List.map_nil]); first | done | rfl | (simp only [List.length_drop, List.length_take]; rfl)) ?_
 with_reducible refine (determinant_Add.calls k2 _ _ t290 a1_0 a1_1 a1_2 a1_3 a1_4 a1_5 a1_6 a1_7 a1_8 t335 _ ?side1 ?side2 A89.out).mono ?_
 (case side1 => repeat (first | exact (Kd.R_reads' HO_9.out).2.2 | (with_reducible refine Kd.C_alloc ?_ _) | (with_reducible refine Kd.C_drewN ?_ _) | (with_reducible refine Kd.C_drew ?_)))
 (case side2 => exact (Kd.R_reads' HO_9.out).2.1)
 rintro e w102 ⟨v336, rfl, ho0, hb⟩
 refine ⟨_, rfl, ?_⟩
 have n0_ := Aside0.mk (Kd.R_elder' (rq HO_6.out) (Kd.R_base ho0) hb)
 have n1_ := Aside0.mk (Kd.R_elder' (rq HO_7.out) (Kd.R_base ho0) hb)
 have n2_ := Aside0.mk (Kd.R_elder' (rq HO_8.out) (Kd.R_base ho0) hb)
 have n3_ := Aside0.mk (Kd.R_elder' (rq HO_9.out) (Kd.R_base ho0) hb)
 have n4_ := Aside0.mk (Kd.R_elder' (rq HO_10.out) (Kd.R_base ho0) hb)
 have n5_ := Aside0.mk (Kd.R_elder' (rq HO322.out) (Kd.R_base ho0) hb)
 have n6_ := Aside0.mk (Kd.R_elder' (rq HO326.out) (Kd.R_base ho0) hb)
 have n7_ := Aside0.mk (Kd.R_elder' (rq HO330.out) (Kd.R_base ho0) hb)
 have n8_ := Aside0.mk (Kd.R_elder' (rq HO334.out) (Kd.R_base ho0) hb)
 have n9_ := Aside0.mk (Kd.R_lower (Kd.R_newB (Kd.R_new' (Kd.R_new' (Kd.R_new' (Kd.R_new' (Kd.R_new' (Kd.R_new' (Kd.R_new' (Kd.R_new' (Kd.R_new' ho0 (Kd.R_lt (rq HO_6.out))) (Kd.R_lt (rq HO_7.out))) (Kd.R_lt (rq HO_8.out))) (Kd.R_lt (rq HO_9.out))) (Kd.R_lt (rq HO_10.out))) (Kd.R_lt (rq HO322.out))) (Kd.R_lt (rq HO326.out))) (Kd.R_lt (rq HO330.out))) (Kd.R_lt (rq HO334.out))) (g := gb273) (o := .cells #[.int .i64 a1_0, .int .i64 a1_1, .int .i64 a1_2, .int .i64 a1_3, .int .i64 a1_4, .int .i64 a1_5, .int .i64 a1_6, .int .i64 a1_7, .int .i64 a1_8] 39 (0, 0)) (kq BK273.out)) (below_size (bq1 HB.out GE273.out)))
 have n10_ := Aside0.mk (blk_below (g := gb273) (o := .cells #[.int .i64 a1_0, .int .i64 a1_1, .int .i64 a1_2, .int .i64 a1_3, .int .i64 a1_4, .int .i64 a1_5, .int .i64 a1_6, .int .i64 a1_7, .int .i64 a1_8] 39 (0, 0)) (kq BK273.out) hb)
 have n11_ := Aside0.mk (below_step (bq1 HB.out GE273.out) hb)
 clear HO_6
 clear HO_7
 clear HO_8
 clear HO_9
 clear HO_10
 clear HO322
 clear HO326
 clear HO330
 clear HO334
 clear BK273
 clear HB
 have HO_6 := n0_
 have HO_7 := n1_
 have HO_8 := n2_
 have HO_9 := n3_
 have HO_10 := n4_
 have HO322 := n5_
 have HO326 := n6_
 have HO330 := n7_
 have HO334 := n8_
 have HO337 := n9_
 have BK273 := n10_
 have HB := n11_
 clear n0_ n1_ n2_ n3_ n4_ n5_ n6_ n7_ n8_ n9_ n10_ n11_
 (try clear hb)
 (try clear hb2)
 (try clear hk)
 (try clear hi)
 (try clear ho0)
 obtain ⟨Ao103, co103, eo103⟩ := Kd.R_slice HO337.out
 (first | subst eo103 | (injection eo103 with f1_ f2_ f3_; have f4_ := f1_.symm; have f5_ := f3_.symm; clear f1_ f2_ f3_; subst f4_; subst f5_))
 refine hK.out _ _ ⟨(blk_cell BK273.out 0).trans rfl, (blk_cell BK273.out 1).trans rfl, (blk_cell BK273.out 2).trans rfl, (blk_cell BK273.out 3).trans rfl, (blk_cell BK273.out 4).trans rfl, (blk_cell BK273.out 5).trans rfl, (blk_cell BK273.out 6).trans rfl, (blk_cell BK273.out 7).trans rfl, (blk_cell BK273.out 8).trans rfl⟩ (fun hHeld => ?_)
 clear hK K
 refine norm_ (a' := ?_) ?_ ?_
 rotate_left
 ·(
 show Act.put _ (some 110) _ = _
 simp only [Act.put, List.setIfInBounds_toArray, List.set_cons_zero, List.set_cons_succ, i64_w, i32_w]
 rfl)
 refine one_ (i := 27) (N := some 112) #[true, true, true, true, true, true, true, true, true, true, true, true, true, true, true, true, true, true, true, true, true, true, true, true, true, true, true, true, false, false, false] rfl rfl (one_of HT_.out (by kernel_rfl)) (by decide) (fun K hK => ?_)
 refine goes_ Try.func30 (by kernel_rfl) rfl #[.slice Ao103 t335.length co103, .agg #[.int .i64 a1_0, .int .i64 a1_1, .int .i64 a1_2, .int .i64 a1_3, .int .i64 a1_4, .int .i64 a1_5, .int .i64 a1_6, .int .i64 a1_7, .int .i64 a1_8]] (by first | rfl | (refine wanted_on rfl rfl rfl ?_; first | assumption | (simp [*]; done))) rfl rfl (by (try simp only [List.map_toArray, List.map_cons, List.map_nil]); first | done | rfl | (simp only [List.length_drop, List.length_take]; rfl)) ?_
 with_reducible refine (determinant_Add.calls k2 _ _ t335 a1_0 a1_1 a1_2 a1_3 a1_4 a1_5 a1_6 a1_7 a1_8 t338 _ ?side1 ?side2 A90.out).mono ?_
 (case side1 => repeat (first | exact (Kd.R_reads' HO337.out).2.2 | (with_reducible refine Kd.C_alloc ?_ _) | (with_reducible refine Kd.C_drewN ?_ _) | (with_reducible refine Kd.C_drew ?_)))
 (case side2 => exact (Kd.R_reads' HO337.out).2.1)
 rintro e w104 ⟨v339, rfl, ho0, hb⟩
 refine ⟨_, rfl, ?_⟩
 have n0_ := Aside0.mk (Kd.R_elder' (rq HO_6.out) (Kd.R_base ho0) hb)
 have n1_ := Aside0.mk (Kd.R_elder' (rq HO_7.out) (Kd.R_base ho0) hb)
 have n2_ := Aside0.mk (Kd.R_elder' (rq HO_8.out) (Kd.R_base ho0) hb)
 have n3_ := Aside0.mk (Kd.R_elder' (rq HO_9.out) (Kd.R_base ho0) hb)
 have n4_ := Aside0.mk (Kd.R_elder' (rq HO_10.out) (Kd.R_base ho0) hb)
 have n5_ := Aside0.mk (Kd.R_elder' (rq HO322.out) (Kd.R_base ho0) hb)
 have n6_ := Aside0.mk (Kd.R_elder' (rq HO326.out) (Kd.R_base ho0) hb)
 have n7_ := Aside0.mk (Kd.R_elder' (rq HO330.out) (Kd.R_base ho0) hb)
 have n8_ := Aside0.mk (Kd.R_elder' (rq HO334.out) (Kd.R_base ho0) hb)
 have n9_ := Aside0.mk (Kd.R_elder' (rq HO337.out) (Kd.R_base ho0) hb)
 have n10_ := Aside0.mk (Kd.R_lower (Kd.R_newB (Kd.R_new' (Kd.R_new' (Kd.R_new' (Kd.R_new' (Kd.R_new' (Kd.R_new' (Kd.R_new' (Kd.R_new' (Kd.R_new' (Kd.R_new' ho0 (Kd.R_lt (rq HO_6.out))) (Kd.R_lt (rq HO_7.out))) (Kd.R_lt (rq HO_8.out))) (Kd.R_lt (rq HO_9.out))) (Kd.R_lt (rq HO_10.out))) (Kd.R_lt (rq HO322.out))) (Kd.R_lt (rq HO326.out))) (Kd.R_lt (rq HO330.out))) (Kd.R_lt (rq HO334.out))) (Kd.R_lt (rq HO337.out))) (g := gb273) (o := .cells #[.int .i64 a1_0, .int .i64 a1_1, .int .i64 a1_2, .int .i64 a1_3, .int .i64 a1_4, .int .i64 a1_5, .int .i64 a1_6, .int .i64 a1_7, .int .i64 a1_8] 39 (0, 0)) (kq BK273.out)) (below_size (bq1 HB.out GE273.out)))
 have n11_ := Aside0.mk (blk_below (g := gb273) (o := .cells #[.int .i64 a1_0, .int .i64 a1_1, .int .i64 a1_2, .int .i64 a1_3, .int .i64 a1_4, .int .i64 a1_5, .int .i64 a1_6, .int .i64 a1_7, .int .i64 a1_8] 39 (0, 0)) (kq BK273.out) hb)
 have n12_ := Aside0.mk (below_step (bq1 HB.out GE273.out) hb)
 clear HO_6
 clear HO_7
 clear HO_8
 clear HO_9
 clear HO_10
 clear HO322
 clear HO326
 clear HO330
 clear HO334
 clear HO337
 clear BK273
 clear HB
 have HO_6 := n0_
 have HO_7 := n1_
 have HO_8 := n2_
 have HO_9 := n3_
 have HO_10 := n4_
 have HO322 := n5_
 have HO326 := n6_
 have HO330 := n7_
 have HO334 := n8_
 have HO337 := n9_
 have HO340 := n10_
 have BK273 := n11_
 have HB := n12_
 clear n0_ n1_ n2_ n3_ n4_ n5_ n6_ n7_ n8_ n9_ n10_ n11_ n12_
 (try clear hb)
 (try clear hb2)
 (try clear hk)
 (try clear hi)
 (try clear ho0)
 obtain ⟨Ao105, co105, eo105⟩ := Kd.R_slice HO334.out
 (first | subst eo105 | (injection eo105 with f1_ f2_ f3_; have f4_ := f1_.symm; have f5_ := f3_.symm; clear f1_ f2_ f3_; subst f4_; subst f5_))
 obtain ⟨Ao106, co106, eo106⟩ := Kd.R_slice HO340.out
 (first | subst eo106 | (injection eo106 with f1_ f2_ f3_; have f4_ := f1_.symm; have f5_ := f3_.symm; clear f1_ f2_ f3_; subst f4_; subst f5_))
 refine hK.out _ _ ⟨(blk_cell BK273.out 0).trans rfl, (blk_cell BK273.out 1).trans rfl, (blk_cell BK273.out 2).trans rfl, (blk_cell BK273.out 3).trans rfl, (blk_cell BK273.out 4).trans rfl, (blk_cell BK273.out 5).trans rfl, (blk_cell BK273.out 6).trans rfl, (blk_cell BK273.out 7).trans rfl, (blk_cell BK273.out 8).trans rfl⟩ (fun hHeld => ?_)
 clear hK K
 refine norm_ (a' := ?_) ?_ ?_
 rotate_left
 ·(
 show Act.put _ (some 112) _ = _
 simp only [Act.put, List.setIfInBounds_toArray, List.set_cons_zero, List.set_cons_succ, i64_w, i32_w]
 rfl)
 refine one_ (i := 28) (N := some 113) #[true, true, true, true, true, true, true, true, true, true, true, true, true, true, true, true, true, true, true, true, true, true, true, true, true, true, true, true, true, false, false] rfl rfl (one_of HT_.out (by kernel_rfl)) (by decide) (fun K hK => ?_)
 refine goes_ Try.func14 (by kernel_rfl) rfl #[.slice Ao105 t332.length co105, .slice Ao106 t338.length co106] (by first | rfl | (refine wanted_on rfl rfl rfl ?_; first | assumption | (simp [*]; done))) rfl rfl (by (try simp only [List.map_toArray, List.map_cons, List.map_nil]); first | done | rfl | (simp only [List.length_drop, List.length_take]; rfl)) ?_
 with_reducible refine (rollbacknetref27_Same.calls k2 _ _ t332 _ _ t338 t341 _ ?side1 ?side2 ?side3 ?side4 A91.out).mono ?_
 (case side1 => repeat (first | exact (Kd.R_reads' HO334.out).2.2 | (with_reducible refine Kd.C_alloc ?_ _) | (with_reducible refine Kd.C_drewN ?_ _) | (with_reducible refine Kd.C_drew ?_)))
 (case side2 => exact (Kd.R_reads' HO334.out).2.1)
 (case side3 => repeat (first | exact (Kd.R_reads' HO340.out).2.2 | (with_reducible refine Kd.C_alloc ?_ _) | (with_reducible refine Kd.C_drewN ?_ _) | (with_reducible refine Kd.C_drew ?_)))
 (case side4 => exact (Kd.R_reads' HO340.out).2.1)
 rintro e w' ⟨rfl, ⟨nd, rfl⟩⟩
 refine ⟨_, rfl, ?_⟩
 refine hK.out _ _ ⟨(blk_cell BK273.out 0).trans rfl, (blk_cell BK273.out 1).trans rfl, (blk_cell BK273.out 2).trans rfl, (blk_cell BK273.out 3).trans rfl, (blk_cell BK273.out 4).trans rfl, (blk_cell BK273.out 5).trans rfl, (blk_cell BK273.out 6).trans rfl, (blk_cell BK273.out 7).trans rfl, (blk_cell BK273.out 8).trans rfl⟩ (fun hHeld => ?_)
 clear hK K
 refine norm_ (a' := ?_) ?_ ?_
 rotate_left
 ·(
 show Act.put _ (some 113) _ = _
 simp only [Act.put, List.setIfInBounds_toArray, List.set_cons_zero, List.set_cons_succ, i64_w, i32_w]
 rfl)
 refine pur HT_.out 29 (some 114) (bm 31 1073741823) ?_
 refine pur HT_.out 30 (some 4) (bm 31 2147483647) ?_
 refine done_ (done_of HT_.out (by kernel_rfl)) ?_
 try go_wp2
 go_ret
 exact ⟨by first | rfl | (simp [errW_none, errW_some] <;> rfl) | (simp [*, errW_none, errW_some] <;> rfl), bq1 HB.out GE273.out⟩)
 ·(
 replace c87 := Bool.eq_false_iff.mpr c87
 subst c87
 have H1 : (some false) = some r := by rw [if_neg (show ¬ (false = true) by decide)] at H; exact H
 clear H
 have H := H1
 clear H1
 obtain rfl := Option.some.inj H
 obtain ⟨Ao107, co107, eo107⟩ := Kd.R_slice HO_9.out
 subst eo107
 try go_wp2
 have n0_ := Aside0.mk (Kd.R_drew HO_6.out)
 have n1_ := Aside0.mk (Kd.R_drew HO_7.out)
 have n2_ := Aside0.mk (Kd.R_drew HO_8.out)
 have n3_ := Aside0.mk (Kd.R_drew HO_9.out)
 have n4_ := Aside0.mk (Kd.R_drew HO_10.out)
 have n5_ := Aside0.mk (blk_drew BK273.out)
 have n6_ := Aside0.mk (below_drew1 HB.out)
 clear HO_6
 clear HO_7
 clear HO_8
 clear HO_9
 clear HO_10
 clear BK273
 clear HB
 have HO_6 := n0_
 have HO_7 := n1_
 have HO_8 := n2_
 have HO_9 := n3_
 have HO_10 := n4_
 have BK273 := n5_
 have HB := n6_
 clear n0_ n1_ n2_ n3_ n4_ n5_ n6_
 refine start_ (n := 31) (S := fun w' => True) (ds := []) #[false, false, false, false, false, false, false, false, false, false, false, false, false, false, false, false, false, false, false, false, false, false, false, false, false, false, false, false, false, false, false] (by kernel_rfl) rfl rfl trivial (fun hHeld => ?_); refine with_tabW rollbacknetlaw27_DeterminantUnions.tab18 rollbacknetlaw27_DeterminantUnions.bits18 (fun HT_ HW_ => ?_)
 generalize wr.drew = w108 at HO_6 HO_7 HO_8 HO_9 HO_10 BK273 HB hHeld ⊢
 refine pur HT_.out 0 (some 85) (bm 31 1) ?_
 refine pur HT_.out 1 (some 86) (bm 31 3) ?_
 refine pur HT_.out 2 (some 87) (bm 31 7) ?_
 refine one_ (i := 3) (N := some 88) #[true, true, true, true, false, false, false, false, false, false, false, false, false, false, false, false, false, false, false, false, false, false, false, false, false, false, false, false, false, false, false] rfl rfl (one_of HT_.out (by kernel_rfl)) (by decide) (fun K hK => ?_)
 refine goes_ Try.func25 (by kernel_rfl) rfl #[.slice Ao22 t282.length co22, .slice Ao21 t278.length co21] (by first | rfl | (refine wanted_on rfl rfl rfl ?_; first | assumption | (simp [*]; done))) rfl rfl (by (try simp only [List.map_toArray, List.map_cons, List.map_nil]); first | done | rfl | (simp only [List.length_drop, List.length_take]; rfl)) ?_
 with_reducible refine (determinant_Merge.calls k2 _ _ t282 _ _ t278 t320 _ ?side1 ?side2 ?side3 ?side4 A79.out).mono ?_
 (case side1 => repeat (first | exact (Kd.R_reads' HO_7.out).2.2 | (with_reducible refine Kd.C_alloc ?_ _) | (with_reducible refine Kd.C_drewN ?_ _) | (with_reducible refine Kd.C_drew ?_)))
 (case side2 => exact (Kd.R_reads' HO_7.out).2.1)
 (case side3 => repeat (first | exact (Kd.R_reads' HO_6.out).2.2 | (with_reducible refine Kd.C_alloc ?_ _) | (with_reducible refine Kd.C_drewN ?_ _) | (with_reducible refine Kd.C_drew ?_)))
 (case side4 => exact (Kd.R_reads' HO_6.out).2.1)
 rintro e w109 ⟨v321, rfl, ho0, hb⟩
 refine ⟨_, rfl, ?_⟩
 have n0_ := Aside0.mk (Kd.R_elder' (rq HO_6.out) (Kd.R_base ho0) hb)
 have n1_ := Aside0.mk (Kd.R_elder' (rq HO_7.out) (Kd.R_base ho0) hb)
 have n2_ := Aside0.mk (Kd.R_elder' (rq HO_8.out) (Kd.R_base ho0) hb)
 have n3_ := Aside0.mk (Kd.R_elder' (rq HO_9.out) (Kd.R_base ho0) hb)
 have n4_ := Aside0.mk (Kd.R_elder' (rq HO_10.out) (Kd.R_base ho0) hb)
 have n5_ := Aside0.mk (Kd.R_lower (Kd.R_newB (Kd.R_new' (Kd.R_new' (Kd.R_new' (Kd.R_new' (Kd.R_new' ho0 (Kd.R_lt (rq HO_6.out))) (Kd.R_lt (rq HO_7.out))) (Kd.R_lt (rq HO_8.out))) (Kd.R_lt (rq HO_9.out))) (Kd.R_lt (rq HO_10.out))) (g := gb273) (o := .cells #[.int .i64 a1_0, .int .i64 a1_1, .int .i64 a1_2, .int .i64 a1_3, .int .i64 a1_4, .int .i64 a1_5, .int .i64 a1_6, .int .i64 a1_7, .int .i64 a1_8] 39 (0, 0)) (kq BK273.out)) (below_size (bq1 HB.out GE273.out)))
 have n6_ := Aside0.mk (blk_below (g := gb273) (o := .cells #[.int .i64 a1_0, .int .i64 a1_1, .int .i64 a1_2, .int .i64 a1_3, .int .i64 a1_4, .int .i64 a1_5, .int .i64 a1_6, .int .i64 a1_7, .int .i64 a1_8] 39 (0, 0)) (kq BK273.out) hb)
 have n7_ := Aside0.mk (below_step (bq1 HB.out GE273.out) hb)
 clear HO_6
 clear HO_7
 clear HO_8
 clear HO_9
 clear HO_10
 clear BK273
 clear HB
 have HO_6 := n0_
 have HO_7 := n1_
 have HO_8 := n2_
 have HO_9 := n3_
 have HO_10 := n4_
 have HO322 := n5_
 have BK273 := n6_
 have HB := n7_
 clear n0_ n1_ n2_ n3_ n4_ n5_ n6_ n7_
 (try clear hb)
 (try clear hb2)
 (try clear hk)
 (try clear hi)
 (try clear ho0)
 obtain ⟨Ao110, co110, eo110⟩ := Kd.R_slice HO322.out
 (first | subst eo110 | (injection eo110 with f1_ f2_ f3_; have f4_ := f1_.symm; have f5_ := f3_.symm; clear f1_ f2_ f3_; subst f4_; subst f5_))
 refine hK.out _ _ trivial (fun hHeld => ?_)
 clear hK K
 refine norm_ (a' := ?_) ?_ ?_
 rotate_left
 ·(
 show Act.put _ (some 88) _ = _
 simp only [Act.put, List.setIfInBounds_toArray, List.set_cons_zero, List.set_cons_succ, i64_w, i32_w]
 rfl)
 refine one_ (i := 4) (N := some 89) #[true, true, true, true, true, false, false, false, false, false, false, false, false, false, false, false, false, false, false, false, false, false, false, false, false, false, false, false, false, false, false] rfl rfl (one_of HT_.out (by kernel_rfl)) (by decide) (fun K hK => ?_)
 refine goes_ Try.func14 (by kernel_rfl) rfl #[.slice Ao107 t290.length co107, .slice Ao110 t320.length co110] (by first | rfl | (refine wanted_on rfl rfl rfl ?_; first | assumption | (simp [*]; done))) rfl rfl (by (try simp only [List.map_toArray, List.map_cons, List.map_nil]); first | done | rfl | (simp only [List.length_drop, List.length_take]; rfl)) ?_
 with_reducible refine (rollbacknetref27_Same.calls k2 _ _ t290 _ _ t320 true _ ?side1 ?side2 ?side3 ?side4 A80.out).mono ?_
 (case side1 => repeat (first | exact (Kd.R_reads' HO_9.out).2.2 | (with_reducible refine Kd.C_alloc ?_ _) | (with_reducible refine Kd.C_drewN ?_ _) | (with_reducible refine Kd.C_drew ?_)))
 (case side2 => exact (Kd.R_reads' HO_9.out).2.1)
 (case side3 => repeat (first | exact (Kd.R_reads' HO322.out).2.2 | (with_reducible refine Kd.C_alloc ?_ _) | (with_reducible refine Kd.C_drewN ?_ _) | (with_reducible refine Kd.C_drew ?_)))
 (case side4 => exact (Kd.R_reads' HO322.out).2.1)
 rintro e w' ⟨rfl, ⟨nd, rfl⟩⟩
 refine ⟨_, rfl, ?_⟩
 refine hK.out _ _ trivial (fun hHeld => ?_)
 clear hK K
 refine norm_ (a' := ?_) ?_ ?_
 rotate_left
 ·(
 show Act.put _ (some 89) _ = _
 simp only [Act.put, List.setIfInBounds_toArray, List.set_cons_zero, List.set_cons_succ, i64_w, i32_w]
 rfl)
 refine pur HT_.out 5 (some 90) (bm 31 63) ?_
 refine pur HT_.out 6 (some 91) (bm 31 127) ?_
 refine pur HT_.out 7 (some 92) (bm 31 255) ?_
 refine pur HT_.out 8 (some 93) (bm 31 511) ?_
 refine one_ (i := 9) (N := some 94) #[true, true, true, true, true, true, true, true, true, true, false, false, false, false, false, false, false, false, false, false, false, false, false, false, false, false, false, false, false, false, false] rfl rfl (one_of HT_.out (by kernel_rfl)) (by decide) (fun K hK => ?_)
 refine goes_ Try.func25 (by kernel_rfl) rfl #[.slice Ao107 t290.length co107, .slice Ao21 t278.length co21] (by first | rfl | (refine wanted_on rfl rfl rfl ?_; first | assumption | (simp [*]; done))) rfl rfl (by (try simp only [List.map_toArray, List.map_cons, List.map_nil]); first | done | rfl | (simp only [List.length_drop, List.length_take]; rfl)) ?_
 with_reducible refine (determinant_Merge.calls k2 _ _ t290 _ _ t278 t324 _ ?side1 ?side2 ?side3 ?side4 A82.out).mono ?_
 (case side1 => repeat (first | exact (Kd.R_reads' HO_9.out).2.2 | (with_reducible refine Kd.C_alloc ?_ _) | (with_reducible refine Kd.C_drewN ?_ _) | (with_reducible refine Kd.C_drew ?_)))
 (case side2 => exact (Kd.R_reads' HO_9.out).2.1)
 (case side3 => repeat (first | exact (Kd.R_reads' HO_6.out).2.2 | (with_reducible refine Kd.C_alloc ?_ _) | (with_reducible refine Kd.C_drewN ?_ _) | (with_reducible refine Kd.C_drew ?_)))
 (case side4 => exact (Kd.R_reads' HO_6.out).2.1)
 rintro e w111 ⟨v325, rfl, ho0, hb⟩
 refine ⟨_, rfl, ?_⟩
 have n0_ := Aside0.mk (Kd.R_elder' (rq HO_6.out) (Kd.R_base ho0) hb)
 have n1_ := Aside0.mk (Kd.R_elder' (rq HO_7.out) (Kd.R_base ho0) hb)
 have n2_ := Aside0.mk (Kd.R_elder' (rq HO_8.out) (Kd.R_base ho0) hb)
 have n3_ := Aside0.mk (Kd.R_elder' (rq HO_9.out) (Kd.R_base ho0) hb)
 have n4_ := Aside0.mk (Kd.R_elder' (rq HO_10.out) (Kd.R_base ho0) hb)
 have n5_ := Aside0.mk (Kd.R_elder' (rq HO322.out) (Kd.R_base ho0) hb)
 have n6_ := Aside0.mk (Kd.R_lower (Kd.R_newB (Kd.R_new' (Kd.R_new' (Kd.R_new' (Kd.R_new' (Kd.R_new' (Kd.R_new' ho0 (Kd.R_lt (rq HO_6.out))) (Kd.R_lt (rq HO_7.out))) (Kd.R_lt (rq HO_8.out))) (Kd.R_lt (rq HO_9.out))) (Kd.R_lt (rq HO_10.out))) (Kd.R_lt (rq HO322.out))) (g := gb273) (o := .cells #[.int .i64 a1_0, .int .i64 a1_1, .int .i64 a1_2, .int .i64 a1_3, .int .i64 a1_4, .int .i64 a1_5, .int .i64 a1_6, .int .i64 a1_7, .int .i64 a1_8] 39 (0, 0)) (kq BK273.out)) (below_size (bq1 HB.out GE273.out)))
 have n7_ := Aside0.mk (blk_below (g := gb273) (o := .cells #[.int .i64 a1_0, .int .i64 a1_1, .int .i64 a1_2, .int .i64 a1_3, .int .i64 a1_4, .int .i64 a1_5, .int .i64 a1_6, .int .i64 a1_7, .int .i64 a1_8] 39 (0, 0)) (kq BK273.out) hb)
 have n8_ := Aside0.mk (below_step (bq1 HB.out GE273.out) hb)
 clear HO_6
 clear HO_7
 clear HO_8
 clear HO_9
 clear HO_10
 clear HO322
 clear BK273
 clear HB
 have HO_6 := n0_
 have HO_7 := n1_
 have HO_8 := n2_
 have HO_9 := n3_
 have HO_10 := n4_
 have HO322 := n5_
 have HO326 := n6_
 have BK273 := n7_
 have HB := n8_
 clear n0_ n1_ n2_ n3_ n4_ n5_ n6_ n7_ n8_
 (try clear hb)
 (try clear hb2)
 (try clear hk)
 (try clear hi)
 (try clear ho0)
 obtain ⟨Ao112, co112, eo112⟩ := Kd.R_slice HO326.out
 (first | subst eo112 | (injection eo112 with f1_ f2_ f3_; have f4_ := f1_.symm; have f5_ := f3_.symm; clear f1_ f2_ f3_; subst f4_; subst f5_))
 refine hK.out _ _ trivial (fun hHeld => ?_)
 clear hK K
 refine norm_ (a' := ?_) ?_ ?_
 rotate_left
 ·(
 show Act.put _ (some 94) _ = _
 simp only [Act.put, List.setIfInBounds_toArray, List.set_cons_zero, List.set_cons_succ, i64_w, i32_w]
 rfl)
 refine one_ (i := 10) (N := some 95) #[true, true, true, true, true, true, true, true, true, true, true, false, false, false, false, false, false, false, false, false, false, false, false, false, false, false, false, false, false, false, false] rfl rfl (one_of HT_.out (by kernel_rfl)) (by decide) (fun K hK => ?_)
 refine goes_ Try.func14 (by kernel_rfl) rfl #[.slice Ao107 t290.length co107, .slice Ao112 t324.length co112] (by first | rfl | (refine wanted_on rfl rfl rfl ?_; first | assumption | (simp [*]; done))) rfl rfl (by (try simp only [List.map_toArray, List.map_cons, List.map_nil]); first | done | rfl | (simp only [List.length_drop, List.length_take]; rfl)) ?_
 with_reducible refine (rollbacknetref27_Same.calls k2 _ _ t290 _ _ t324 true _ ?side1 ?side2 ?side3 ?side4 A83.out).mono ?_
 (case side1 => repeat (first | exact (Kd.R_reads' HO_9.out).2.2 | (with_reducible refine Kd.C_alloc ?_ _) | (with_reducible refine Kd.C_drewN ?_ _) | (with_reducible refine Kd.C_drew ?_)))
 (case side2 => exact (Kd.R_reads' HO_9.out).2.1)
 (case side3 => repeat (first | exact (Kd.R_reads' HO326.out).2.2 | (with_reducible refine Kd.C_alloc ?_ _) | (with_reducible refine Kd.C_drewN ?_ _) | (with_reducible refine Kd.C_drew ?_)))
 (case side4 => exact (Kd.R_reads' HO326.out).2.1)
 rintro e w' ⟨rfl, ⟨nd, rfl⟩⟩
 refine ⟨_, rfl, ?_⟩
 refine hK.out _ _ trivial (fun hHeld => ?_)
 clear hK K
 refine norm_ (a' := ?_) ?_ ?_
 rotate_left
 ·(
 show Act.put _ (some 95) _ = _
 simp only [Act.put, List.setIfInBounds_toArray, List.set_cons_zero, List.set_cons_succ, i64_w, i32_w]
 rfl)
 refine pur HT_.out 11 (some 96) (bm 31 4095) ?_
 refine pur HT_.out 12 (some 97) (bm 31 8191) ?_
 refine pur HT_.out 13 (some 98) (bm 31 16383) ?_
 refine pur HT_.out 14 (some 99) (bm 31 32767) ?_
 refine pur HT_.out 15 (some 100) (bm 31 65535) ?_
 refine one_ (i := 16) (N := some 101) #[true, true, true, true, true, true, true, true, true, true, true, true, true, true, true, true, true, false, false, false, false, false, false, false, false, false, false, false, false, false, false] rfl rfl (one_of HT_.out (by kernel_rfl)) (by decide) (fun K hK => ?_)
 refine goes_ Try.func25 (by kernel_rfl) rfl #[.slice Ao107 t290.length co107, .slice Ao24 t286.length co24] (by first | rfl | (refine wanted_on rfl rfl rfl ?_; first | assumption | (simp [*]; done))) rfl rfl (by (try simp only [List.map_toArray, List.map_cons, List.map_nil]); first | done | rfl | (simp only [List.length_drop, List.length_take]; rfl)) ?_
 with_reducible refine (determinant_Merge.calls k2 _ _ t290 _ _ t286 t328 _ ?side1 ?side2 ?side3 ?side4 A85.out).mono ?_
 (case side1 => repeat (first | exact (Kd.R_reads' HO_9.out).2.2 | (with_reducible refine Kd.C_alloc ?_ _) | (with_reducible refine Kd.C_drewN ?_ _) | (with_reducible refine Kd.C_drew ?_)))
 (case side2 => exact (Kd.R_reads' HO_9.out).2.1)
 (case side3 => repeat (first | exact (Kd.R_reads' HO_8.out).2.2 | (with_reducible refine Kd.C_alloc ?_ _) | (with_reducible refine Kd.C_drewN ?_ _) | (with_reducible refine Kd.C_drew ?_)))
 (case side4 => exact (Kd.R_reads' HO_8.out).2.1)
 rintro e w113 ⟨v329, rfl, ho0, hb⟩
 refine ⟨_, rfl, ?_⟩
 have n0_ := Aside0.mk (Kd.R_elder' (rq HO_6.out) (Kd.R_base ho0) hb)
 have n1_ := Aside0.mk (Kd.R_elder' (rq HO_7.out) (Kd.R_base ho0) hb)
 have n2_ := Aside0.mk (Kd.R_elder' (rq HO_8.out) (Kd.R_base ho0) hb)
 have n3_ := Aside0.mk (Kd.R_elder' (rq HO_9.out) (Kd.R_base ho0) hb)
 have n4_ := Aside0.mk (Kd.R_elder' (rq HO_10.out) (Kd.R_base ho0) hb)
 have n5_ := Aside0.mk (Kd.R_elder' (rq HO322.out) (Kd.R_base ho0) hb)
 have n6_ := Aside0.mk (Kd.R_elder' (rq HO326.out) (Kd.R_base ho0) hb)
 have n7_ := Aside0.mk (Kd.R_lower (Kd.R_newB (Kd.R_new' (Kd.R_new' (Kd.R_new' (Kd.R_new' (Kd.R_new' (Kd.R_new' (Kd.R_new' ho0 (Kd.R_lt (rq HO_6.out))) (Kd.R_lt (rq HO_7.out))) (Kd.R_lt (rq HO_8.out))) (Kd.R_lt (rq HO_9.out))) (Kd.R_lt (rq HO_10.out))) (Kd.R_lt (rq HO322.out))) (Kd.R_lt (rq HO326.out))) (g := gb273) (o := .cells #[.int .i64 a1_0, .int .i64 a1_1, .int .i64 a1_2, .int .i64 a1_3, .int .i64 a1_4, .int .i64 a1_5, .int .i64 a1_6, .int .i64 a1_7, .int .i64 a1_8] 39 (0, 0)) (kq BK273.out)) (below_size (bq1 HB.out GE273.out)))
 have n8_ := Aside0.mk (blk_below (g := gb273) (o := .cells #[.int .i64 a1_0, .int .i64 a1_1, .int .i64 a1_2, .int .i64 a1_3, .int .i64 a1_4, .int .i64 a1_5, .int .i64 a1_6, .int .i64 a1_7, .int .i64 a1_8] 39 (0, 0)) (kq BK273.out) hb)
 have n9_ := Aside0.mk (below_step (bq1 HB.out GE273.out) hb)
 clear HO_6
 clear HO_7
 clear HO_8
 clear HO_9
 clear HO_10
 clear HO322
 clear HO326
 clear BK273
 clear HB
 have HO_6 := n0_
 have HO_7 := n1_
 have HO_8 := n2_
 have HO_9 := n3_
 have HO_10 := n4_
 have HO322 := n5_
 have HO326 := n6_
 have HO330 := n7_
 have BK273 := n8_
 have HB := n9_
 clear n0_ n1_ n2_ n3_ n4_ n5_ n6_ n7_ n8_ n9_
 (try clear hb)
 (try clear hb2)
 (try clear hk)
 (try clear hi)
 (try clear ho0)
 obtain ⟨Ao114, co114, eo114⟩ := Kd.R_slice HO_10.out
 (first | subst eo114 | (injection eo114 with f1_ f2_ f3_; have f4_ := f1_.symm; have f5_ := f3_.symm; clear f1_ f2_ f3_; subst f4_; subst f5_))
 obtain ⟨Ao115, co115, eo115⟩ := Kd.R_slice HO330.out
 (first | subst eo115 | (injection eo115 with f1_ f2_ f3_; have f4_ := f1_.symm; have f5_ := f3_.symm; clear f1_ f2_ f3_; subst f4_; subst f5_))
 refine hK.out _ _ trivial (fun hHeld => ?_)
 clear hK K
 refine norm_ (a' := ?_) ?_ ?_
 rotate_left
 ·(
 show Act.put _ (some 101) _ = _
 simp only [Act.put, List.setIfInBounds_toArray, List.set_cons_zero, List.set_cons_succ, i64_w, i32_w]
 rfl)
 refine one_ (i := 17) (N := some 102) #[true, true, true, true, true, true, true, true, true, true, true, true, true, true, true, true, true, true, false, false, false, false, false, false, false, false, false, false, false, false, false] rfl rfl (one_of HT_.out (by kernel_rfl)) (by decide) (fun K hK => ?_)
 refine goes_ Try.func14 (by kernel_rfl) rfl #[.slice Ao114 t296.length co114, .slice Ao115 t328.length co115] (by first | rfl | (refine wanted_on rfl rfl rfl ?_; first | assumption | (simp [*]; done))) rfl rfl (by (try simp only [List.map_toArray, List.map_cons, List.map_nil]); first | done | rfl | (simp only [List.length_drop, List.length_take]; rfl)) ?_
 with_reducible refine (rollbacknetref27_Same.calls k2 _ _ t296 _ _ t328 false _ ?side1 ?side2 ?side3 ?side4 A86.out).mono ?_
 (case side1 => repeat (first | exact (Kd.R_reads' HO_10.out).2.2 | (with_reducible refine Kd.C_alloc ?_ _) | (with_reducible refine Kd.C_drewN ?_ _) | (with_reducible refine Kd.C_drew ?_)))
 (case side2 => exact (Kd.R_reads' HO_10.out).2.1)
 (case side3 => repeat (first | exact (Kd.R_reads' HO330.out).2.2 | (with_reducible refine Kd.C_alloc ?_ _) | (with_reducible refine Kd.C_drewN ?_ _) | (with_reducible refine Kd.C_drew ?_)))
 (case side4 => exact (Kd.R_reads' HO330.out).2.1)
 rintro e w' ⟨rfl, ⟨nd, rfl⟩⟩
 refine ⟨_, rfl, ?_⟩
 refine hK.out _ _ trivial (fun hHeld => ?_)
 clear hK K
 refine norm_ (a' := ?_) ?_ ?_
 rotate_left
 ·(
 show Act.put _ (some 102) _ = _
 simp only [Act.put, List.setIfInBounds_toArray, List.set_cons_zero, List.set_cons_succ, i64_w, i32_w]
 rfl)
 refine pur HT_.out 18 (some 103) (bm 31 524287) ?_
 refine pur HT_.out 19 (some 104) (bm 31 1048575) ?_
 refine pux HT_.out 20 (some 105) (bm 31 2097151) ?_
 refine pux HT_.out 21 (some 106) (bm 31 4194303) ?_
 refine pux HT_.out 22 (some 107) (bm 31 8388607) ?_
 refine pux HT_.out 23 (some 108) (bm 31 16777215) ?_
 refine pux HT_.out 24 (some 109) (bm 31 33554431) ?_
 refine pux HT_.out 25 (some 110) (bm 31 67108863) ?_
 refine pux HT_.out 26 (some 111) (bm 31 134217727) ?_
 refine pux HT_.out 27 (some 112) (bm 31 268435455) ?_
 refine pux HT_.out 28 (some 113) (bm 31 536870911) ?_
 refine pur HT_.out 29 (some 114) (bm 31 1073741823) ?_
 refine pur HT_.out 30 (some 4) (bm 31 2147483647) ?_
 refine done_ (done_of HT_.out (by kernel_rfl)) ?_
 try go_wp2
 go_ret
 exact ⟨by first | rfl | (simp [errW_none, errW_some] <;> rfl) | (simp [*, errW_none, errW_some] <;> rfl), bq1 HB.out GE273.out⟩))
 ·(
 replace c84 := Bool.eq_false_iff.mpr c84
 subst c84
 have H1 : (some false) = some r := by rw [if_neg (show ¬ (false = true) by decide)] at H; exact H
 clear H
 have H := H1
 clear H1
 obtain rfl := Option.some.inj H
 obtain ⟨Ao116, co116, eo116⟩ := Kd.R_slice HO_9.out
 subst eo116
 try go_wp2
 have n0_ := Aside0.mk (Kd.R_drew HO_6.out)
 have n1_ := Aside0.mk (Kd.R_drew HO_7.out)
 have n2_ := Aside0.mk (Kd.R_drew HO_8.out)
 have n3_ := Aside0.mk (Kd.R_drew HO_9.out)
 have n4_ := Aside0.mk (Kd.R_drew HO_10.out)
 have n5_ := Aside0.mk (blk_drew BK273.out)
 have n6_ := Aside0.mk (below_drew1 HB.out)
 clear HO_6
 clear HO_7
 clear HO_8
 clear HO_9
 clear HO_10
 clear BK273
 clear HB
 have HO_6 := n0_
 have HO_7 := n1_
 have HO_8 := n2_
 have HO_9 := n3_
 have HO_10 := n4_
 have BK273 := n5_
 have HB := n6_
 clear n0_ n1_ n2_ n3_ n4_ n5_ n6_
 refine start_ (n := 31) (S := fun w' => True) (ds := []) #[false, false, false, false, false, false, false, false, false, false, false, false, false, false, false, false, false, false, false, false, false, false, false, false, false, false, false, false, false, false, false] (by kernel_rfl) rfl rfl trivial (fun hHeld => ?_); refine with_tabW rollbacknetlaw27_DeterminantUnions.tab18 rollbacknetlaw27_DeterminantUnions.bits18 (fun HT_ HW_ => ?_)
 generalize wr.drew = w117 at HO_6 HO_7 HO_8 HO_9 HO_10 BK273 HB hHeld ⊢
 refine pur HT_.out 0 (some 85) (bm 31 1) ?_
 refine pur HT_.out 1 (some 86) (bm 31 3) ?_
 refine pur HT_.out 2 (some 87) (bm 31 7) ?_
 refine one_ (i := 3) (N := some 88) #[true, true, true, true, false, false, false, false, false, false, false, false, false, false, false, false, false, false, false, false, false, false, false, false, false, false, false, false, false, false, false] rfl rfl (one_of HT_.out (by kernel_rfl)) (by decide) (fun K hK => ?_)
 refine goes_ Try.func25 (by kernel_rfl) rfl #[.slice Ao22 t282.length co22, .slice Ao21 t278.length co21] (by first | rfl | (refine wanted_on rfl rfl rfl ?_; first | assumption | (simp [*]; done))) rfl rfl (by (try simp only [List.map_toArray, List.map_cons, List.map_nil]); first | done | rfl | (simp only [List.length_drop, List.length_take]; rfl)) ?_
 with_reducible refine (determinant_Merge.calls k2 _ _ t282 _ _ t278 t320 _ ?side1 ?side2 ?side3 ?side4 A79.out).mono ?_
 (case side1 => repeat (first | exact (Kd.R_reads' HO_7.out).2.2 | (with_reducible refine Kd.C_alloc ?_ _) | (with_reducible refine Kd.C_drewN ?_ _) | (with_reducible refine Kd.C_drew ?_)))
 (case side2 => exact (Kd.R_reads' HO_7.out).2.1)
 (case side3 => repeat (first | exact (Kd.R_reads' HO_6.out).2.2 | (with_reducible refine Kd.C_alloc ?_ _) | (with_reducible refine Kd.C_drewN ?_ _) | (with_reducible refine Kd.C_drew ?_)))
 (case side4 => exact (Kd.R_reads' HO_6.out).2.1)
 rintro e w118 ⟨v321, rfl, ho0, hb⟩
 refine ⟨_, rfl, ?_⟩
 have n0_ := Aside0.mk (Kd.R_elder' (rq HO_6.out) (Kd.R_base ho0) hb)
 have n1_ := Aside0.mk (Kd.R_elder' (rq HO_7.out) (Kd.R_base ho0) hb)
 have n2_ := Aside0.mk (Kd.R_elder' (rq HO_8.out) (Kd.R_base ho0) hb)
 have n3_ := Aside0.mk (Kd.R_elder' (rq HO_9.out) (Kd.R_base ho0) hb)
 have n4_ := Aside0.mk (Kd.R_elder' (rq HO_10.out) (Kd.R_base ho0) hb)
 have n5_ := Aside0.mk (Kd.R_lower (Kd.R_newB (Kd.R_new' (Kd.R_new' (Kd.R_new' (Kd.R_new' (Kd.R_new' ho0 (Kd.R_lt (rq HO_6.out))) (Kd.R_lt (rq HO_7.out))) (Kd.R_lt (rq HO_8.out))) (Kd.R_lt (rq HO_9.out))) (Kd.R_lt (rq HO_10.out))) (g := gb273) (o := .cells #[.int .i64 a1_0, .int .i64 a1_1, .int .i64 a1_2, .int .i64 a1_3, .int .i64 a1_4, .int .i64 a1_5, .int .i64 a1_6, .int .i64 a1_7, .int .i64 a1_8] 39 (0, 0)) (kq BK273.out)) (below_size (bq1 HB.out GE273.out)))
 have n6_ := Aside0.mk (blk_below (g := gb273) (o := .cells #[.int .i64 a1_0, .int .i64 a1_1, .int .i64 a1_2, .int .i64 a1_3, .int .i64 a1_4, .int .i64 a1_5, .int .i64 a1_6, .int .i64 a1_7, .int .i64 a1_8] 39 (0, 0)) (kq BK273.out) hb)
 have n7_ := Aside0.mk (below_step (bq1 HB.out GE273.out) hb)
 clear HO_6
 clear HO_7
 clear HO_8
 clear HO_9
 clear HO_10
 clear BK273
 clear HB
 have HO_6 := n0_
 have HO_7 := n1_
 have HO_8 := n2_
 have HO_9 := n3_
 have HO_10 := n4_
 have HO322 := n5_
 have BK273 := n6_
 have HB := n7_
 clear n0_ n1_ n2_ n3_ n4_ n5_ n6_ n7_
 (try clear hb)
 (try clear hb2)
 (try clear hk)
 (try clear hi)
 (try clear ho0)
 obtain ⟨Ao119, co119, eo119⟩ := Kd.R_slice HO322.out
 (first | subst eo119 | (injection eo119 with f1_ f2_ f3_; have f4_ := f1_.symm; have f5_ := f3_.symm; clear f1_ f2_ f3_; subst f4_; subst f5_))
 refine hK.out _ _ trivial (fun hHeld => ?_)
 clear hK K
 refine norm_ (a' := ?_) ?_ ?_
 rotate_left
 ·(
 show Act.put _ (some 88) _ = _
 simp only [Act.put, List.setIfInBounds_toArray, List.set_cons_zero, List.set_cons_succ, i64_w, i32_w]
 rfl)
 refine one_ (i := 4) (N := some 89) #[true, true, true, true, true, false, false, false, false, false, false, false, false, false, false, false, false, false, false, false, false, false, false, false, false, false, false, false, false, false, false] rfl rfl (one_of HT_.out (by kernel_rfl)) (by decide) (fun K hK => ?_)
 refine goes_ Try.func14 (by kernel_rfl) rfl #[.slice Ao116 t290.length co116, .slice Ao119 t320.length co119] (by first | rfl | (refine wanted_on rfl rfl rfl ?_; first | assumption | (simp [*]; done))) rfl rfl (by (try simp only [List.map_toArray, List.map_cons, List.map_nil]); first | done | rfl | (simp only [List.length_drop, List.length_take]; rfl)) ?_
 with_reducible refine (rollbacknetref27_Same.calls k2 _ _ t290 _ _ t320 true _ ?side1 ?side2 ?side3 ?side4 A80.out).mono ?_
 (case side1 => repeat (first | exact (Kd.R_reads' HO_9.out).2.2 | (with_reducible refine Kd.C_alloc ?_ _) | (with_reducible refine Kd.C_drewN ?_ _) | (with_reducible refine Kd.C_drew ?_)))
 (case side2 => exact (Kd.R_reads' HO_9.out).2.1)
 (case side3 => repeat (first | exact (Kd.R_reads' HO322.out).2.2 | (with_reducible refine Kd.C_alloc ?_ _) | (with_reducible refine Kd.C_drewN ?_ _) | (with_reducible refine Kd.C_drew ?_)))
 (case side4 => exact (Kd.R_reads' HO322.out).2.1)
 rintro e w' ⟨rfl, ⟨nd, rfl⟩⟩
 refine ⟨_, rfl, ?_⟩
 refine hK.out _ _ trivial (fun hHeld => ?_)
 clear hK K
 refine norm_ (a' := ?_) ?_ ?_
 rotate_left
 ·(
 show Act.put _ (some 89) _ = _
 simp only [Act.put, List.setIfInBounds_toArray, List.set_cons_zero, List.set_cons_succ, i64_w, i32_w]
 rfl)
 refine pur HT_.out 5 (some 90) (bm 31 63) ?_
 refine pur HT_.out 6 (some 91) (bm 31 127) ?_
 refine pur HT_.out 7 (some 92) (bm 31 255) ?_
 refine pur HT_.out 8 (some 93) (bm 31 511) ?_
 refine one_ (i := 9) (N := some 94) #[true, true, true, true, true, true, true, true, true, true, false, false, false, false, false, false, false, false, false, false, false, false, false, false, false, false, false, false, false, false, false] rfl rfl (one_of HT_.out (by kernel_rfl)) (by decide) (fun K hK => ?_)
 refine goes_ Try.func25 (by kernel_rfl) rfl #[.slice Ao116 t290.length co116, .slice Ao21 t278.length co21] (by first | rfl | (refine wanted_on rfl rfl rfl ?_; first | assumption | (simp [*]; done))) rfl rfl (by (try simp only [List.map_toArray, List.map_cons, List.map_nil]); first | done | rfl | (simp only [List.length_drop, List.length_take]; rfl)) ?_
 with_reducible refine (determinant_Merge.calls k2 _ _ t290 _ _ t278 t324 _ ?side1 ?side2 ?side3 ?side4 A82.out).mono ?_
 (case side1 => repeat (first | exact (Kd.R_reads' HO_9.out).2.2 | (with_reducible refine Kd.C_alloc ?_ _) | (with_reducible refine Kd.C_drewN ?_ _) | (with_reducible refine Kd.C_drew ?_)))
 (case side2 => exact (Kd.R_reads' HO_9.out).2.1)
 (case side3 => repeat (first | exact (Kd.R_reads' HO_6.out).2.2 | (with_reducible refine Kd.C_alloc ?_ _) | (with_reducible refine Kd.C_drewN ?_ _) | (with_reducible refine Kd.C_drew ?_)))
 (case side4 => exact (Kd.R_reads' HO_6.out).2.1)
 rintro e w120 ⟨v325, rfl, ho0, hb⟩
 refine ⟨_, rfl, ?_⟩
 have n0_ := Aside0.mk (Kd.R_elder' (rq HO_6.out) (Kd.R_base ho0) hb)
 have n1_ := Aside0.mk (Kd.R_elder' (rq HO_7.out) (Kd.R_base ho0) hb)
 have n2_ := Aside0.mk (Kd.R_elder' (rq HO_8.out) (Kd.R_base ho0) hb)
 have n3_ := Aside0.mk (Kd.R_elder' (rq HO_9.out) (Kd.R_base ho0) hb)
 have n4_ := Aside0.mk (Kd.R_elder' (rq HO_10.out) (Kd.R_base ho0) hb)
 have n5_ := Aside0.mk (Kd.R_elder' (rq HO322.out) (Kd.R_base ho0) hb)
 have n6_ := Aside0.mk (Kd.R_lower (Kd.R_newB (Kd.R_new' (Kd.R_new' (Kd.R_new' (Kd.R_new' (Kd.R_new' (Kd.R_new' ho0 (Kd.R_lt (rq HO_6.out))) (Kd.R_lt (rq HO_7.out))) (Kd.R_lt (rq HO_8.out))) (Kd.R_lt (rq HO_9.out))) (Kd.R_lt (rq HO_10.out))) (Kd.R_lt (rq HO322.out))) (g := gb273) (o := .cells #[.int .i64 a1_0, .int .i64 a1_1, .int .i64 a1_2, .int .i64 a1_3, .int .i64 a1_4, .int .i64 a1_5, .int .i64 a1_6, .int .i64 a1_7, .int .i64 a1_8] 39 (0, 0)) (kq BK273.out)) (below_size (bq1 HB.out GE273.out)))
 have n7_ := Aside0.mk (blk_below (g := gb273) (o := .cells #[.int .i64 a1_0, .int .i64 a1_1, .int .i64 a1_2, .int .i64 a1_3, .int .i64 a1_4, .int .i64 a1_5, .int .i64 a1_6, .int .i64 a1_7, .int .i64 a1_8] 39 (0, 0)) (kq BK273.out) hb)
 have n8_ := Aside0.mk (below_step (bq1 HB.out GE273.out) hb)
 clear HO_6
 clear HO_7
 clear HO_8
 clear HO_9
 clear HO_10
 clear HO322
 clear BK273
 clear HB
 have HO_6 := n0_
 have HO_7 := n1_
 have HO_8 := n2_
 have HO_9 := n3_
 have HO_10 := n4_
 have HO322 := n5_
 have HO326 := n6_
 have BK273 := n7_
 have HB := n8_
 clear n0_ n1_ n2_ n3_ n4_ n5_ n6_ n7_ n8_
 (try clear hb)
 (try clear hb2)
 (try clear hk)
 (try clear hi)
 (try clear ho0)
 obtain ⟨Ao121, co121, eo121⟩ := Kd.R_slice HO326.out
 (first | subst eo121 | (injection eo121 with f1_ f2_ f3_; have f4_ := f1_.symm; have f5_ := f3_.symm; clear f1_ f2_ f3_; subst f4_; subst f5_))
 refine hK.out _ _ trivial (fun hHeld => ?_)
 clear hK K
 refine norm_ (a' := ?_) ?_ ?_
 rotate_left
 ·(
 show Act.put _ (some 94) _ = _
 simp only [Act.put, List.setIfInBounds_toArray, List.set_cons_zero, List.set_cons_succ, i64_w, i32_w]
 rfl)
 refine one_ (i := 10) (N := some 95) #[true, true, true, true, true, true, true, true, true, true, true, false, false, false, false, false, false, false, false, false, false, false, false, false, false, false, false, false, false, false, false] rfl rfl (one_of HT_.out (by kernel_rfl)) (by decide) (fun K hK => ?_)
 refine goes_ Try.func14 (by kernel_rfl) rfl #[.slice Ao116 t290.length co116, .slice Ao121 t324.length co121] (by first | rfl | (refine wanted_on rfl rfl rfl ?_; first | assumption | (simp [*]; done))) rfl rfl (by (try simp only [List.map_toArray, List.map_cons, List.map_nil]); first | done | rfl | (simp only [List.length_drop, List.length_take]; rfl)) ?_
 with_reducible refine (rollbacknetref27_Same.calls k2 _ _ t290 _ _ t324 false _ ?side1 ?side2 ?side3 ?side4 A83.out).mono ?_
 (case side1 => repeat (first | exact (Kd.R_reads' HO_9.out).2.2 | (with_reducible refine Kd.C_alloc ?_ _) | (with_reducible refine Kd.C_drewN ?_ _) | (with_reducible refine Kd.C_drew ?_)))
 (case side2 => exact (Kd.R_reads' HO_9.out).2.1)
 (case side3 => repeat (first | exact (Kd.R_reads' HO326.out).2.2 | (with_reducible refine Kd.C_alloc ?_ _) | (with_reducible refine Kd.C_drewN ?_ _) | (with_reducible refine Kd.C_drew ?_)))
 (case side4 => exact (Kd.R_reads' HO326.out).2.1)
 rintro e w' ⟨rfl, ⟨nd, rfl⟩⟩
 refine ⟨_, rfl, ?_⟩
 refine hK.out _ _ trivial (fun hHeld => ?_)
 clear hK K
 refine norm_ (a' := ?_) ?_ ?_
 rotate_left
 ·(
 show Act.put _ (some 95) _ = _
 simp only [Act.put, List.setIfInBounds_toArray, List.set_cons_zero, List.set_cons_succ, i64_w, i32_w]
 rfl)
 refine pur HT_.out 11 (some 96) (bm 31 4095) ?_
 refine pur HT_.out 12 (some 97) (bm 31 8191) ?_
 refine pux HT_.out 13 (some 98) (bm 31 16383) ?_
 refine pux HT_.out 14 (some 99) (bm 31 32767) ?_
 refine pux HT_.out 15 (some 100) (bm 31 65535) ?_
 refine pux HT_.out 16 (some 101) (bm 31 131071) ?_
 refine pux HT_.out 17 (some 102) (bm 31 262143) ?_
 refine pur HT_.out 18 (some 103) (bm 31 524287) ?_
 refine pur HT_.out 19 (some 104) (bm 31 1048575) ?_
 refine pux HT_.out 20 (some 105) (bm 31 2097151) ?_
 refine pux HT_.out 21 (some 106) (bm 31 4194303) ?_
 refine pux HT_.out 22 (some 107) (bm 31 8388607) ?_
 refine pux HT_.out 23 (some 108) (bm 31 16777215) ?_
 refine pux HT_.out 24 (some 109) (bm 31 33554431) ?_
 refine pux HT_.out 25 (some 110) (bm 31 67108863) ?_
 refine pux HT_.out 26 (some 111) (bm 31 134217727) ?_
 refine pux HT_.out 27 (some 112) (bm 31 268435455) ?_
 refine pux HT_.out 28 (some 113) (bm 31 536870911) ?_
 refine pur HT_.out 29 (some 114) (bm 31 1073741823) ?_
 refine pur HT_.out 30 (some 4) (bm 31 2147483647) ?_
 refine done_ (done_of HT_.out (by kernel_rfl)) ?_
 try go_wp2
 go_ret
 exact ⟨by first | rfl | (simp [errW_none, errW_some] <;> rfl) | (simp [*, errW_none, errW_some] <;> rfl), bq1 HB.out GE273.out⟩))
 ·(
 replace c81 := Bool.eq_false_iff.mpr c81
 subst c81
 have H1 : (some false) = some r := by rw [if_neg (show ¬ (false = true) by decide)] at H; exact H
 clear H
 have H := H1
 clear H1
 obtain rfl := Option.some.inj H
 obtain ⟨Ao122, co122, eo122⟩ := Kd.R_slice HO_9.out
 subst eo122
 try go_wp2
 have n0_ := Aside0.mk (Kd.R_drew HO_6.out)
 have n1_ := Aside0.mk (Kd.R_drew HO_7.out)
 have n2_ := Aside0.mk (Kd.R_drew HO_8.out)
 have n3_ := Aside0.mk (Kd.R_drew HO_9.out)
 have n4_ := Aside0.mk (Kd.R_drew HO_10.out)
 have n5_ := Aside0.mk (blk_drew BK273.out)
 have n6_ := Aside0.mk (below_drew1 HB.out)
 clear HO_6
 clear HO_7
 clear HO_8
 clear HO_9
 clear HO_10
 clear BK273
 clear HB
 have HO_6 := n0_
 have HO_7 := n1_
 have HO_8 := n2_
 have HO_9 := n3_
 have HO_10 := n4_
 have BK273 := n5_
 have HB := n6_
 clear n0_ n1_ n2_ n3_ n4_ n5_ n6_
 refine start_ (n := 31) (S := fun w' => True) (ds := []) #[false, false, false, false, false, false, false, false, false, false, false, false, false, false, false, false, false, false, false, false, false, false, false, false, false, false, false, false, false, false, false] (by kernel_rfl) rfl rfl trivial (fun hHeld => ?_); refine with_tabW rollbacknetlaw27_DeterminantUnions.tab18 rollbacknetlaw27_DeterminantUnions.bits18 (fun HT_ HW_ => ?_)
 generalize wr.drew = w123 at HO_6 HO_7 HO_8 HO_9 HO_10 BK273 HB hHeld ⊢
 refine pur HT_.out 0 (some 85) (bm 31 1) ?_
 refine pur HT_.out 1 (some 86) (bm 31 3) ?_
 refine pur HT_.out 2 (some 87) (bm 31 7) ?_
 refine one_ (i := 3) (N := some 88) #[true, true, true, true, false, false, false, false, false, false, false, false, false, false, false, false, false, false, false, false, false, false, false, false, false, false, false, false, false, false, false] rfl rfl (one_of HT_.out (by kernel_rfl)) (by decide) (fun K hK => ?_)
 refine goes_ Try.func25 (by kernel_rfl) rfl #[.slice Ao22 t282.length co22, .slice Ao21 t278.length co21] (by first | rfl | (refine wanted_on rfl rfl rfl ?_; first | assumption | (simp [*]; done))) rfl rfl (by (try simp only [List.map_toArray, List.map_cons, List.map_nil]); first | done | rfl | (simp only [List.length_drop, List.length_take]; rfl)) ?_
 with_reducible refine (determinant_Merge.calls k2 _ _ t282 _ _ t278 t320 _ ?side1 ?side2 ?side3 ?side4 A79.out).mono ?_
 (case side1 => repeat (first | exact (Kd.R_reads' HO_7.out).2.2 | (with_reducible refine Kd.C_alloc ?_ _) | (with_reducible refine Kd.C_drewN ?_ _) | (with_reducible refine Kd.C_drew ?_)))
 (case side2 => exact (Kd.R_reads' HO_7.out).2.1)
 (case side3 => repeat (first | exact (Kd.R_reads' HO_6.out).2.2 | (with_reducible refine Kd.C_alloc ?_ _) | (with_reducible refine Kd.C_drewN ?_ _) | (with_reducible refine Kd.C_drew ?_)))
 (case side4 => exact (Kd.R_reads' HO_6.out).2.1)
 rintro e w124 ⟨v321, rfl, ho0, hb⟩
 refine ⟨_, rfl, ?_⟩
 have n0_ := Aside0.mk (Kd.R_elder' (rq HO_6.out) (Kd.R_base ho0) hb)
 have n1_ := Aside0.mk (Kd.R_elder' (rq HO_7.out) (Kd.R_base ho0) hb)
 have n2_ := Aside0.mk (Kd.R_elder' (rq HO_8.out) (Kd.R_base ho0) hb)
 have n3_ := Aside0.mk (Kd.R_elder' (rq HO_9.out) (Kd.R_base ho0) hb)
 have n4_ := Aside0.mk (Kd.R_elder' (rq HO_10.out) (Kd.R_base ho0) hb)
 have n5_ := Aside0.mk (Kd.R_lower (Kd.R_newB (Kd.R_new' (Kd.R_new' (Kd.R_new' (Kd.R_new' (Kd.R_new' ho0 (Kd.R_lt (rq HO_6.out))) (Kd.R_lt (rq HO_7.out))) (Kd.R_lt (rq HO_8.out))) (Kd.R_lt (rq HO_9.out))) (Kd.R_lt (rq HO_10.out))) (g := gb273) (o := .cells #[.int .i64 a1_0, .int .i64 a1_1, .int .i64 a1_2, .int .i64 a1_3, .int .i64 a1_4, .int .i64 a1_5, .int .i64 a1_6, .int .i64 a1_7, .int .i64 a1_8] 39 (0, 0)) (kq BK273.out)) (below_size (bq1 HB.out GE273.out)))
 have n6_ := Aside0.mk (blk_below (g := gb273) (o := .cells #[.int .i64 a1_0, .int .i64 a1_1, .int .i64 a1_2, .int .i64 a1_3, .int .i64 a1_4, .int .i64 a1_5, .int .i64 a1_6, .int .i64 a1_7, .int .i64 a1_8] 39 (0, 0)) (kq BK273.out) hb)
 have n7_ := Aside0.mk (below_step (bq1 HB.out GE273.out) hb)
 clear HO_6
 clear HO_7
 clear HO_8
 clear HO_9
 clear HO_10
 clear BK273
 clear HB
 have HO_6 := n0_
 have HO_7 := n1_
 have HO_8 := n2_
 have HO_9 := n3_
 have HO_10 := n4_
 have HO322 := n5_
 have BK273 := n6_
 have HB := n7_
 clear n0_ n1_ n2_ n3_ n4_ n5_ n6_ n7_
 (try clear hb)
 (try clear hb2)
 (try clear hk)
 (try clear hi)
 (try clear ho0)
 obtain ⟨Ao125, co125, eo125⟩ := Kd.R_slice HO322.out
 (first | subst eo125 | (injection eo125 with f1_ f2_ f3_; have f4_ := f1_.symm; have f5_ := f3_.symm; clear f1_ f2_ f3_; subst f4_; subst f5_))
 refine hK.out _ _ trivial (fun hHeld => ?_)
 clear hK K
 refine norm_ (a' := ?_) ?_ ?_
 rotate_left
 ·(
 show Act.put _ (some 88) _ = _
 simp only [Act.put, List.setIfInBounds_toArray, List.set_cons_zero, List.set_cons_succ, i64_w, i32_w]
 rfl)
 refine one_ (i := 4) (N := some 89) #[true, true, true, true, true, false, false, false, false, false, false, false, false, false, false, false, false, false, false, false, false, false, false, false, false, false, false, false, false, false, false] rfl rfl (one_of HT_.out (by kernel_rfl)) (by decide) (fun K hK => ?_)
 refine goes_ Try.func14 (by kernel_rfl) rfl #[.slice Ao122 t290.length co122, .slice Ao125 t320.length co125] (by first | rfl | (refine wanted_on rfl rfl rfl ?_; first | assumption | (simp [*]; done))) rfl rfl (by (try simp only [List.map_toArray, List.map_cons, List.map_nil]); first | done | rfl | (simp only [List.length_drop, List.length_take]; rfl)) ?_
 with_reducible refine (rollbacknetref27_Same.calls k2 _ _ t290 _ _ t320 false _ ?side1 ?side2 ?side3 ?side4 A80.out).mono ?_
 (case side1 => repeat (first | exact (Kd.R_reads' HO_9.out).2.2 | (with_reducible refine Kd.C_alloc ?_ _) | (with_reducible refine Kd.C_drewN ?_ _) | (with_reducible refine Kd.C_drew ?_)))
 (case side2 => exact (Kd.R_reads' HO_9.out).2.1)
 (case side3 => repeat (first | exact (Kd.R_reads' HO322.out).2.2 | (with_reducible refine Kd.C_alloc ?_ _) | (with_reducible refine Kd.C_drewN ?_ _) | (with_reducible refine Kd.C_drew ?_)))
 (case side4 => exact (Kd.R_reads' HO322.out).2.1)
 rintro e w' ⟨rfl, ⟨nd, rfl⟩⟩
 refine ⟨_, rfl, ?_⟩
 refine hK.out _ _ trivial (fun hHeld => ?_)
 clear hK K
 refine norm_ (a' := ?_) ?_ ?_
 rotate_left
 ·(
 show Act.put _ (some 89) _ = _
 simp only [Act.put, List.setIfInBounds_toArray, List.set_cons_zero, List.set_cons_succ, i64_w, i32_w]
 rfl)
 refine pur HT_.out 5 (some 90) (bm 31 63) ?_
 refine pux HT_.out 6 (some 91) (bm 31 127) ?_
 refine pux HT_.out 7 (some 92) (bm 31 255) ?_
 refine pux HT_.out 8 (some 93) (bm 31 511) ?_
 refine pux HT_.out 9 (some 94) (bm 31 1023) ?_
 refine pux HT_.out 10 (some 95) (bm 31 2047) ?_
 refine pur HT_.out 11 (some 96) (bm 31 4095) ?_
 refine pur HT_.out 12 (some 97) (bm 31 8191) ?_
 refine pux HT_.out 13 (some 98) (bm 31 16383) ?_
 refine pux HT_.out 14 (some 99) (bm 31 32767) ?_
 refine pux HT_.out 15 (some 100) (bm 31 65535) ?_
 refine pux HT_.out 16 (some 101) (bm 31 131071) ?_
 refine pux HT_.out 17 (some 102) (bm 31 262143) ?_
 refine pur HT_.out 18 (some 103) (bm 31 524287) ?_
 refine pur HT_.out 19 (some 104) (bm 31 1048575) ?_
 refine pux HT_.out 20 (some 105) (bm 31 2097151) ?_
 refine pux HT_.out 21 (some 106) (bm 31 4194303) ?_
 refine pux HT_.out 22 (some 107) (bm 31 8388607) ?_
 refine pux HT_.out 23 (some 108) (bm 31 16777215) ?_
 refine pux HT_.out 24 (some 109) (bm 31 33554431) ?_
 refine pux HT_.out 25 (some 110) (bm 31 67108863) ?_
 refine pux HT_.out 26 (some 111) (bm 31 134217727) ?_
 refine pux HT_.out 27 (some 112) (bm 31 268435455) ?_
 refine pux HT_.out 28 (some 113) (bm 31 536870911) ?_
 refine pur HT_.out 29 (some 114) (bm 31 1073741823) ?_
 refine pur HT_.out 30 (some 4) (bm 31 2147483647) ?_
 refine done_ (done_of HT_.out (by kernel_rfl)) ?_
 try go_wp2
 go_ret
 exact ⟨by first | rfl | (simp [errW_none, errW_some] <;> rfl) | (simp [*, errW_none, errW_some] <;> rfl), bq1 HB.out GE273.out⟩))))))))
 ·(
 rw [if_neg c14] at H
 exact absurd H (by simp)))
 ·(
 rw [if_neg c13] at H
 exact absurd H (by simp)))
 ·(
 rw [if_neg c12] at H
 exact absurd H (by simp)))
 ·(
 replace c4 := Bool.eq_false_iff.mpr c4
 subst c4
 have H1 : (some false) = some r := by rw [if_neg (show ¬ (false = true) by decide)] at H; exact H
 clear H
 have H := H1
 clear H1
 obtain rfl := Option.some.inj H
 go_enter Try.func9, Try.ntmps9
 go_wp2_with (first | ((with_reducible refine gate_dst (N := 3) rfl ?_); refine box_event ?hg (N := 3) ?hd (cs := #[.int .i64 a1_0, .int .i64 a1_1, .int .i64 a1_2, .int .i64 a1_3, .int .i64 a1_4, .int .i64 a1_5, .int .i64 a1_6, .int .i64 a1_7, .int .i64 a1_8]) (t := 39) ?hr ?_; (case hd => rfl); (case hg => rfl); (case hr => first | (go_simp; done) | (go_simp; rfl)); intro gb273 hg w126 hbox hb; have n0_ := Aside0.mk (below_step (bq HB.out) hb); have n1_ := Aside0.mk (hbox); have n2_ := Aside0.mk ((by rw [hg]; exact (below_size (bq HB.out)) : w.heap.size ≤ gb273)); have n3_ := Aside0.mk ((by rw [hg]; exact (below_size (bq HB.out)) : w.heap.size ≤ gb273)); clear HB; have HB := n0_; have BK273 := n1_; have GW273 := n2_; have GE273 := n3_; clear n0_ n1_ n2_ n3_; clear hb hbox hg) | ((with_reducible refine gate_callee (f := 12) rfl ?_); refine goesL_ (some 14) rfl rfl Try.func12 (by kernel_rfl) rfl #[] rfl (by (try simp only [List.map_toArray, List.map_cons, List.map_nil]); first | done | rfl | (simp only [List.length_drop, List.length_take]; rfl)) ?_; (with_reducible refine (rollbacknetlaw27_awake.calls k  false _ A3.out).mono ?_); rintro e w127 ⟨rfl, hb⟩; refine ⟨_, rfl, ?_⟩; have n0_ := Aside0.mk (blk_below (g := gb273) (o := .cells #[.int .i64 a1_0, .int .i64 a1_1, .int .i64 a1_2, .int .i64 a1_3, .int .i64 a1_4, .int .i64 a1_5, .int .i64 a1_6, .int .i64 a1_7, .int .i64 a1_8] 39 (0, 0)) (kq BK273.out) hb); have n1_ := Aside0.mk (below_step (bq1 HB.out GE273.out) hb); clear BK273; clear HB; have BK273 := n0_; have HB := n1_; clear n0_ n1_; (try clear hb); (try clear hb2); (try clear hk); (try clear hi)))
 go_ret
 exact ⟨by first | rfl | (simp [errW_none, errW_some] <;> rfl) | (simp [*, errW_none, errW_some] <;> rfl), bq1 HB.out GE273.out⟩)
/-- THE ONE PURE STATEMENT of rollbacknetlaw27_DeterminantUnions. -/
def rollbacknetlaw27_DeterminantUnions.Pure : Prop := ∀ (p0 : List Int) (p1 : S39), (okRow 1 (okInt .u8)) p0 → ok39 p1 → ∃ k, rollbacknetlaw27_DeterminantUnions.f k p0 p1.f0 p1.f1 p1.f2.f0 p1.f2.f1 p1.f2.f2 p1.f2.f3.f0 p1.f2.f3.f1 p1.f2.f4 p1.f2.f5 = some true

end Go.Proofs.Ytjlpggpkbcgekaa.PG27
