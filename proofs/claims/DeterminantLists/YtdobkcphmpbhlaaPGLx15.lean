-- Written by a program of this session (hprint.py) out of the translation and of hand-proved parts. Lean checks it.
import Derived.Test.YtdobkcphmpbhlaaPGLx0
import Derived.Test.YtdobkcphmpbhlaaPGLx2
import Derived.Test.YtdobkcphmpbhlaaPGLx5
import Derived.Test.YtdobkcphmpbhlaaPGLx6
import Derived.Test.YtdobkcphmpbhlaaPGLx7
import Derived.Test.YtdobkcphmpbhlaaPGLx10
import Derived.Test.YtdobkcphmpbhlaaPGLx12
import Derived.Test.YtdobkcphmpbhlaaPGLx13
import Derived.Test.YtdobkcphmpbhlaaPGLx14
namespace Go.Proofs.Ytdobkcphmpbhlaa.PGL
open Go.RowKit Go.Proofs.YtdobkcphmpbhlaaW.PrintWords Go.Proofs.YtdobkcphmpbhlaaW.PrintLast Go.Proofs.YtdobkcphmpbhlaaW.PrintMore
attribute [local go_sem] max2_int min2_int max_two min_two max_three min_three max_four min_four   -- for this text's walks alone
set_option linter.unusedVariables false
set_option linter.unusedSimpArgs false

/-! ### rollbacknetlaw27_DeterminantLists: function 3 -/
mutual
def rollbacknetlaw27_DeterminantLists.j0 : Nat → List (S28) → List Int → Int → Int → Bool → Int → Int → Int → Int → Int → Int → Int → Int → Int → Option (Bool)
 | 0, _, _, _, _, _, _, _, _, _, _, _, _, _, _ => none
 | k + 1, x0, x2, x3, x4, x22, x367000, x367001, x367002, x367003, x367004, x367005, x367006, x367007, x367008 => if x22 = true then (some (decide ((x0.length : Int) > 60))) else ((rollbacknetmake_New.f x2 200).bind fun bt368 => ((rollbacknetmake_Codes_Dets.f k bt368.1 bt368.2 12).bind fun bt371 => ((rollbacknetmake_Codes_Dets.f k bt368.1 bt371.2 6).bind fun bt375 => (if bt371.1.length + bt375.1.length < 1954687338268 then ((some (bt371.1 ++ bt375.1 : List (S28))).bind fun y379 => (if (y379.length : Int) > 0 then ((rollbacknetmake_Codes_Next.f bt368.1 bt375.2 (y379.length : Int)).bind fun bt382 => (if 0 ≤ bt382.1 then (if bt382.1 < (y379.length : Int) then (if y379.length < 1954687338268 then (rollbacknetlaw27_DeterminantLists.j1 k x0 x3 x4 (y379 ++ [(⟨(rd_T28 y379 bt382.1).f0, (rd_T28 y379 bt382.1).f1, (⟨(rd_T28 y379 bt382.1).f2.f0, (rd_T28 y379 bt382.1).f2.f1, (rd_T28 y379 bt382.1).f2.f2, (⟨(rd_T28 y379 bt382.1).f2.f3.f0, (rd_T28 y379 bt382.1).f2.f3.f1⟩ : S24), (rd_T28 y379 bt382.1).f2.f4, (rd_T28 y379 bt382.1).f2.f5⟩ : S26)⟩ : S28)]) x367000 x367001 x367002 x367003 x367004 x367005 x367006 x367007 x367008 bt368.1 bt382.2) else (none)) else (none)) else (none))) else (rollbacknetlaw27_DeterminantLists.j1 k x0 x3 x4 y379 x367000 x367001 x367002 x367003 x367004 x367005 x367006 x367007 x367008 bt368.1 bt375.2))) else (none)))))
def rollbacknetlaw27_DeterminantLists.j1 : Nat → List (S28) → Int → Int → List (S28) → Int → Int → Int → Int → Int → Int → Int → Int → Int → List Int → Int → Option (Bool)
 | 0, _, _, _, _, _, _, _, _, _, _, _, _, _, _, _ => none
 | k + 1, x0, x3, x4, x12, x367000, x367001, x367002, x367003, x367004, x367005, x367006, x367007, x367008, x371000, x371001 => if (x12.length : Int) > 0 then ((rollbacknetmake_Codes_Next.f x371000 x371001 (x12.length : Int)).bind fun bt389 => (if 0 ≤ bt389.1 then (if bt389.1 < (x12.length : Int) then ((rollbacknetmake_Codes_Next.f x371000 bt389.2 12).bind fun bt392 => ((rollbacknetmake_Codes_Next.f x371000 bt392.2 3).bind fun bt394 => ((rollbacknetlaw27_near.f ((rd_T28 x12 bt389.1).f0) ((rd_T28 x12 bt389.1).f1) ((rd_T28 x12 bt389.1).f2.f0) ((rd_T28 x12 bt389.1).f2.f1) ((rd_T28 x12 bt389.1).f2.f2) ((rd_T28 x12 bt389.1).f2.f3.f0) ((rd_T28 x12 bt389.1).f2.f3.f1) ((rd_T28 x12 bt389.1).f2.f4) ((rd_T28 x12 bt389.1).f2.f5) bt392.1 bt394.1).bind fun bt396 => (rollbacknetlaw27_DeterminantLists.j2 k x0 x3 x4 x12 x367000 x367001 x367002 x367003 x367004 x367005 x367006 x367007 x367008 bt396.1 bt396.2.1 bt396.2.2.1 bt396.2.2.2.1 bt396.2.2.2.2.1 bt396.2.2.2.2.2.1 bt396.2.2.2.2.2.2.1 bt396.2.2.2.2.2.2.2.1 bt396.2.2.2.2.2.2.2.2)))) else (none)) else (none))) else (rollbacknetlaw27_DeterminantLists.j2 k x0 x3 x4 x12 x367000 x367001 x367002 x367003 x367004 x367005 x367006 x367007 x367008 x367000 x367001 x367002 x367003 x367004 x367005 x367006 x367007 x367008)
def rollbacknetlaw27_DeterminantLists.j2 : Nat → List (S28) → Int → Int → List (S28) → Int → Int → Int → Int → Int → Int → Int → Int → Int → Int → Int → Int → Int → Int → Int → Int → Int → Int → Option (Bool)
 | 0, _, _, _, _, _, _, _, _, _, _, _, _, _, _, _, _, _, _, _, _, _, _ => none
 | k + 1, x0, x3, x4, x12, x367000, x367001, x367002, x367003, x367004, x367005, x367006, x367007, x367008, x389000, x389001, x389002, x389003, x389004, x389005, x389006, x389007, x389008 => (rollbacknetmake_Mod.f x3 3).bind fun t405 => ((rollbacknetmake_Mod.f x4 8).bind fun t406 => ((determinant_Add.f k x0 x367000 x367001 x367002 x367003 x367004 x367005 x367006 x367007 x367008).bind fun t407 => ((rollbacknetref27_Add.f k x0 x367000 x367001 x367002 x367003 x367004 x367005 x367006 x367007 x367008).bind fun t410 => ((rollbacknetref27_Same.f k t407 t410).bind fun t413 => (if t413 = true then ((determinant_Add.f k x12 x389000 x389001 x389002 x389003 x389004 x389005 x389006 x389007 x389008).bind fun t414 => ((rollbacknetref27_Add.f k x12 x389000 x389001 x389002 x389003 x389004 x389005 x389006 x389007 x389008).bind fun t417 => ((rollbacknetref27_Same.f k t414 t417).bind fun t420 => (if t420 = true then ((determinant_Has.f k x0 x367000 x367001 x367002 x367003 x367004 x367005 x367006 x367007 x367008).bind fun t421 => ((rollbacknetref27_Has.f k x0 x367000 x367001 x367002 x367003 x367004 x367005 x367006 x367007 x367008).bind fun t422 => (if (t421 == t422) = true then ((determinant_Has.f k x12 x389000 x389001 x389002 x389003 x389004 x389005 x389006 x389007 x389008).bind fun t423 => ((rollbacknetref27_Has.f k x12 x389000 x389001 x389002 x389003 x389004 x389005 x389006 x389007 x389008).bind fun t424 => (if (t423 == t424) = true then ((determinant_Cut.f k x0 x3 x4).bind fun t425 => ((rollbacknetref27_Cut.f k x0 x3 x4).bind fun t428 => ((rollbacknetref27_Same.f k t425 t428).bind fun t431 => (if t431 = true then ((determinant_Cut.f k x12 t405 t406).bind fun t432 => ((rollbacknetref27_Cut.f k x12 t405 t406).bind fun t435 => ((rollbacknetref27_Same.f k t432 t435).bind fun t438 => (if t438 = true then ((determinant_Discard.f k x0 x3 x4).bind fun t439 => ((rollbacknetref27_Discard.f k x0 x3 x4).bind fun t442 => ((rollbacknetref27_Same.f k t439 t442).bind fun t445 => (if t445 = true then ((determinant_Discard.f k x12 t405 t406).bind fun t446 => ((rollbacknetref27_Discard.f k x12 t405 t406).bind fun t449 => ((rollbacknetref27_Same.f k t446 t449).bind fun t452 => (some t452)))) else (some false))))) else (some false))))) else (some false))))) else (some false)))) else (some false)))) else (some false))))) else (some false))))))
end
def rollbacknetlaw27_DeterminantLists.f (k : Nat) (l0 : List (S28)) (a1_0 : Int) (a1_1 : Int) (a1_2 : Int) (a1_3 : Int) (a1_4 : Int) (a1_5 : Int) (a1_6 : Int) (a1_7 : Int) (a1_8 : Int) (l2 : List Int) (a3 : Int) (a4 : Int) : Option (Bool) := (rollbacknetlaw27_awake.f k).bind fun t367 => (if t367 = true then (rollbacknetlaw27_DeterminantLists.j0 k l0 l2 a3 a4 (decide ((l0.length : Int) > 60)) a1_0 a1_1 a1_2 a1_3 a1_4 a1_5 a1_6 a1_7 a1_8) else (rollbacknetlaw27_DeterminantLists.j0 k l0 l2 a3 a4 true a1_0 a1_1 a1_2 a1_3 a1_4 a1_5 a1_6 a1_7 a1_8))
theorem rollbacknetlaw27_DeterminantLists.mono_l : ∀ k, (∀ y0 y1 y2 y3 y4 y5 y6 y7 y8 y9 y10 y11 y12 y13, LeO (rollbacknetlaw27_DeterminantLists.j0 k y0 y1 y2 y3 y4 y5 y6 y7 y8 y9 y10 y11 y12 y13) (rollbacknetlaw27_DeterminantLists.j0 (k + 1) y0 y1 y2 y3 y4 y5 y6 y7 y8 y9 y10 y11 y12 y13)) ∧ (∀ y0 y1 y2 y3 y4 y5 y6 y7 y8 y9 y10 y11 y12 y13 y14, LeO (rollbacknetlaw27_DeterminantLists.j1 k y0 y1 y2 y3 y4 y5 y6 y7 y8 y9 y10 y11 y12 y13 y14) (rollbacknetlaw27_DeterminantLists.j1 (k + 1) y0 y1 y2 y3 y4 y5 y6 y7 y8 y9 y10 y11 y12 y13 y14)) ∧ (∀ y0 y1 y2 y3 y4 y5 y6 y7 y8 y9 y10 y11 y12 y13 y14 y15 y16 y17 y18 y19 y20 y21, LeO (rollbacknetlaw27_DeterminantLists.j2 k y0 y1 y2 y3 y4 y5 y6 y7 y8 y9 y10 y11 y12 y13 y14 y15 y16 y17 y18 y19 y20 y21) (rollbacknetlaw27_DeterminantLists.j2 (k + 1) y0 y1 y2 y3 y4 y5 y6 y7 y8 y9 y10 y11 y12 y13 y14 y15 y16 y17 y18 y19 y20 y21))
 | 0 => ⟨fun _ _ _ _ _ _ _ _ _ _ _ _ _ _ r h => by simp [rollbacknetlaw27_DeterminantLists.j0] at h, fun _ _ _ _ _ _ _ _ _ _ _ _ _ _ _ r h => by simp [rollbacknetlaw27_DeterminantLists.j1] at h, fun _ _ _ _ _ _ _ _ _ _ _ _ _ _ _ _ _ _ _ _ _ _ r h => by simp [rollbacknetlaw27_DeterminantLists.j2] at h⟩
 | k + 1 => by
  obtain ⟨ih0, ih1, ih2⟩ := rollbacknetlaw27_DeterminantLists.mono_l k
  refine ⟨?_, ?_, ?_⟩
  ·intro y0 y1 y2 y3 y4 y5 y6 y7 y8 y9 y10 y11 y12 y13
   unfold rollbacknetlaw27_DeterminantLists.j0
   repeat' first
   | (with_reducible exact ih0 _ _ _ _ _ _ _ _ _ _ _ _ _ _)
   | (with_reducible exact ih1 _ _ _ _ _ _ _ _ _ _ _ _ _ _ _)
   | (with_reducible exact ih2 _ _ _ _ _ _ _ _ _ _ _ _ _ _ _ _ _ _ _ _ _ _)
   | (with_reducible exact determinant_Add.mono _ _ _ _ _ _ _ _ _ _ _)
   | (with_reducible exact determinant_Cut.mono _ _ _ _)
   | (with_reducible exact determinant_Discard.mono _ _ _ _)
   | (with_reducible exact determinant_Has.mono _ _ _ _ _ _ _ _ _ _ _)
   | (with_reducible exact rollbacknetlaw27_awake.mono _)
   | (with_reducible exact rollbacknetmake_Codes_Dets.mono _ _ _ _)
   | (with_reducible exact rollbacknetref27_Add.mono _ _ _ _ _ _ _ _ _ _ _)
   | (with_reducible exact rollbacknetref27_Cut.mono _ _ _ _)
   | (with_reducible exact rollbacknetref27_Discard.mono _ _ _ _)
   | (with_reducible exact rollbacknetref27_Has.mono _ _ _ _ _ _ _ _ _ _ _)
   | (with_reducible exact rollbacknetref27_Same.mono _ _ _)
   | (with_reducible exact LeO.refl _)
   | (with_reducible exact LeO.none _)
   | (with_reducible refine LeO.ite ?_ ?_)
   | (with_reducible refine LeO.bind ?_ (fun _ => ?_))
   | exact ih0 _ _ _ _ _ _ _ _ _ _ _ _ _ _
   | exact ih1 _ _ _ _ _ _ _ _ _ _ _ _ _ _ _
   | exact ih2 _ _ _ _ _ _ _ _ _ _ _ _ _ _ _ _ _ _ _ _ _ _
   | exact determinant_Add.mono _ _ _ _ _ _ _ _ _ _ _
   | exact determinant_Cut.mono _ _ _ _
   | exact determinant_Discard.mono _ _ _ _
   | exact determinant_Has.mono _ _ _ _ _ _ _ _ _ _ _
   | exact rollbacknetlaw27_awake.mono _
   | exact rollbacknetmake_Codes_Dets.mono _ _ _ _
   | exact rollbacknetref27_Add.mono _ _ _ _ _ _ _ _ _ _ _
   | exact rollbacknetref27_Cut.mono _ _ _ _
   | exact rollbacknetref27_Discard.mono _ _ _ _
   | exact rollbacknetref27_Has.mono _ _ _ _ _ _ _ _ _ _ _
   | exact rollbacknetref27_Same.mono _ _ _
   | exact LeO.none _
   | refine LeO.ite ?_ ?_
   | refine LeO.bind ?_ (fun _ => ?_)
  ·intro y0 y1 y2 y3 y4 y5 y6 y7 y8 y9 y10 y11 y12 y13 y14
   unfold rollbacknetlaw27_DeterminantLists.j1
   repeat' first
   | (with_reducible exact ih0 _ _ _ _ _ _ _ _ _ _ _ _ _ _)
   | (with_reducible exact ih1 _ _ _ _ _ _ _ _ _ _ _ _ _ _ _)
   | (with_reducible exact ih2 _ _ _ _ _ _ _ _ _ _ _ _ _ _ _ _ _ _ _ _ _ _)
   | (with_reducible exact determinant_Add.mono _ _ _ _ _ _ _ _ _ _ _)
   | (with_reducible exact determinant_Cut.mono _ _ _ _)
   | (with_reducible exact determinant_Discard.mono _ _ _ _)
   | (with_reducible exact determinant_Has.mono _ _ _ _ _ _ _ _ _ _ _)
   | (with_reducible exact rollbacknetlaw27_awake.mono _)
   | (with_reducible exact rollbacknetmake_Codes_Dets.mono _ _ _ _)
   | (with_reducible exact rollbacknetref27_Add.mono _ _ _ _ _ _ _ _ _ _ _)
   | (with_reducible exact rollbacknetref27_Cut.mono _ _ _ _)
   | (with_reducible exact rollbacknetref27_Discard.mono _ _ _ _)
   | (with_reducible exact rollbacknetref27_Has.mono _ _ _ _ _ _ _ _ _ _ _)
   | (with_reducible exact rollbacknetref27_Same.mono _ _ _)
   | (with_reducible exact LeO.refl _)
   | (with_reducible exact LeO.none _)
   | (with_reducible refine LeO.ite ?_ ?_)
   | (with_reducible refine LeO.bind ?_ (fun _ => ?_))
   | exact ih0 _ _ _ _ _ _ _ _ _ _ _ _ _ _
   | exact ih1 _ _ _ _ _ _ _ _ _ _ _ _ _ _ _
   | exact ih2 _ _ _ _ _ _ _ _ _ _ _ _ _ _ _ _ _ _ _ _ _ _
   | exact determinant_Add.mono _ _ _ _ _ _ _ _ _ _ _
   | exact determinant_Cut.mono _ _ _ _
   | exact determinant_Discard.mono _ _ _ _
   | exact determinant_Has.mono _ _ _ _ _ _ _ _ _ _ _
   | exact rollbacknetlaw27_awake.mono _
   | exact rollbacknetmake_Codes_Dets.mono _ _ _ _
   | exact rollbacknetref27_Add.mono _ _ _ _ _ _ _ _ _ _ _
   | exact rollbacknetref27_Cut.mono _ _ _ _
   | exact rollbacknetref27_Discard.mono _ _ _ _
   | exact rollbacknetref27_Has.mono _ _ _ _ _ _ _ _ _ _ _
   | exact rollbacknetref27_Same.mono _ _ _
   | exact LeO.none _
   | refine LeO.ite ?_ ?_
   | refine LeO.bind ?_ (fun _ => ?_)
  ·intro y0 y1 y2 y3 y4 y5 y6 y7 y8 y9 y10 y11 y12 y13 y14 y15 y16 y17 y18 y19 y20 y21
   unfold rollbacknetlaw27_DeterminantLists.j2
   repeat' first
   | (with_reducible exact ih0 _ _ _ _ _ _ _ _ _ _ _ _ _ _)
   | (with_reducible exact ih1 _ _ _ _ _ _ _ _ _ _ _ _ _ _ _)
   | (with_reducible exact ih2 _ _ _ _ _ _ _ _ _ _ _ _ _ _ _ _ _ _ _ _ _ _)
   | (with_reducible exact determinant_Add.mono _ _ _ _ _ _ _ _ _ _ _)
   | (with_reducible exact determinant_Cut.mono _ _ _ _)
   | (with_reducible exact determinant_Discard.mono _ _ _ _)
   | (with_reducible exact determinant_Has.mono _ _ _ _ _ _ _ _ _ _ _)
   | (with_reducible exact rollbacknetlaw27_awake.mono _)
   | (with_reducible exact rollbacknetmake_Codes_Dets.mono _ _ _ _)
   | (with_reducible exact rollbacknetref27_Add.mono _ _ _ _ _ _ _ _ _ _ _)
   | (with_reducible exact rollbacknetref27_Cut.mono _ _ _ _)
   | (with_reducible exact rollbacknetref27_Discard.mono _ _ _ _)
   | (with_reducible exact rollbacknetref27_Has.mono _ _ _ _ _ _ _ _ _ _ _)
   | (with_reducible exact rollbacknetref27_Same.mono _ _ _)
   | (with_reducible exact LeO.refl _)
   | (with_reducible exact LeO.none _)
   | (with_reducible refine LeO.ite ?_ ?_)
   | (with_reducible refine LeO.bind ?_ (fun _ => ?_))
   | exact ih0 _ _ _ _ _ _ _ _ _ _ _ _ _ _
   | exact ih1 _ _ _ _ _ _ _ _ _ _ _ _ _ _ _
   | exact ih2 _ _ _ _ _ _ _ _ _ _ _ _ _ _ _ _ _ _ _ _ _ _
   | exact determinant_Add.mono _ _ _ _ _ _ _ _ _ _ _
   | exact determinant_Cut.mono _ _ _ _
   | exact determinant_Discard.mono _ _ _ _
   | exact determinant_Has.mono _ _ _ _ _ _ _ _ _ _ _
   | exact rollbacknetlaw27_awake.mono _
   | exact rollbacknetmake_Codes_Dets.mono _ _ _ _
   | exact rollbacknetref27_Add.mono _ _ _ _ _ _ _ _ _ _ _
   | exact rollbacknetref27_Cut.mono _ _ _ _
   | exact rollbacknetref27_Discard.mono _ _ _ _
   | exact rollbacknetref27_Has.mono _ _ _ _ _ _ _ _ _ _ _
   | exact rollbacknetref27_Same.mono _ _ _
   | exact LeO.none _
   | refine LeO.ite ?_ ?_
   | refine LeO.bind ?_ (fun _ => ?_)
theorem rollbacknetlaw27_DeterminantLists.mono : ∀ a0 a1 a2 a3 a4 a5 a6 a7 a8 a9 a10 a11 a12 k, LeO (rollbacknetlaw27_DeterminantLists.f k a0 a1 a2 a3 a4 a5 a6 a7 a8 a9 a10 a11 a12) (rollbacknetlaw27_DeterminantLists.f (k + 1) a0 a1 a2 a3 a4 a5 a6 a7 a8 a9 a10 a11 a12) := by
 intro a0 a1 a2 a3 a4 a5 a6 a7 a8 a9 a10 a11 a12 k
 obtain ⟨ih0, ih1, ih2⟩ := rollbacknetlaw27_DeterminantLists.mono_l k
 unfold rollbacknetlaw27_DeterminantLists.f
 repeat' first
   | (with_reducible exact ih0 _ _ _ _ _ _ _ _ _ _ _ _ _ _)
   | (with_reducible exact ih1 _ _ _ _ _ _ _ _ _ _ _ _ _ _ _)
   | (with_reducible exact ih2 _ _ _ _ _ _ _ _ _ _ _ _ _ _ _ _ _ _ _ _ _ _)
   | (with_reducible exact determinant_Add.mono _ _ _ _ _ _ _ _ _ _ _)
   | (with_reducible exact determinant_Cut.mono _ _ _ _)
   | (with_reducible exact determinant_Discard.mono _ _ _ _)
   | (with_reducible exact determinant_Has.mono _ _ _ _ _ _ _ _ _ _ _)
   | (with_reducible exact rollbacknetlaw27_awake.mono _)
   | (with_reducible exact rollbacknetmake_Codes_Dets.mono _ _ _ _)
   | (with_reducible exact rollbacknetref27_Add.mono _ _ _ _ _ _ _ _ _ _ _)
   | (with_reducible exact rollbacknetref27_Cut.mono _ _ _ _)
   | (with_reducible exact rollbacknetref27_Discard.mono _ _ _ _)
   | (with_reducible exact rollbacknetref27_Has.mono _ _ _ _ _ _ _ _ _ _ _)
   | (with_reducible exact rollbacknetref27_Same.mono _ _ _)
   | (with_reducible exact LeO.refl _)
   | (with_reducible exact LeO.none _)
   | (with_reducible refine LeO.ite ?_ ?_)
   | (with_reducible refine LeO.bind ?_ (fun _ => ?_))
   | exact ih0 _ _ _ _ _ _ _ _ _ _ _ _ _ _
   | exact ih1 _ _ _ _ _ _ _ _ _ _ _ _ _ _ _
   | exact ih2 _ _ _ _ _ _ _ _ _ _ _ _ _ _ _ _ _ _ _ _ _ _
   | exact determinant_Add.mono _ _ _ _ _ _ _ _ _ _ _
   | exact determinant_Cut.mono _ _ _ _
   | exact determinant_Discard.mono _ _ _ _
   | exact determinant_Has.mono _ _ _ _ _ _ _ _ _ _ _
   | exact rollbacknetlaw27_awake.mono _
   | exact rollbacknetmake_Codes_Dets.mono _ _ _ _
   | exact rollbacknetref27_Add.mono _ _ _ _ _ _ _ _ _ _ _
   | exact rollbacknetref27_Cut.mono _ _ _ _
   | exact rollbacknetref27_Discard.mono _ _ _ _
   | exact rollbacknetref27_Has.mono _ _ _ _ _ _ _ _ _ _ _
   | exact rollbacknetref27_Same.mono _ _ _
   | exact LeO.none _
   | refine LeO.ite ?_ ?_
   | refine LeO.bind ?_ (fun _ => ?_)
def rollbacknetlaw27_DeterminantLists.T9 : Bool × List (List Nat × List Nat) := (true, [([], []), ([], []), ([], []), ([2], [2]), ([1, 3], [1, 3]), ([0, 4], [0, 4]), ([5], [5]), ([], []), ([7, 4], [7]), ([], []), ([9, 8], [9]), ([6, 8, 10, 10], [6, 8, 10]), ([11, 11, 0, 1, 2, 3, 4, 5, 6, 7, 8, 9, 10, 11], [11])])
def rollbacknetlaw27_DeterminantLists.B9 : List Nat := [0, 0, 0, 4, 14, 31, 63, 0, 158, 0, 926, 2047, 4095]
theorem rollbacknetlaw27_DeterminantLists.tab9 : rtab .any (opsOf Try.f3 9) = rollbacknetlaw27_DeterminantLists.T9 := by kernel_rfl
theorem rollbacknetlaw27_DeterminantLists.bits9 : waitsOk rollbacknetlaw27_DeterminantLists.T9.2 rollbacknetlaw27_DeterminantLists.B9 = true := by kernel_rfl
def rollbacknetlaw27_DeterminantLists.T11 : Bool × List (List Nat × List Nat) := (true, [([], []), ([], []), ([0, 1], [0, 1]), ([], []), ([], []), ([3, 4, 2], [3, 4]), ([2, 5, 5], [2, 5]), ([6, 6], [6]), ([7], [7]), ([7], [7]), ([8, 9, 7, 7], [7, 8, 9]), ([7], [7]), ([7], [7]), ([11, 12, 10, 7], [7, 11, 12]), ([10, 13, 13, 7], [7, 10, 13]), ([7, 14], [7, 14]), ([15, 14], [15]), ([16], [16]), ([16], [16]), ([17, 18, 16, 16], [16, 17, 18]), ([16], [16]), ([16], [16]), ([20, 21, 19, 16], [16, 20, 21]), ([19, 22, 16], [16, 19, 22]), ([16, 23], [16, 23]), ([24, 22], [24]), ([25], [25]), ([25], [25]), ([26, 27, 25, 25], [25, 26, 27]), ([25], [25]), ([25], [25]), ([29, 30, 28, 25], [25, 29, 30]), ([28, 31, 25], [25, 28, 31]), ([25, 32], [25, 32]), ([33, 31], [33]), ([34], [34]), ([34], [34]), ([34], [34]), ([35, 36, 37, 34, 34], [34, 35, 36, 37]), ([34], [34]), ([34], [34]), ([34], [34]), ([39, 40, 41, 38, 34], [34, 39, 40, 41]), ([38, 42, 42, 34], [34, 38, 42]), ([34, 43], [34, 43]), ([44, 43], [44]), ([45], [45]), ([45], [45]), ([45], [45]), ([46, 47, 48, 45, 45], [45, 46, 47, 48]), ([45], [45]), ([45], [45]), ([45], [45]), ([50, 51, 52, 49, 45], [45, 50, 51, 52]), ([49, 53, 53, 45], [45, 49, 53]), ([45, 54], [45, 54]), ([55, 54], [55]), ([56], [56]), ([56], [56]), ([56], [56]), ([57, 58, 59, 56, 56], [56, 57, 58, 59]), ([56], [56]), ([56], [56]), ([56], [56]), ([61, 62, 63, 60, 56], [56, 61, 62, 63]), ([60, 64, 64, 56], [56, 60, 64]), ([56, 65], [56, 65]), ([66, 65], [66]), ([67], [67]), ([67], [67]), ([67], [67]), ([68, 69, 70, 67, 67], [67, 68, 69, 70]), ([67], [67]), ([67], [67]), ([67], [67]), ([72, 73, 74, 71, 67], [67, 72, 73, 74]), ([71, 75, 75, 67], [67, 71, 75]), ([67, 76], [67, 76]), ([77, 76, 0, 1, 2, 3, 4, 5, 6, 7, 8, 9, 10, 11, 12, 13, 14, 15, 16, 17, 18, 19, 20, 21, 22, 23, 24, 25, 26, 27, 28, 29, 30, 31, 32, 33, 34, 35, 36, 37, 38, 39, 40, 41, 42, 43, 44, 45, 46, 47, 48, 49, 50, 51, 52, 53, 54, 55, 56, 57, 58, 59, 60, 61, 62, 63, 64, 65, 66, 67, 68, 69, 70, 71, 72, 73, 74, 75, 76, 77], [77])])
def rollbacknetlaw27_DeterminantLists.B11 : List Nat := [0, 0, 3, 0, 0, 31, 63, 127, 255, 255, 1023, 255, 255, 8191, 16383, 32767, 65535, 131071, 131071, 524287, 131071, 131071, 4194303, 8388607, 16777215, 33554431, 67108863, 67108863, 268435455, 67108863, 67108863, 2147483647, 4294967295, 8589934591, 17179869183, 34359738367, 34359738367, 34359738367, 274877906943, 34359738367, 34359738367, 34359738367, 4398046511103, 8796093022207, 17592186044415, 35184372088831, 70368744177663, 70368744177663, 70368744177663, 562949953421311, 70368744177663, 70368744177663, 70368744177663, 9007199254740991, 18014398509481983, 36028797018963967, 72057594037927935, 144115188075855871, 144115188075855871, 144115188075855871, 1152921504606846975, 144115188075855871, 144115188075855871, 144115188075855871, 18446744073709551615, 36893488147419103231, 73786976294838206463, 147573952589676412927, 295147905179352825855, 295147905179352825855, 295147905179352825855, 2361183241434822606847, 295147905179352825855, 295147905179352825855, 295147905179352825855, 37778931862957161709567, 75557863725914323419135, 151115727451828646838271, 302231454903657293676543]
theorem rollbacknetlaw27_DeterminantLists.tab11 : rtab .any (opsOf Try.f3 11) = rollbacknetlaw27_DeterminantLists.T11 := by kernel_rfl
theorem rollbacknetlaw27_DeterminantLists.bits11 : waitsOk rollbacknetlaw27_DeterminantLists.T11.2 rollbacknetlaw27_DeterminantLists.B11 = true := by kernel_rfl
set_option maxHeartbeats 8000000 in
set_option maxRecDepth 100000 in
theorem rollbacknetlaw27_DeterminantLists.calls (k : Nat) (A0 : Option Addr) (c0 : Nat) (l0 : List (S28)) (a1_0 : Int) (a1_1 : Int) (a1_2 : Int) (a1_3 : Int) (a1_4 : Int) (a1_5 : Int) (a1_6 : Int) (a1_7 : Int) (a1_8 : Int) (A2 : Option Addr) (c2 : Nat) (l2 : List Int) (a3 : Int) (a4 : Int) (r : Bool) (w : World) (hr0 : Kd.C k28 w A0 l0.length l0) (hc0 : l0.length ≤ c0) (hr2 : Kd.C (Kd.int .u8) w A2 l2.length l2) (hc2 : l2.length ≤ c2) (h : rollbacknetlaw27_DeterminantLists.f k l0 a1_0 a1_1 a1_2 a1_3 a1_4 a1_5 a1_6 a1_7 a1_8 l2 a3 a4 = some r) :
  Calls Try.prog 3 #[.slice A0 l0.length c0, .agg #[.int .i64 a1_0, .int .i64 a1_1, .int .i64 a1_2, .int .i64 a1_3, .int .i64 a1_4, .int .i64 a1_5, .int .i64 a1_6, .int .i64 a1_7, .int .i64 a1_8], .slice A2 l2.length c2, .int .i64 a3, .int .i64 a4] w fun e w' => e = .returned (.bool r) ∧ Below w.heap.size w w' := by
 have hu28 := Try.underlying28
 have HR0 := Aside0.mk hr0
 have HC0 := Aside0.mk hc0
 clear hr0 hc0
 have HR2 := Aside0.mk hr2
 have HC2 := Aside0.mk hc2
 clear hr2 hc2
 have HB := Aside0.mk (Below.refl w.heap.size w)
 have H : ((rollbacknetlaw27_awake.f k).bind fun t367 => (if t367 = true then (rollbacknetlaw27_DeterminantLists.j0 k l0 l2 a3 a4 (decide ((l0.length : Int) > 60)) a1_0 a1_1 a1_2 a1_3 a1_4 a1_5 a1_6 a1_7 a1_8) else (rollbacknetlaw27_DeterminantLists.j0 k l0 l2 a3 a4 true a1_0 a1_1 a1_2 a1_3 a1_4 a1_5 a1_6 a1_7 a1_8))) = some r := h
 clear h
 have HC6 := Aside0.mk H
 clear H
 go_enter Try.func3, Try.ntmps3
 go_upto_region 1 with (first | ((with_reducible refine gate_dst (N := 6) rfl ?_); (try (refine gate_guard (by rfl) ?_; dsimp only)); refine box_event ?hg (N := 6) ?hd (cs := #[.int .i64 a1_0, .int .i64 a1_1, .int .i64 a1_2, .int .i64 a1_3, .int .i64 a1_4, .int .i64 a1_5, .int .i64 a1_6, .int .i64 a1_7, .int .i64 a1_8]) (t := 28) ?hr ?_; (case hd => rfl); (case hg => rfl); (case hr => first | (go_simp; done) | (go_simp; rfl)); intro gb366 hg w7 hbox hb; have n0_ := Aside0.mk (below_step (bq HB.out) hb); have n1_ := Aside0.mk (hbox); have n2_ := Aside0.mk ((by rw [hg]; exact (below_size (bq HB.out)) : w.heap.size ≤ gb366)); have n3_ := Aside0.mk ((by rw [hg]; exact (below_size (bq HB.out)) : w.heap.size ≤ gb366)); clear HB; have HB := n0_; have BK366 := n1_; have GW366 := n2_; have GE366 := n3_; clear n0_ n1_ n2_ n3_; clear hb hbox hg))
 (try simp only [Act.put, List.setIfInBounds_toArray, List.set_cons_zero, List.set_cons_succ])
 go_cut [22] (fun v22 wc => ∃ (kq : Nat) (x22_5 : Bool), v22 = .bool x22_5 ∧ Aside0 (rollbacknetlaw27_DeterminantLists.j0 kq l0 l2 a3 a4 x22_5 a1_0 a1_1 a1_2 a1_3 a1_4 a1_5 a1_6 a1_7 a1_8 = some r) ∧ Aside0 (kq ≤ k) ∧ Aside0 (wc.heap[gb366]? = some (.cells #[.int .i64 a1_0, .int .i64 a1_1, .int .i64 a1_2, .int .i64 a1_3, .int .i64 a1_4, .int .i64 a1_5, .int .i64 a1_6, .int .i64 a1_7, .int .i64 a1_8] 28 (0, 0))) ∧ Aside0 (Below w.heap.size w wc))
 case first =>(
 have H := HC6.out
 clear HC6
 obtain ⟨t367, A8, H⟩ := bnd H
 by_cases c9 : t367 = true
 ·(
 subst c9
 replace H := ifp H
 have H' := Aside0.mk H
 clear H
 go_wp2_with (first | ((with_reducible refine gate_callee (f := 4) rfl ?_); refine gl (some 16) Try.func4 #[] ?_; (with_reducible refine (rollbacknetlaw27_awake.calls k  true _ A8.out).mono ?_); rintro e w10 ⟨rfl, hb⟩; refine ⟨_, rfl, ?_⟩; have n0_ := Aside0.mk (bb BK366.out hb); have n1_ := Aside0.mk (below_step (bq1 HB.out GE366.out) hb); clear BK366; clear HB; have BK366 := n0_; have HB := n1_; clear n0_ n1_; (try clear hb); (try clear hb2); (try clear hk); (try clear hi)))
 go_meet
 case rel => exact ⟨_, (decide ((l0.length : Int) > 60)), (by first | rfl | (simp; done) | (simp [*]; done)), H', ⟨by first | omega | exact Nat.le_refl _⟩, ⟨kq BK366.out⟩, ⟨bq1 HB.out GE366.out⟩⟩)
 ·(
 replace c9 := Bool.eq_false_iff.mpr c9
 subst c9
 replace H := ifn H
 have H' := Aside0.mk H
 clear H
 go_wp2_with (first | ((with_reducible refine gate_callee (f := 4) rfl ?_); refine gl (some 16) Try.func4 #[] ?_; (with_reducible refine (rollbacknetlaw27_awake.calls k  false _ A8.out).mono ?_); rintro e w11 ⟨rfl, hb⟩; refine ⟨_, rfl, ?_⟩; have n0_ := Aside0.mk (bb BK366.out hb); have n1_ := Aside0.mk (below_step (bq1 HB.out GE366.out) hb); clear BK366; clear HB; have BK366 := n0_; have HB := n1_; clear n0_ n1_; (try clear hb); (try clear hb2); (try clear hk); (try clear hi)))
 go_meet
 case rel => exact ⟨_, (true), (by first | rfl | (simp; done) | (simp [*]; done)), H', ⟨by first | omega | exact Nat.le_refl _⟩, ⟨kq BK366.out⟩, ⟨bq1 HB.out GE366.out⟩⟩))
 case rest =>(
 clear HC6
 try clear c2
 try clear p2
 try clear c3
 try clear c4
 try clear c9
 obtain ⟨kq, x22_5, rfl, HA, HJ5, BK366, HB⟩ := hcut
 cases kq with
 | zero => exact absurd HA.out (by simp [rollbacknetlaw27_DeterminantLists.j0])
 | succ kj5 =>(
 have H := HA.out
 clear HA
 simp only [rollbacknetlaw27_DeterminantLists.j0] at H
 by_cases c12 : x22_5 = true
 ·(
 subst c12
 replace H := ifp H
 obtain rfl := Option.some.inj H
 go_wp2
 go_ret
 exact ⟨by first | rfl | (simp [errW_none, errW_some] <;> rfl) | (simp [*, errW_none, errW_some] <;> rfl), bq1 HB.out GE366.out⟩)
 ·(
 replace c12 := Bool.eq_false_iff.mpr c12
 subst c12
 replace H := ifn H
 obtain ⟨⟨t368, t369⟩, A13, H⟩ := bnd H
 try dsimp only at H
 obtain ⟨⟨t371, t374⟩, A14, H⟩ := bnd H
 try dsimp only at H
 obtain ⟨⟨t375, t378⟩, A15, H⟩ := bnd H
 try dsimp only at H
 by_cases c16 : t371.length + t375.length < 1954687338268
 ·(
 rw [if_pos c16] at H
 have LMc16 := Aside0.mk c16
 clear c16
 obtain ⟨y379, hy379⟩ : ∃ y_ : List (S28), y_ = (t371 ++ t375) := ⟨_, rfl⟩
 replace H : (if (y379.length : Int) > 0 then ((rollbacknetmake_Codes_Next.f t368 t378 (y379.length : Int)).bind fun bt382 => (if 0 ≤ bt382.1 then (if bt382.1 < (y379.length : Int) then (if y379.length < 1954687338268 then (rollbacknetlaw27_DeterminantLists.j1 kj5 l0 a3 a4 (y379 ++ [(⟨(rd_T28 y379 bt382.1).f0, (rd_T28 y379 bt382.1).f1, (⟨(rd_T28 y379 bt382.1).f2.f0, (rd_T28 y379 bt382.1).f2.f1, (rd_T28 y379 bt382.1).f2.f2, (⟨(rd_T28 y379 bt382.1).f2.f3.f0, (rd_T28 y379 bt382.1).f2.f3.f1⟩ : S24), (rd_T28 y379 bt382.1).f2.f4, (rd_T28 y379 bt382.1).f2.f5⟩ : S26)⟩ : S28)]) a1_0 a1_1 a1_2 a1_3 a1_4 a1_5 a1_6 a1_7 a1_8 t368 bt382.2) else (none)) else (none)) else (none))) else (rollbacknetlaw27_DeterminantLists.j1 kj5 l0 a3 a4 y379 a1_0 a1_1 a1_2 a1_3 a1_4 a1_5 a1_6 a1_7 a1_8 t368 t378)) = some r := by first | (rw [hy379]; with_reducible exact H) | (have H2_ := (Option.bind_some _ _).symm.trans H; rw [hy379]; with_reducible exact H2_) | (have H2_ := (Option.bind_some _ _).symm.trans H; with_reducible exact H2_) | with_reducible exact H | (rw [hy379]; exact H) | exact H
 have Ny379 := Aside0.mk hy379
 clear hy379
 have HC17 := Aside0.mk H
 clear H
 go_upto_if 35 with (first | ((with_reducible refine gate_callee (f := 5) rfl ?_); refine gl (some 27) Try.func5 #[.slice A2 l2.length c2, .int .i64 200] ?_; (with_reducible refine (rollbacknetmake_New.calls _ _ l2 200 t368 t369 w _ ?side1 ?side2 ?side3 A13.out).mono ?_); (case side1 => repeat (first | (with_reducible first | exact HB.out | apply below_alloc | apply pw_below_drewN | apply below_drew1 | refine below_set ?_ GE366.out) | exact HB.out)); (case side2 => exact HR2.out); (case side3 => exact HC2.out); rintro e w18 ⟨g370, rfl, hi, hb, hb2⟩; refine ⟨_, rfl, ?_⟩; have n0_ := Aside0.mk (blk_below (g := gb366) (o := .cells #[.int .i64 a1_0, .int .i64 a1_1, .int .i64 a1_2, .int .i64 a1_3, .int .i64 a1_4, .int .i64 a1_5, .int .i64 a1_6, .int .i64 a1_7, .int .i64 a1_8] 28 (0, 0)) (kq BK366.out) hb2); have n1_ := Aside0.mk (hb); have n2_ := Aside0.mk (hi); have n3_ := Aside0.mk (IsS48.ne_blk hi (blk_below (g := gb366) (o := .cells #[.int .i64 a1_0, .int .i64 a1_1, .int .i64 a1_2, .int .i64 a1_3, .int .i64 a1_4, .int .i64 a1_5, .int .i64 a1_6, .int .i64 a1_7, .int .i64 a1_8] 28 (0, 0)) (kq BK366.out) hb2) (by decide)); have n4_ := Aside0.mk (Ne.symm (IsS48.ne_blk hi (blk_below (g := gb366) (o := .cells #[.int .i64 a1_0, .int .i64 a1_1, .int .i64 a1_2, .int .i64 a1_3, .int .i64 a1_4, .int .i64 a1_5, .int .i64 a1_6, .int .i64 a1_7, .int .i64 a1_8] 28 (0, 0)) (kq BK366.out) hb2) (by decide))); clear BK366; clear HB; have BK366 := n0_; have HB := n1_; have HI370 := n2_; have NB370_366 := n3_; have NB366_370 := n4_; clear n0_ n1_ n2_ n3_ n4_; (try clear hb); (try clear hb2); (try clear hk); (try clear hi)) | ((with_reducible refine gate_callee (f := 6) rfl ?_); refine gl (some 29) Try.func6 #[.pointer (some ⟨g370, 0, none⟩), .int .i64 12] ?_; (with_reducible refine (rollbacknetmake_Codes_Dets.calls kj5 g370 t368 t369 12 t371 t374 w _ ?side1 ?side2 A14.out).mono ?_); (case side1 => repeat (first | (with_reducible first | exact HI370.out | apply IsS48.alloc | apply IsS48.drewN | apply IsS48.drew | apply IsS48.set_1 | refine IsS48.far ?_ NB370_366.out _) | exact HI370.out)); (case side2 => repeat (first | (with_reducible first | exact HB.out | apply below_alloc | apply pw_below_drewN | apply below_drew1 | refine below_set ?_ (IsS48.ge HI370.out) | refine below_set ?_ GE366.out) | exact HB.out)); rintro e w19 ⟨v372, rfl, ho0, hi, hb, hk⟩; refine ⟨_, rfl, ?_⟩; have n0_ := Aside0.mk (KeepBut.blk hk (g' := gb366) (o := .cells #[.int .i64 a1_0, .int .i64 a1_1, .int .i64 a1_2, .int .i64 a1_3, .int .i64 a1_4, .int .i64 a1_5, .int .i64 a1_6, .int .i64 a1_7, .int .i64 a1_8] 28 (0, 0)) (kq BK366.out) NB366_370.out (by simp)); have n1_ := Aside0.mk (Kd.R_lower (rnb ho0 BK366.out) (below_size (bq2 HB.out (IsS48.ge HI370.out) GE366.out))); have n2_ := Aside0.mk (hb); have n3_ := Aside0.mk (hi); clear BK366; clear HB; clear HI370; have BK366 := n0_; have HO373 := n1_; have HB := n2_; have HI370 := n3_; clear n0_ n1_ n2_ n3_; (try clear hb); (try clear hb2); (try clear hk); (try clear hi); (try clear ho0)) | ((with_reducible refine gate_callee (f := 6) rfl ?_); refine gl (some 31) Try.func6 #[.pointer (some ⟨g370, 0, none⟩), .int .i64 6] ?_; (with_reducible refine (rollbacknetmake_Codes_Dets.calls kj5 g370 t368 t374 6 t375 t378 w _ ?side1 ?side2 A15.out).mono ?_); (case side1 => repeat (first | (with_reducible first | exact HI370.out | apply IsS48.alloc | apply IsS48.drewN | apply IsS48.drew | apply IsS48.set_1 | refine IsS48.far ?_ NB370_366.out _) | exact HI370.out)); (case side2 => repeat (first | (with_reducible first | exact HB.out | apply below_alloc | apply pw_below_drewN | apply below_drew1 | refine below_set ?_ (IsS48.ge HI370.out) | refine below_set ?_ GE366.out) | exact HB.out)); rintro e w20 ⟨v376, rfl, ho0, hi, hb, hk⟩; refine ⟨_, rfl, ?_⟩; have n0_ := Aside0.mk (KeepBut.blk hk (g' := gb366) (o := .cells #[.int .i64 a1_0, .int .i64 a1_1, .int .i64 a1_2, .int .i64 a1_3, .int .i64 a1_4, .int .i64 a1_5, .int .i64 a1_6, .int .i64 a1_7, .int .i64 a1_8] 28 (0, 0)) (kq BK366.out) NB366_370.out (by simp)); have n1_ := Aside0.mk (Kd.R_mono (Kd.R_told (Kd.R_oldK (IsS48.apart (show IsS48 w _ g370 t368 t374 from by repeat (first | (with_reducible first | exact HI370.out | apply IsS48.alloc | apply IsS48.drewN | apply IsS48.drew | apply IsS48.set_1 | refine IsS48.far ?_ NB370_366.out _) | exact HI370.out)) (rq HO373.out) (by decide)) hk) (Kd.R_base ho0)) (fun _ h_ => h_.1)); have n2_ := Aside0.mk (Kd.R_lower (rnb (Kd.R_new' ho0 (Kd.R_lt (rq HO373.out))) BK366.out) (below_size (bq2 HB.out (IsS48.ge HI370.out) GE366.out))); have n3_ := Aside0.mk (hb); have n4_ := Aside0.mk (hi); clear BK366; clear HO373; clear HB; clear HI370; have BK366 := n0_; have HO373 := n1_; have HO377 := n2_; have HB := n3_; have HI370 := n4_; clear n0_ n1_ n2_ n3_ n4_; (try clear hb); (try clear hb2); (try clear hk); (try clear hi); (try clear ho0); obtain ⟨Ao22, co22, eo22⟩ := Kd.R_slice HO377.out; subst eo22) | ((with_reducible refine gate_builtin (b := .append) (xs := #[.tmp 29, .tmp 31]) rfl ?_); (try (refine gate_guard (by rfl) ?_; dsimp only)); at_builtin; refine Kd.R_append_rows k28 (w0 := w) w.heap.size rfl (.tmp 29) (.tmp 31) 22 28 (.agg #[(.int .i64 0), (.int .i64 0), (.int .i64 0), (.int .i64 0), (.int .i64 0), (.int .i64 0), (.int .i64 0), (.int .i64 0), (.int .i64 0)]) 72 rfl Try.underlying22 info28 rfl (by decide) (by omega) v372 t371 t375 _ _ _ (fun k_ => some k_ ≠ (.slice Ao22 t375.length co22 : Value).ownBlock ∧ k_ ≠ gb366) (fun _ => False) rfl rfl ?aO ?aR (fun _ _ h => h) (fun _ h => h.elim) ?aF ?aB ?aS ?aL ?_; (case aR => repeat (first | exact (Kd.R_reads' HO377.out).2.2 | (with_reducible refine Kd.C_alloc ?_ _) | (with_reducible refine Kd.C_drewN ?_ _) | (with_reducible refine Kd.C_drew ?_))); (case aB => exact (bq2 HB.out (IsS48.ge HI370.out) GE366.out)); (case aF => exact (fun k_ hk => ⟨Kd.fresh' (Kd.R_lt (rq HO377.out)) k_ hk, Kd.freshB (g := gb366) (o := .cells #[.int .i64 a1_0, .int .i64 a1_1, .int .i64 a1_2, .int .i64 a1_3, .int .i64 a1_4, .int .i64 a1_5, .int .i64 a1_6, .int .i64 a1_7, .int .i64 a1_8] 28 (0, 0)) (kq BK366.out) k_ hk⟩)); (case aO => exact (by (with_reducible repeat (first | apply Kd.R_alloc | apply Kd.R_drewN | apply Kd.R_drew)); exact Kd.R_mono HO373.out (fun _ hk => ⟨hk.2, hk.1.2⟩))); (case aS => exact (below_size (bq2 HB.out (IsS48.ge HI370.out) GE366.out))); (case aL => have := LMc16.out; omega); intro v380 w21 ho hb hg hat; rw [← Ny379.out] at ho; have n0_ := Aside0.mk (blk_grown (g := gb366) (o := .cells #[.int .i64 a1_0, .int .i64 a1_1, .int .i64 a1_2, .int .i64 a1_3, .int .i64 a1_4, .int .i64 a1_5, .int .i64 a1_6, .int .i64 a1_7, .int .i64 a1_8] 28 (0, 0)) (kq BK366.out) hg (Kd.R_away HO373.out (fun _ hk => hk.1.2))); have n1_ := Aside0.mk (IsS48.grown (by repeat (first | (with_reducible first | exact HI370.out | apply IsS48.alloc | apply IsS48.drewN | apply IsS48.drew | apply IsS48.set_1 | refine IsS48.far ?_ NB370_366.out _) | exact HI370.out)) hg (IsS48.own_ne HI370.out HO373.out (by decide))); have n2_ := Aside0.mk (Kd.R_after (ok := (fun k_ => k_ ≠ gb366)) (by (with_reducible repeat (first | apply Kd.R_alloc | apply Kd.R_drewN | apply Kd.R_drew)); exact Kd.R_mono HO377.out (fun _ hk => ⟨hk.2, hk.1.2⟩)) hg hat); have n3_ := Aside0.mk (hb); have n4_ := Aside0.mk (ho); clear BK366; clear HI370; clear HO377; clear HB; clear HO373; have BK366 := n0_; have HI370 := n1_; have HO377 := n2_; have HB := n3_; have HO381 := n4_; clear n0_ n1_ n2_ n3_ n4_; clear ho hb hg hat; obtain ⟨Ao23, co23, eo23⟩ := Kd.R_slice HO381.out; subst eo23))
 (try simp only [Act.put, List.setIfInBounds_toArray, List.set_cons_zero, List.set_cons_succ])
 go_cut [12] (fun v12 wc => ∃ (kq : Nat) (x12_16 : List (S28)) (x371001_16 : Int), Aside0 (rollbacknetlaw27_DeterminantLists.j1 kq l0 a3 a4 x12_16 a1_0 a1_1 a1_2 a1_3 a1_4 a1_5 a1_6 a1_7 a1_8 t368 x371001_16 = some r) ∧ Aside0 (kq ≤ kj5) ∧ Aside0 (Kd.R k28 28 wc w.heap.size (fun k_ => k_ ≠ gb366) v12 x12_16) ∧ Aside0 (wc.heap[gb366]? = some (.cells #[.int .i64 a1_0, .int .i64 a1_1, .int .i64 a1_2, .int .i64 a1_3, .int .i64 a1_4, .int .i64 a1_5, .int .i64 a1_6, .int .i64 a1_7, .int .i64 a1_8] 28 (0, 0))) ∧ Aside0 (IsS48 w wc g370 t368 x371001_16) ∧ Aside0 (Below w.heap.size w wc))
 case first =>(
 have H := HC17.out
 clear HC17
 by_cases c24 : (y379.length : Int) > 0
 ·(
 rw [if_pos c24] at H
 have c24b0 : decide (0 < (y379.length : Int)) = true := decide_eq_true c24
 have c24b1 : decide (0 < y379.length) = true := decide_eq_true (by omega)
 have c24b2 : 0 < y379.length := of_decide_eq_true c24b1
 clear c24
 (first | rw [c24b0] | (simp only [i64_w, i32_w]; rw [c24b0]) | skip)
 obtain ⟨⟨t382, t383⟩, A25, H⟩ := bnd H
 try dsimp only at H
 by_cases c26 : 0 ≤ t382
 ·(
 rw [if_pos c26] at H
 have c26b0 : decide (0 ≤ t382) = true := decide_eq_true c26
 clear c26
 by_cases c27 : t382 < (y379.length : Int)
 ·(
 rw [if_pos c27] at H
 have c27b0 : decide (t382 < (y379.length : Int)) = true := decide_eq_true c27
 clear c27
 by_cases c28 : y379.length < 1954687338268
 ·(
 rw [if_pos c28] at H
 have LMc28 := Aside0.mk c28
 clear c28
 obtain ⟨y385, hy385⟩ : ∃ y_ : List (S28), y_ = (y379 ++ [(⟨(rd_T28 y379 t382).f0, (rd_T28 y379 t382).f1, (⟨(rd_T28 y379 t382).f2.f0, (rd_T28 y379 t382).f2.f1, (rd_T28 y379 t382).f2.f2, (⟨(rd_T28 y379 t382).f2.f3.f0, (rd_T28 y379 t382).f2.f3.f1⟩ : S24), (rd_T28 y379 t382).f2.f4, (rd_T28 y379 t382).f2.f5⟩ : S26)⟩ : S28)]) := ⟨_, rfl⟩
 replace H : (rollbacknetlaw27_DeterminantLists.j1 kj5 l0 a3 a4 y385 a1_0 a1_1 a1_2 a1_3 a1_4 a1_5 a1_6 a1_7 a1_8 t368 t383) = some r := by first | (rw [hy385]; with_reducible exact H) | (have H2_ := (Option.bind_some _ _).symm.trans H; rw [hy385]; with_reducible exact H2_) | (have H2_ := (Option.bind_some _ _).symm.trans H; with_reducible exact H2_) | with_reducible exact H | (rw [hy385]; exact H) | exact H
 have Ny385 := Aside0.mk hy385
 clear hy385
 have H' := Aside0.mk H
 clear H
 go_wp2_with (first | ((with_reducible refine gate_callee (f := 7) rfl ?_); refine gl (some 41) Try.func7 #[.pointer (some ⟨g370, 0, none⟩), .int .i64 (y379.length : Int)] ?_; (with_reducible refine (rollbacknetmake_Codes_Next.calls g370 t368 t378 (y379.length : Int) t382 t383 w _ ?side1 ?side2 A25.out).mono ?_); (case side1 => repeat (first | (with_reducible first | exact HI370.out | apply IsS48.alloc | apply IsS48.drewN | apply IsS48.drew | apply IsS48.set_1 | refine IsS48.far ?_ NB370_366.out _) | exact HI370.out)); (case side2 => repeat (first | (with_reducible first | exact HB.out | apply below_alloc | apply pw_below_drewN | apply below_drew1 | refine below_set ?_ (IsS48.ge HI370.out) | refine below_set ?_ GE366.out) | exact HB.out)); rintro e w29 ⟨rfl, hi, hb, hk⟩; refine ⟨_, rfl, ?_⟩; have n0_ := Aside0.mk (KeepBut.blk hk (g' := gb366) (o := .cells #[.int .i64 a1_0, .int .i64 a1_1, .int .i64 a1_2, .int .i64 a1_3, .int .i64 a1_4, .int .i64 a1_5, .int .i64 a1_6, .int .i64 a1_7, .int .i64 a1_8] 28 (0, 0)) (kq BK366.out) NB366_370.out (by simp)); have n1_ := Aside0.mk (Kd.R_mono (Kd.R_keep (IsS48.apart (show IsS48 w _ g370 t368 t378 from by repeat (first | (with_reducible first | exact HI370.out | apply IsS48.alloc | apply IsS48.drewN | apply IsS48.drew | apply IsS48.set_1 | refine IsS48.far ?_ NB370_366.out _) | exact HI370.out)) (rq HO377.out) (by decide)) hk (fun _ h => h.2)) (fun _ h => h.1)); have n2_ := Aside0.mk (Kd.R_mono (Kd.R_keep (IsS48.apart (show IsS48 w _ g370 t368 t378 from by repeat (first | (with_reducible first | exact HI370.out | apply IsS48.alloc | apply IsS48.drewN | apply IsS48.drew | apply IsS48.set_1 | refine IsS48.far ?_ NB370_366.out _) | exact HI370.out)) (rq HO381.out) (by decide)) hk (fun _ h => h.2)) (fun _ h => h.1)); have n3_ := Aside0.mk (hb); have n4_ := Aside0.mk (hi); clear BK366; clear HO377; clear HO381; clear HB; clear HI370; have BK366 := n0_; have HO377 := n1_; have HO381 := n2_; have HB := n3_; have HI370 := n4_; clear n0_ n1_ n2_ n3_ n4_; (try clear hb); (try clear hb2); (try clear hk); (try clear hi); have p384 : 0 ≤ (t382 : Int) := of_decide_eq_true (by first | (with_reducible assumption) | assumption); have q384 : t382 < (y379.length : Int) := of_decide_eq_true (by first | (with_reducible assumption) | assumption); obtain ⟨ad384, e384, hx384_0, hx384_1, hx384_2, hx384_3, hx384_4, hx384_5, hx384_6, hx384_7, hx384_8⟩ := at_T28 (Kd.R_reads' HO381.out).2.2 t382 p384 q384; cases e384; replace p384 := eq_true p384; replace q384 := eq_true q384) | ((with_reducible refine gate_builtin (b := .append) (xs := #[.tmp 36, .tmp 44]) rfl ?_); (try (refine gate_guard (by rfl) ?_; dsimp only)); at_builtin; refine Kd.R_append k28 (w0 := w) w.heap.size rfl (.tmp 36) (.tmp 44) 22 28 (.agg #[(.int .i64 0), (.int .i64 0), (.int .i64 0), (.int .i64 0), (.int .i64 0), (.int .i64 0), (.int .i64 0), (.int .i64 0), (.int .i64 0)]) 72 rfl Try.underlying22 info28 rfl (by decide) (by omega) (.slice (some ad384) y379.length co23) y379 (⟨(rd_T28 y379 t382).f0, (rd_T28 y379 t382).f1, (⟨(rd_T28 y379 t382).f2.f0, (rd_T28 y379 t382).f2.f1, (rd_T28 y379 t382).f2.f2, (⟨(rd_T28 y379 t382).f2.f3.f0, (rd_T28 y379 t382).f2.f3.f1⟩ : S24), (rd_T28 y379 t382).f2.f4, (rd_T28 y379 t382).f2.f5⟩ : S26)⟩ : S28) [.int .i64 ((rd_T28 y379 t382).f0), .int .i64 ((rd_T28 y379 t382).f1), .int .i64 ((rd_T28 y379 t382).f2.f0), .int .i64 ((rd_T28 y379 t382).f2.f1), .int .i64 ((rd_T28 y379 t382).f2.f2), .int .i64 ((rd_T28 y379 t382).f2.f3.f0), .int .i64 ((rd_T28 y379 t382).f2.f3.f1), .int .i64 ((rd_T28 y379 t382).f2.f4), .int .i64 ((rd_T28 y379 t382).f2.f5)] (fun k_ => some k_ ≠ (.slice Ao22 t375.length co22 : Value).ownBlock ∧ k_ ≠ gb366) (fun _ => False) rfl rfl ?aP (fun _ hk => hk.elim) ?aF ?aO ?aB ?aS ?aL ?_; (case aP => exact k28_mkM _ _ _ (⟨(rd_T28 y379 t382).f0, (rd_T28 y379 t382).f1, (⟨(rd_T28 y379 t382).f2.f0, (rd_T28 y379 t382).f2.f1, (rd_T28 y379 t382).f2.f2, (⟨(rd_T28 y379 t382).f2.f3.f0, (rd_T28 y379 t382).f2.f3.f1⟩ : S24), (rd_T28 y379 t382).f2.f4, (rd_T28 y379 t382).f2.f5⟩ : S26)⟩ : S28)); (case aB => exact (bq2 HB.out (IsS48.ge HI370.out) GE366.out)); (case aF => exact (fun k_ hk => ⟨Kd.fresh' (Kd.R_lt (rq HO377.out)) k_ hk, Kd.freshB (g := gb366) (o := .cells #[.int .i64 a1_0, .int .i64 a1_1, .int .i64 a1_2, .int .i64 a1_3, .int .i64 a1_4, .int .i64 a1_5, .int .i64 a1_6, .int .i64 a1_7, .int .i64 a1_8] 28 (0, 0)) (kq BK366.out) k_ hk⟩)); (case aO => exact (rq HO381.out)); (case aS => exact (below_size (bq2 HB.out (IsS48.ge HI370.out) GE366.out))); (case aL => have := LMc28.out; omega); intro v386 w30 ho hb hg hat; rw [← Ny385.out] at ho; have n0_ := Aside0.mk (blk_grown (g := gb366) (o := .cells #[.int .i64 a1_0, .int .i64 a1_1, .int .i64 a1_2, .int .i64 a1_3, .int .i64 a1_4, .int .i64 a1_5, .int .i64 a1_6, .int .i64 a1_7, .int .i64 a1_8] 28 (0, 0)) (kq BK366.out) hg (Kd.R_away HO381.out (fun _ hk => hk.2))); have n1_ := Aside0.mk (IsS48.grown (by repeat (first | (with_reducible first | exact HI370.out | apply IsS48.alloc | apply IsS48.drewN | apply IsS48.drew | apply IsS48.set_1 | refine IsS48.far ?_ NB370_366.out _) | exact HI370.out)) hg (IsS48.own_ne HI370.out HO381.out (by decide))); have n2_ := Aside0.mk (Kd.R_after (ok := (fun k_ => k_ ≠ gb366)) (rq HO377.out) hg hat); have n3_ := Aside0.mk (hb); have n4_ := Aside0.mk (ho); clear BK366; clear HI370; clear HO377; clear HB; clear HO381; have BK366 := n0_; have HI370 := n1_; have HO377 := n2_; have HB := n3_; have HO387 := n4_; clear n0_ n1_ n2_ n3_ n4_; clear ho hb hg hat))
 go_meet
 case rel => exact ⟨_, (y385), (t383), H', ⟨by have := HJ5.out; first | omega | exact Nat.le_refl _⟩, ⟨by (with_reducible repeat (first | apply Kd.R_alloc | apply Kd.R_drewN | apply Kd.R_drew)); exact Kd.R_mono HO387.out (fun _ hk => hk.2)⟩, ⟨kq BK366.out⟩, ⟨by repeat (first | (with_reducible first | exact HI370.out | apply IsS48.alloc | apply IsS48.drewN | apply IsS48.drew | apply IsS48.set_1 | refine IsS48.far ?_ NB370_366.out _) | exact HI370.out)⟩, ⟨bq2 HB.out (IsS48.ge HI370.out) GE366.out⟩⟩)
 ·(
 rw [if_neg c28] at H
 exact absurd H (by simp)))
 ·(
 rw [if_neg c27] at H
 exact absurd H (by simp)))
 ·(
 rw [if_neg c26] at H
 exact absurd H (by simp)))
 ·(
 rw [if_neg c24] at H
 have c24b0 : decide (0 < (y379.length : Int)) = false := decide_eq_false c24
 have c24b1 : decide (0 < y379.length) = false := decide_eq_false (by omega)
 have c24b2 : ¬ 0 < y379.length := of_decide_eq_false c24b1
 clear c24
 (first | rw [c24b0] | (simp only [i64_w, i32_w]; rw [c24b0]) | skip)
 have H' := Aside0.mk H
 clear H
 go_wp2
 go_meet
 case rel => exact ⟨_, (y379), (t378), H', ⟨by have := HJ5.out; first | omega | exact Nat.le_refl _⟩, ⟨by (with_reducible repeat (first | apply Kd.R_alloc | apply Kd.R_drewN | apply Kd.R_drew)); exact Kd.R_mono HO381.out (fun _ hk => hk.2)⟩, ⟨kq BK366.out⟩, ⟨by repeat (first | (with_reducible first | exact HI370.out | apply IsS48.alloc | apply IsS48.drewN | apply IsS48.drew | apply IsS48.set_1 | refine IsS48.far ?_ NB370_366.out _) | exact HI370.out)⟩, ⟨bq2 HB.out (IsS48.ge HI370.out) GE366.out⟩⟩))
 case rest =>(
 clear HC17
 try clear c1
 try clear c2
 try clear p2
 try clear c3
 try clear p3
 try clear q3
 try clear hx3
 try clear c4
 try clear c5
 try clear c6
 try clear c7
 try clear c9
 try clear c12
 try clear c16
 try clear c24
 try clear c24b0
 try clear c24b1
 try clear c26
 try clear c26b0
 try clear c27
 try clear c27b0
 try clear c28
 try clear hx384_0
 try clear hx384_1
 try clear hx384_2
 try clear hx384_3
 try clear hx384_4
 try clear hx384_5
 try clear hx384_6
 try clear hx384_7
 try clear hx384_8
 try clear p2
 try clear p384
 try clear q384
 obtain ⟨kq, x12_16, x371001_16, HA, HJ16, HO_12, BK366, HI370, HB⟩ := hcut
 cases kq with
 | zero => exact absurd HA.out (by simp [rollbacknetlaw27_DeterminantLists.j1])
 | succ kj16 =>(
 have H := HA.out
 clear HA
 simp only [rollbacknetlaw27_DeterminantLists.j1] at H
 have HC31 := Aside0.mk H
 clear H
 have hnb32 := NB366_370.out
 have hnc32 := NB370_366.out
 have hcz33_0 : wc.cell? ⟨gb366, 0, none⟩ = some (.int .i64 a1_0) := bc BK366.out 0
 have hcz33_1 : wc.cell? ⟨gb366, 1, none⟩ = some (.int .i64 a1_1) := bc BK366.out 1
 have hcz33_2 : wc.cell? ⟨gb366, 2, none⟩ = some (.int .i64 a1_2) := bc BK366.out 2
 have hcz33_3 : wc.cell? ⟨gb366, 3, none⟩ = some (.int .i64 a1_3) := bc BK366.out 3
 have hcz33_4 : wc.cell? ⟨gb366, 4, none⟩ = some (.int .i64 a1_4) := bc BK366.out 4
 have hcz33_5 : wc.cell? ⟨gb366, 5, none⟩ = some (.int .i64 a1_5) := bc BK366.out 5
 have hcz33_6 : wc.cell? ⟨gb366, 6, none⟩ = some (.int .i64 a1_6) := bc BK366.out 6
 have hcz33_7 : wc.cell? ⟨gb366, 7, none⟩ = some (.int .i64 a1_7) := bc BK366.out 7
 have hcz33_8 : wc.cell? ⟨gb366, 8, none⟩ = some (.int .i64 a1_8) := bc BK366.out 8
 have hfz33_0 := blk_frozen BK366.out 0
 have hfz33_1 := blk_frozen BK366.out 1
 have hfz33_2 := blk_frozen BK366.out 2
 have hfz33_3 := blk_frozen BK366.out 3
 have hfz33_4 := blk_frozen BK366.out 4
 have hfz33_5 := blk_frozen BK366.out 5
 have hfz33_6 := blk_frozen BK366.out 6
 have hfz33_7 := blk_frozen BK366.out 7
 have hfz33_8 := blk_frozen BK366.out 8
 go_upto_if 49 with (first | ((with_reducible refine gate_dst (N := 13) rfl ?_); (try (refine gate_guard (by rfl) ?_; dsimp only)); refine box_event ?hg (N := 13) ?hd (cs := #[.int .i64 0, .int .i64 0, .int .i64 0, .int .i64 0, .int .i64 0, .int .i64 0, .int .i64 0, .int .i64 0, .int .i64 0]) (t := 28) ?hr ?_; (case hd => rfl); (case hg => rfl); (case hr => first | (go_simp; done) | (go_simp; rfl)); intro gb388 hg w34 hbox hb; have n0_ := Aside0.mk (Kd.R_below (Kd.R_elderB (rq HO_12.out) gb388 (Nat.le_of_eq hg.symm)) hb); have n1_ := Aside0.mk (bb BK366.out hb); have n2_ := Aside0.mk (IsS48.below (by repeat (first | (with_reducible first | exact HI370.out | apply IsS48.alloc | apply IsS48.drewN | apply IsS48.drew | apply IsS48.set_1 | refine IsS48.far ?_ NB370_366.out _) | exact HI370.out)) hb); have n3_ := Aside0.mk (below_step (bq2 HB.out (IsS48.ge HI370.out) GE366.out) hb); have n4_ := Aside0.mk (hbox); have n5_ := Aside0.mk ((by rw [hg]; exact (below_size (bq2 HB.out (IsS48.ge HI370.out) GE366.out)) : w.heap.size ≤ gb388)); have n6_ := Aside0.mk ((by rw [hg]; exact (below_size (bq2 HB.out (IsS48.ge HI370.out) GE366.out)) : w.heap.size ≤ gb388)); have n7_ := Aside0.mk ((nlt hg BK366.out : gb366 ≠ gb388)); have n8_ := Aside0.mk ((by rw [hg]; exact Nat.ne_of_gt (blk_lt (g := gb366) (o := .cells #[.int .i64 a1_0, .int .i64 a1_1, .int .i64 a1_2, .int .i64 a1_3, .int .i64 a1_4, .int .i64 a1_5, .int .i64 a1_6, .int .i64 a1_7, .int .i64 a1_8] 28 (0, 0)) (kq BK366.out)) : gb388 ≠ gb366)); have n9_ := Aside0.mk ((by rw [hg]; exact Nat.ne_of_lt (IsS48.lt (show IsS48 w _ g370 t368 x371001_16 from by repeat (first | (with_reducible first | exact HI370.out | apply IsS48.alloc | apply IsS48.drewN | apply IsS48.drew | apply IsS48.set_1 | refine IsS48.far ?_ NB370_366.out _) | exact HI370.out))) : g370 ≠ gb388)); have n10_ := Aside0.mk ((by rw [hg]; exact Nat.ne_of_gt (IsS48.lt (show IsS48 w _ g370 t368 x371001_16 from by repeat (first | (with_reducible first | exact HI370.out | apply IsS48.alloc | apply IsS48.drewN | apply IsS48.drew | apply IsS48.set_1 | refine IsS48.far ?_ NB370_366.out _) | exact HI370.out))) : gb388 ≠ g370)); clear HO_12; clear BK366; clear HI370; clear HB; have HO_12 := n0_; have BK366 := n1_; have HI370 := n2_; have HB := n3_; have BK388 := n4_; have GW388 := n5_; have GE388 := n6_; have NB366_388 := n7_; have NB388_366 := n8_; have NB370_388 := n9_; have NB388_370 := n10_; clear n0_ n1_ n2_ n3_ n4_ n5_ n6_ n7_ n8_ n9_ n10_; clear hb hbox hg; have hnb35 := NB388_366.out; have hnc35 := NB366_388.out; have hnb36 := NB388_370.out; have hnc36 := NB370_388.out; have hcz37_0 : w34.cell? ⟨gb388, 0, none⟩ = some (.int .i64 0) := bc BK388.out 0; have hcz37_1 : w34.cell? ⟨gb388, 1, none⟩ = some (.int .i64 0) := bc BK388.out 1; have hcz37_2 : w34.cell? ⟨gb388, 2, none⟩ = some (.int .i64 0) := bc BK388.out 2; have hcz37_3 : w34.cell? ⟨gb388, 3, none⟩ = some (.int .i64 0) := bc BK388.out 3; have hcz37_4 : w34.cell? ⟨gb388, 4, none⟩ = some (.int .i64 0) := bc BK388.out 4; have hcz37_5 : w34.cell? ⟨gb388, 5, none⟩ = some (.int .i64 0) := bc BK388.out 5; have hcz37_6 : w34.cell? ⟨gb388, 6, none⟩ = some (.int .i64 0) := bc BK388.out 6; have hcz37_7 : w34.cell? ⟨gb388, 7, none⟩ = some (.int .i64 0) := bc BK388.out 7; have hcz37_8 : w34.cell? ⟨gb388, 8, none⟩ = some (.int .i64 0) := bc BK388.out 8; have hfz37_0 := blk_frozen BK388.out 0; have hfz37_1 := blk_frozen BK388.out 1; have hfz37_2 := blk_frozen BK388.out 2; have hfz37_3 := blk_frozen BK388.out 3; have hfz37_4 := blk_frozen BK388.out 4; have hfz37_5 := blk_frozen BK388.out 5; have hfz37_6 := blk_frozen BK388.out 6; have hfz37_7 := blk_frozen BK388.out 7; have hfz37_8 := blk_frozen BK388.out 8; obtain ⟨Ao38, co38, eo38⟩ := Kd.R_slice HO_12.out; subst eo38))
 (try simp only [Act.put, List.setIfInBounds_toArray, List.set_cons_zero, List.set_cons_succ])
 go_cut [] (fun wc => ∃ (kq : Nat) (x389000_30 : Int) (x389001_30 : Int) (x389002_30 : Int) (x389003_30 : Int) (x389004_30 : Int) (x389005_30 : Int) (x389006_30 : Int) (x389007_30 : Int) (x389008_30 : Int), Aside0 (rollbacknetlaw27_DeterminantLists.j2 kq l0 a3 a4 x12_16 a1_0 a1_1 a1_2 a1_3 a1_4 a1_5 a1_6 a1_7 a1_8 x389000_30 x389001_30 x389002_30 x389003_30 x389004_30 x389005_30 x389006_30 x389007_30 x389008_30 = some r) ∧ Aside0 (kq ≤ kj16) ∧ Aside0 (Kd.R k28 28 wc w.heap.size (fun k_ => k_ ≠ gb366 ∧ k_ ≠ gb388) (.slice Ao38 x12_16.length co38) x12_16) ∧ Aside0 (wc.heap[gb366]? = some (.cells #[.int .i64 a1_0, .int .i64 a1_1, .int .i64 a1_2, .int .i64 a1_3, .int .i64 a1_4, .int .i64 a1_5, .int .i64 a1_6, .int .i64 a1_7, .int .i64 a1_8] 28 (0, 0))) ∧ Aside0 (wc.heap[gb388]? = some (.cells #[.int .i64 x389000_30, .int .i64 x389001_30, .int .i64 x389002_30, .int .i64 x389003_30, .int .i64 x389004_30, .int .i64 x389005_30, .int .i64 x389006_30, .int .i64 x389007_30, .int .i64 x389008_30] 28 (0, 0))) ∧ Aside0 (Below w.heap.size w wc))
 case first =>(
 have H := HC31.out
 clear HC31
 by_cases c39 : (x12_16.length : Int) > 0
 ·(
 rw [if_pos c39] at H
 have c39b0 : decide (0 < (x12_16.length : Int)) = true := decide_eq_true c39
 have c39b1 : decide (0 < x12_16.length) = true := decide_eq_true (by omega)
 have c39b2 : 0 < x12_16.length := of_decide_eq_true c39b1
 clear c39
 (first | rw [c39b0] | (simp only [i64_w, i32_w]; rw [c39b0]) | skip)
 obtain ⟨⟨t389, t390⟩, A40, H⟩ := bnd H
 try dsimp only at H
 by_cases c41 : 0 ≤ t389
 ·(
 rw [if_pos c41] at H
 have c41b0 : decide (0 ≤ t389) = true := decide_eq_true c41
 clear c41
 by_cases c42 : t389 < (x12_16.length : Int)
 ·(
 rw [if_pos c42] at H
 have c42b0 : decide (t389 < (x12_16.length : Int)) = true := decide_eq_true c42
 clear c42
 obtain ⟨⟨t392, t393⟩, A43, H⟩ := bnd H
 try dsimp only at H
 obtain ⟨⟨t394, t395⟩, A44, H⟩ := bnd H
 try dsimp only at H
 obtain ⟨⟨t396, t397, t398, t399, t400, t401, t402, t403, t404⟩, A45, H⟩ := bnd H
 try dsimp only at H
 have H' := Aside0.mk H
 clear H
 try go_wp2
 have n0_ : Aside0 (Kd.R k28 28 (((((((((w34.setCell ⟨gb388, 0, none⟩ (.int .i64 a1_0)).setCell ⟨gb388, 1, none⟩ (.int .i64 a1_1)).setCell ⟨gb388, 2, none⟩ (.int .i64 a1_2)).setCell ⟨gb388, 3, none⟩ (.int .i64 a1_3)).setCell ⟨gb388, 4, none⟩ (.int .i64 a1_4)).setCell ⟨gb388, 5, none⟩ (.int .i64 a1_5)).setCell ⟨gb388, 6, none⟩ (.int .i64 a1_6)).setCell ⟨gb388, 7, none⟩ (.int .i64 a1_7)).setCell ⟨gb388, 8, none⟩ (.int .i64 a1_8)) w.heap.size (fun k_ => k_ ≠ gb366 ∧ k_ ≠ gb388) (.slice Ao38 x12_16.length co38) x12_16) := ⟨by (with_reducible repeat (first | apply Kd.R_alloc | apply Kd.R_drewN | apply Kd.R_drew)); exact Kd.R_mono (Kd.R_far (p := ⟨gb388, 8, none⟩) (Kd.R_far (p := ⟨gb388, 7, none⟩) (Kd.R_far (p := ⟨gb388, 6, none⟩) (Kd.R_far (p := ⟨gb388, 5, none⟩) (Kd.R_far (p := ⟨gb388, 4, none⟩) (Kd.R_far (p := ⟨gb388, 3, none⟩) (Kd.R_far (p := ⟨gb388, 2, none⟩) (Kd.R_far (p := ⟨gb388, 1, none⟩) (Kd.R_far (p := ⟨gb388, 0, none⟩) (Kd.R_mono HO_12.out (fun k_ hk => (⟨hk, hk.2⟩ : _ ∧ k_ ≠ gb388))) (fun _ hk => hk.2) (.int .i64 a1_0)) (fun _ hk => hk.2) (.int .i64 a1_1)) (fun _ hk => hk.2) (.int .i64 a1_2)) (fun _ hk => hk.2) (.int .i64 a1_3)) (fun _ hk => hk.2) (.int .i64 a1_4)) (fun _ hk => hk.2) (.int .i64 a1_5)) (fun _ hk => hk.2) (.int .i64 a1_6)) (fun _ hk => hk.2) (.int .i64 a1_7)) (fun _ hk => hk.2) (.int .i64 a1_8)) (fun _ hk => ⟨hk.1.1, hk.1.2⟩)⟩
 have n1_ : Aside0 ((((((((((w34.setCell ⟨gb388, 0, none⟩ (.int .i64 a1_0)).setCell ⟨gb388, 1, none⟩ (.int .i64 a1_1)).setCell ⟨gb388, 2, none⟩ (.int .i64 a1_2)).setCell ⟨gb388, 3, none⟩ (.int .i64 a1_3)).setCell ⟨gb388, 4, none⟩ (.int .i64 a1_4)).setCell ⟨gb388, 5, none⟩ (.int .i64 a1_5)).setCell ⟨gb388, 6, none⟩ (.int .i64 a1_6)).setCell ⟨gb388, 7, none⟩ (.int .i64 a1_7)).setCell ⟨gb388, 8, none⟩ (.int .i64 a1_8)).heap[gb366]? = some (.cells #[.int .i64 a1_0, .int .i64 a1_1, .int .i64 a1_2, .int .i64 a1_3, .int .i64 a1_4, .int .i64 a1_5, .int .i64 a1_6, .int .i64 a1_7, .int .i64 a1_8] 28 (0, 0))) := ⟨by (with_reducible repeat (first | refine blk_drewN ?_ _ | refine blk_drew ?_ | refine blk_alloc ?_ _)); refine blk_far ?_ NB366_388.out _; (with_reducible repeat (first | refine blk_drewN ?_ _ | refine blk_drew ?_ | refine blk_alloc ?_ _)); refine blk_far ?_ NB366_388.out _; (with_reducible repeat (first | refine blk_drewN ?_ _ | refine blk_drew ?_ | refine blk_alloc ?_ _)); refine blk_far ?_ NB366_388.out _; (with_reducible repeat (first | refine blk_drewN ?_ _ | refine blk_drew ?_ | refine blk_alloc ?_ _)); refine blk_far ?_ NB366_388.out _; (with_reducible repeat (first | refine blk_drewN ?_ _ | refine blk_drew ?_ | refine blk_alloc ?_ _)); refine blk_far ?_ NB366_388.out _; (with_reducible repeat (first | refine blk_drewN ?_ _ | refine blk_drew ?_ | refine blk_alloc ?_ _)); refine blk_far ?_ NB366_388.out _; (with_reducible repeat (first | refine blk_drewN ?_ _ | refine blk_drew ?_ | refine blk_alloc ?_ _)); refine blk_far ?_ NB366_388.out _; (with_reducible repeat (first | refine blk_drewN ?_ _ | refine blk_drew ?_ | refine blk_alloc ?_ _)); refine blk_far ?_ NB366_388.out _; (with_reducible repeat (first | refine blk_drewN ?_ _ | refine blk_drew ?_ | refine blk_alloc ?_ _)); refine blk_far ?_ NB366_388.out _; (with_reducible repeat (first | refine blk_drewN ?_ _ | refine blk_drew ?_ | refine blk_alloc ?_ _)); exact BK366.out⟩
 have n2_ : Aside0 ((((((((((w34.setCell ⟨gb388, 0, none⟩ (.int .i64 a1_0)).setCell ⟨gb388, 1, none⟩ (.int .i64 a1_1)).setCell ⟨gb388, 2, none⟩ (.int .i64 a1_2)).setCell ⟨gb388, 3, none⟩ (.int .i64 a1_3)).setCell ⟨gb388, 4, none⟩ (.int .i64 a1_4)).setCell ⟨gb388, 5, none⟩ (.int .i64 a1_5)).setCell ⟨gb388, 6, none⟩ (.int .i64 a1_6)).setCell ⟨gb388, 7, none⟩ (.int .i64 a1_7)).setCell ⟨gb388, 8, none⟩ (.int .i64 a1_8)).heap[gb388]? = some (.cells #[.int .i64 a1_0, .int .i64 a1_1, .int .i64 a1_2, .int .i64 a1_3, .int .i64 a1_4, .int .i64 a1_5, .int .i64 a1_6, .int .i64 a1_7, .int .i64 a1_8] 28 (0, 0))) := ⟨pu BK388.out⟩
 have n3_ : Aside0 (IsS48 w (((((((((w34.setCell ⟨gb388, 0, none⟩ (.int .i64 a1_0)).setCell ⟨gb388, 1, none⟩ (.int .i64 a1_1)).setCell ⟨gb388, 2, none⟩ (.int .i64 a1_2)).setCell ⟨gb388, 3, none⟩ (.int .i64 a1_3)).setCell ⟨gb388, 4, none⟩ (.int .i64 a1_4)).setCell ⟨gb388, 5, none⟩ (.int .i64 a1_5)).setCell ⟨gb388, 6, none⟩ (.int .i64 a1_6)).setCell ⟨gb388, 7, none⟩ (.int .i64 a1_7)).setCell ⟨gb388, 8, none⟩ (.int .i64 a1_8)) g370 t368 x371001_16) := ⟨by repeat (first | (with_reducible first | exact HI370.out | apply IsS48.alloc | apply IsS48.drewN | apply IsS48.drew | apply IsS48.set_1 | refine IsS48.far ?_ NB370_366.out _ | refine IsS48.far ?_ NB370_388.out _) | exact HI370.out)⟩
 have n4_ : Aside0 (Below w.heap.size w (((((((((w34.setCell ⟨gb388, 0, none⟩ (.int .i64 a1_0)).setCell ⟨gb388, 1, none⟩ (.int .i64 a1_1)).setCell ⟨gb388, 2, none⟩ (.int .i64 a1_2)).setCell ⟨gb388, 3, none⟩ (.int .i64 a1_3)).setCell ⟨gb388, 4, none⟩ (.int .i64 a1_4)).setCell ⟨gb388, 5, none⟩ (.int .i64 a1_5)).setCell ⟨gb388, 6, none⟩ (.int .i64 a1_6)).setCell ⟨gb388, 7, none⟩ (.int .i64 a1_7)).setCell ⟨gb388, 8, none⟩ (.int .i64 a1_8))) := ⟨bq3 HB.out (IsS48.ge HI370.out) GE366.out GE388.out⟩
 (try clear HO_12)
 (try clear BK366)
 (try clear BK388)
 (try clear HI370)
 (try clear HB)
 generalize (((((((((w34.setCell ⟨gb388, 0, none⟩ (.int .i64 a1_0)).setCell ⟨gb388, 1, none⟩ (.int .i64 a1_1)).setCell ⟨gb388, 2, none⟩ (.int .i64 a1_2)).setCell ⟨gb388, 3, none⟩ (.int .i64 a1_3)).setCell ⟨gb388, 4, none⟩ (.int .i64 a1_4)).setCell ⟨gb388, 5, none⟩ (.int .i64 a1_5)).setCell ⟨gb388, 6, none⟩ (.int .i64 a1_6)).setCell ⟨gb388, 7, none⟩ (.int .i64 a1_7)).setCell ⟨gb388, 8, none⟩ (.int .i64 a1_8)) = w46 at n0_ n1_ n2_ n3_ n4_ ⊢
 have HO_12 := n0_
 have BK366 := n1_
 have BK388 := n2_
 have HI370 := n3_
 have HB := n4_
 clear n0_ n1_ n2_ n3_ n4_
 have n0_ := Aside0.mk (Kd.R_drew HO_12.out)
 have n1_ := Aside0.mk (blk_drew BK366.out)
 have n2_ := Aside0.mk (blk_drew BK388.out)
 have n3_ := Aside0.mk (IsS48.drew HI370.out)
 have n4_ := Aside0.mk (below_drew1 HB.out)
 clear HO_12
 clear BK366
 clear BK388
 clear HI370
 clear HB
 have HO_12 := n0_
 have BK366 := n1_
 have BK388 := n2_
 have HI370 := n3_
 have HB := n4_
 clear n0_ n1_ n2_ n3_ n4_
 have p391 : 0 ≤ (t389 : Int) := of_decide_eq_true (by first | (with_reducible assumption) | assumption)
 have q391 : t389 < (x12_16.length : Int) := of_decide_eq_true (by first | (with_reducible assumption) | assumption)
 obtain ⟨ad391, e391, hx391_0, hx391_1, hx391_2, hx391_3, hx391_4, hx391_5, hx391_6, hx391_7, hx391_8⟩ := at_T28 (Kd.R_reads' HO_12.out).2.2 t389 p391 q391
 cases e391
 replace p391 := eq_true p391
 replace q391 := eq_true q391
 refine start_ (n := 13) (S := fun w' => w'.cell? (ad391.add ((t389).toNat * 9)) = some (.int .i64 ((rd_T28 x12_16 t389).f0)) ∧ w'.cell? ⟨(ad391.add ((t389).toNat * 9)).block, (ad391.add ((t389).toNat * 9)).off + 1, none⟩ = some (.int .i64 ((rd_T28 x12_16 t389).f1)) ∧ w'.cell? ⟨(ad391.add ((t389).toNat * 9)).block, (ad391.add ((t389).toNat * 9)).off + 2, none⟩ = some (.int .i64 ((rd_T28 x12_16 t389).f2.f0)) ∧ w'.cell? ⟨(ad391.add ((t389).toNat * 9)).block, (ad391.add ((t389).toNat * 9)).off + 3, none⟩ = some (.int .i64 ((rd_T28 x12_16 t389).f2.f1)) ∧ w'.cell? ⟨(ad391.add ((t389).toNat * 9)).block, (ad391.add ((t389).toNat * 9)).off + 4, none⟩ = some (.int .i64 ((rd_T28 x12_16 t389).f2.f2)) ∧ w'.cell? ⟨(ad391.add ((t389).toNat * 9)).block, (ad391.add ((t389).toNat * 9)).off + 5, none⟩ = some (.int .i64 ((rd_T28 x12_16 t389).f2.f3.f0)) ∧ w'.cell? ⟨(ad391.add ((t389).toNat * 9)).block, (ad391.add ((t389).toNat * 9)).off + 6, none⟩ = some (.int .i64 ((rd_T28 x12_16 t389).f2.f3.f1)) ∧ w'.cell? ⟨(ad391.add ((t389).toNat * 9)).block, (ad391.add ((t389).toNat * 9)).off + 7, none⟩ = some (.int .i64 ((rd_T28 x12_16 t389).f2.f4)) ∧ w'.cell? ⟨(ad391.add ((t389).toNat * 9)).block, (ad391.add ((t389).toNat * 9)).off + 8, none⟩ = some (.int .i64 ((rd_T28 x12_16 t389).f2.f5))) (ds := []) #[false, false, false, false, false, false, false, false, false, false, false, false, false] (by kernel_rfl) rfl rfl ⟨hx391_0, hx391_1, hx391_2, hx391_3, hx391_4, hx391_5, hx391_6, hx391_7, hx391_8⟩ (fun hHeld => ?_); refine with_tabW rollbacknetlaw27_DeterminantLists.tab9 rollbacknetlaw27_DeterminantLists.bits9 (fun HT_ HW_ => ?_)
 generalize w46.drew = w47 at HO_12 BK366 BK388 HI370 HB hx391_0 hx391_1 hx391_2 hx391_3 hx391_4 hx391_5 hx391_6 hx391_7 hx391_8 hHeld ⊢
 refine pur HT_.out 0 (some 50) (bm 13 1) ?_
 refine pur HT_.out 1 (some 51) (bm 13 3) ?_
 refine pur HT_.out 2 (some 52) (bm 13 7) ?_
 refine pur HT_.out 3 (some 53) (bm 13 15) ?_
 refine pur HT_.out 7 (some 57) (bm 13 143) ?_
 refine pur HT_.out 9 (some 59) (bm 13 655) ?_
 refine one_ (i := 4) (N := some 54) (bm 13 671) rfl rfl (one_of HT_.out (by kernel_rfl)) (by decide) (fun K hK => ?_)
 refine gs Try.func7 #[.pointer (some ⟨g370, 0, none⟩), .int .i64 (x12_16.length : Int)] ?_
 with_reducible refine (rollbacknetmake_Codes_Next.calls g370 t368 x371001_16 (x12_16.length : Int) t389 t390 w _ ?side1 ?side2 A40.out).mono ?_
 (case side1 => repeat (first | (with_reducible first | exact HI370.out | apply IsS48.alloc | apply IsS48.drewN | apply IsS48.drew | apply IsS48.set_1 | refine IsS48.far ?_ NB370_366.out _ | refine IsS48.far ?_ NB370_388.out _) | exact HI370.out))
 (case side2 => repeat (first | (with_reducible first | exact HB.out | apply below_alloc | apply pw_below_drewN | apply below_drew1 | refine below_set ?_ (IsS48.ge HI370.out) | refine below_set ?_ GE366.out | refine below_set ?_ GE388.out) | exact HB.out))
 rintro e w48 ⟨rfl, hi, hb, hk⟩
 have HS0_ := keep_cell hk (hHeld.1) (by first | (rw [add_block]; exact Kd.own_blk (IsS48.own_ne HI370.out HO_12.out (by decide))) | (show (Addr.add _ _).block ≠ _; rw [add_block]; exact Kd.own_blk (IsS48.own_ne HI370.out HO_12.out (by decide))) | exact Kd.own_blk (IsS48.own_ne HI370.out HO_12.out (by decide)))
 have HS1_ := keep_cell hk (hHeld.2.1) (by first | (rw [add_block]; exact Kd.own_blk (IsS48.own_ne HI370.out HO_12.out (by decide))) | (show (Addr.add _ _).block ≠ _; rw [add_block]; exact Kd.own_blk (IsS48.own_ne HI370.out HO_12.out (by decide))) | exact Kd.own_blk (IsS48.own_ne HI370.out HO_12.out (by decide)))
 have HS2_ := keep_cell hk (hHeld.2.2.1) (by first | (rw [add_block]; exact Kd.own_blk (IsS48.own_ne HI370.out HO_12.out (by decide))) | (show (Addr.add _ _).block ≠ _; rw [add_block]; exact Kd.own_blk (IsS48.own_ne HI370.out HO_12.out (by decide))) | exact Kd.own_blk (IsS48.own_ne HI370.out HO_12.out (by decide)))
 have HS3_ := keep_cell hk (hHeld.2.2.2.1) (by first | (rw [add_block]; exact Kd.own_blk (IsS48.own_ne HI370.out HO_12.out (by decide))) | (show (Addr.add _ _).block ≠ _; rw [add_block]; exact Kd.own_blk (IsS48.own_ne HI370.out HO_12.out (by decide))) | exact Kd.own_blk (IsS48.own_ne HI370.out HO_12.out (by decide)))
 have HS4_ := keep_cell hk (hHeld.2.2.2.2.1) (by first | (rw [add_block]; exact Kd.own_blk (IsS48.own_ne HI370.out HO_12.out (by decide))) | (show (Addr.add _ _).block ≠ _; rw [add_block]; exact Kd.own_blk (IsS48.own_ne HI370.out HO_12.out (by decide))) | exact Kd.own_blk (IsS48.own_ne HI370.out HO_12.out (by decide)))
 have HS5_ := keep_cell hk (hHeld.2.2.2.2.2.1) (by first | (rw [add_block]; exact Kd.own_blk (IsS48.own_ne HI370.out HO_12.out (by decide))) | (show (Addr.add _ _).block ≠ _; rw [add_block]; exact Kd.own_blk (IsS48.own_ne HI370.out HO_12.out (by decide))) | exact Kd.own_blk (IsS48.own_ne HI370.out HO_12.out (by decide)))
 have HS6_ := keep_cell hk (hHeld.2.2.2.2.2.2.1) (by first | (rw [add_block]; exact Kd.own_blk (IsS48.own_ne HI370.out HO_12.out (by decide))) | (show (Addr.add _ _).block ≠ _; rw [add_block]; exact Kd.own_blk (IsS48.own_ne HI370.out HO_12.out (by decide))) | exact Kd.own_blk (IsS48.own_ne HI370.out HO_12.out (by decide)))
 have HS7_ := keep_cell hk (hHeld.2.2.2.2.2.2.2.1) (by first | (rw [add_block]; exact Kd.own_blk (IsS48.own_ne HI370.out HO_12.out (by decide))) | (show (Addr.add _ _).block ≠ _; rw [add_block]; exact Kd.own_blk (IsS48.own_ne HI370.out HO_12.out (by decide))) | exact Kd.own_blk (IsS48.own_ne HI370.out HO_12.out (by decide)))
 have HS8_ := keep_cell hk (hHeld.2.2.2.2.2.2.2.2) (by first | (rw [add_block]; exact Kd.own_blk (IsS48.own_ne HI370.out HO_12.out (by decide))) | (show (Addr.add _ _).block ≠ _; rw [add_block]; exact Kd.own_blk (IsS48.own_ne HI370.out HO_12.out (by decide))) | exact Kd.own_blk (IsS48.own_ne HI370.out HO_12.out (by decide)))
 refine ⟨_, rfl, ?_⟩
 have n0_ := Aside0.mk (Kd.R_mono (Kd.R_keep (IsS48.apart (show IsS48 w _ g370 t368 x371001_16 from by repeat (first | (with_reducible first | exact HI370.out | apply IsS48.alloc | apply IsS48.drewN | apply IsS48.drew | apply IsS48.set_1 | refine IsS48.far ?_ NB370_366.out _ | refine IsS48.far ?_ NB370_388.out _) | exact HI370.out)) (rq HO_12.out) (by decide)) hk (fun _ h => h.2)) (fun _ h => h.1))
 have n1_ := Aside0.mk (KeepBut.blk hk (g' := gb366) (o := .cells #[.int .i64 a1_0, .int .i64 a1_1, .int .i64 a1_2, .int .i64 a1_3, .int .i64 a1_4, .int .i64 a1_5, .int .i64 a1_6, .int .i64 a1_7, .int .i64 a1_8] 28 (0, 0)) (kq BK366.out) NB366_370.out (by simp))
 have n2_ := Aside0.mk (KeepBut.blk hk (g' := gb388) (o := .cells #[.int .i64 a1_0, .int .i64 a1_1, .int .i64 a1_2, .int .i64 a1_3, .int .i64 a1_4, .int .i64 a1_5, .int .i64 a1_6, .int .i64 a1_7, .int .i64 a1_8] 28 (0, 0)) (kq BK388.out) NB388_370.out (by simp))
 have n3_ := Aside0.mk (hb)
 have n4_ := Aside0.mk (hi)
 clear HO_12
 clear BK366
 clear BK388
 clear HB
 clear HI370
 have HO_12 := n0_
 have BK366 := n1_
 have BK388 := n2_
 have HB := n3_
 have HI370 := n4_
 clear n0_ n1_ n2_ n3_ n4_
 (try clear hb)
 (try clear hb2)
 (try clear hk)
 (try clear hi)
 refine hK.out _ _ ⟨HS0_, HS1_, HS2_, HS3_, HS4_, HS5_, HS6_, HS7_, HS8_⟩ (fun hHeld => ?_)
 clear hK K
 refine nrm 54 ?_
 refine pur HT_.out 5 (some 55) (bm 13 703) ?_
 refine tak HT_.out HW_.out 6 (some 56) (bm 13 767) hHeld ?_
 refine one_ (i := 8) (N := some 58) (bm 13 1023) rfl rfl (one_of HT_.out (by kernel_rfl)) (by decide) (fun K hK => ?_)
 refine gs Try.func7 #[.pointer (some ⟨g370, 0, none⟩), .int .i64 12] ?_
 with_reducible refine (rollbacknetmake_Codes_Next.calls g370 t368 t390 12 t392 t393 w _ ?side1 ?side2 A43.out).mono ?_
 (case side1 => repeat (first | (with_reducible first | exact HI370.out | apply IsS48.alloc | apply IsS48.drewN | apply IsS48.drew | apply IsS48.set_1 | refine IsS48.far ?_ NB370_366.out _ | refine IsS48.far ?_ NB370_388.out _) | exact HI370.out))
 (case side2 => repeat (first | (with_reducible first | exact HB.out | apply below_alloc | apply pw_below_drewN | apply below_drew1 | refine below_set ?_ (IsS48.ge HI370.out) | refine below_set ?_ GE366.out | refine below_set ?_ GE388.out) | exact HB.out))
 rintro e w49 ⟨rfl, hi, hb, hk⟩
 have HS0_ := keep_cell hk (hHeld.1) (by first | (rw [add_block]; exact Kd.own_blk (IsS48.own_ne HI370.out HO_12.out (by decide))) | (show (Addr.add _ _).block ≠ _; rw [add_block]; exact Kd.own_blk (IsS48.own_ne HI370.out HO_12.out (by decide))) | exact Kd.own_blk (IsS48.own_ne HI370.out HO_12.out (by decide)))
 have HS1_ := keep_cell hk (hHeld.2.1) (by first | (rw [add_block]; exact Kd.own_blk (IsS48.own_ne HI370.out HO_12.out (by decide))) | (show (Addr.add _ _).block ≠ _; rw [add_block]; exact Kd.own_blk (IsS48.own_ne HI370.out HO_12.out (by decide))) | exact Kd.own_blk (IsS48.own_ne HI370.out HO_12.out (by decide)))
 have HS2_ := keep_cell hk (hHeld.2.2.1) (by first | (rw [add_block]; exact Kd.own_blk (IsS48.own_ne HI370.out HO_12.out (by decide))) | (show (Addr.add _ _).block ≠ _; rw [add_block]; exact Kd.own_blk (IsS48.own_ne HI370.out HO_12.out (by decide))) | exact Kd.own_blk (IsS48.own_ne HI370.out HO_12.out (by decide)))
 have HS3_ := keep_cell hk (hHeld.2.2.2.1) (by first | (rw [add_block]; exact Kd.own_blk (IsS48.own_ne HI370.out HO_12.out (by decide))) | (show (Addr.add _ _).block ≠ _; rw [add_block]; exact Kd.own_blk (IsS48.own_ne HI370.out HO_12.out (by decide))) | exact Kd.own_blk (IsS48.own_ne HI370.out HO_12.out (by decide)))
 have HS4_ := keep_cell hk (hHeld.2.2.2.2.1) (by first | (rw [add_block]; exact Kd.own_blk (IsS48.own_ne HI370.out HO_12.out (by decide))) | (show (Addr.add _ _).block ≠ _; rw [add_block]; exact Kd.own_blk (IsS48.own_ne HI370.out HO_12.out (by decide))) | exact Kd.own_blk (IsS48.own_ne HI370.out HO_12.out (by decide)))
 have HS5_ := keep_cell hk (hHeld.2.2.2.2.2.1) (by first | (rw [add_block]; exact Kd.own_blk (IsS48.own_ne HI370.out HO_12.out (by decide))) | (show (Addr.add _ _).block ≠ _; rw [add_block]; exact Kd.own_blk (IsS48.own_ne HI370.out HO_12.out (by decide))) | exact Kd.own_blk (IsS48.own_ne HI370.out HO_12.out (by decide)))
 have HS6_ := keep_cell hk (hHeld.2.2.2.2.2.2.1) (by first | (rw [add_block]; exact Kd.own_blk (IsS48.own_ne HI370.out HO_12.out (by decide))) | (show (Addr.add _ _).block ≠ _; rw [add_block]; exact Kd.own_blk (IsS48.own_ne HI370.out HO_12.out (by decide))) | exact Kd.own_blk (IsS48.own_ne HI370.out HO_12.out (by decide)))
 have HS7_ := keep_cell hk (hHeld.2.2.2.2.2.2.2.1) (by first | (rw [add_block]; exact Kd.own_blk (IsS48.own_ne HI370.out HO_12.out (by decide))) | (show (Addr.add _ _).block ≠ _; rw [add_block]; exact Kd.own_blk (IsS48.own_ne HI370.out HO_12.out (by decide))) | exact Kd.own_blk (IsS48.own_ne HI370.out HO_12.out (by decide)))
 have HS8_ := keep_cell hk (hHeld.2.2.2.2.2.2.2.2) (by first | (rw [add_block]; exact Kd.own_blk (IsS48.own_ne HI370.out HO_12.out (by decide))) | (show (Addr.add _ _).block ≠ _; rw [add_block]; exact Kd.own_blk (IsS48.own_ne HI370.out HO_12.out (by decide))) | exact Kd.own_blk (IsS48.own_ne HI370.out HO_12.out (by decide)))
 refine ⟨_, rfl, ?_⟩
 have n0_ := Aside0.mk (Kd.R_mono (Kd.R_keep (IsS48.apart (show IsS48 w _ g370 t368 t390 from by repeat (first | (with_reducible first | exact HI370.out | apply IsS48.alloc | apply IsS48.drewN | apply IsS48.drew | apply IsS48.set_1 | refine IsS48.far ?_ NB370_366.out _ | refine IsS48.far ?_ NB370_388.out _) | exact HI370.out)) (rq HO_12.out) (by decide)) hk (fun _ h => h.2)) (fun _ h => h.1))
 have n1_ := Aside0.mk (KeepBut.blk hk (g' := gb366) (o := .cells #[.int .i64 a1_0, .int .i64 a1_1, .int .i64 a1_2, .int .i64 a1_3, .int .i64 a1_4, .int .i64 a1_5, .int .i64 a1_6, .int .i64 a1_7, .int .i64 a1_8] 28 (0, 0)) (kq BK366.out) NB366_370.out (by simp))
 have n2_ := Aside0.mk (KeepBut.blk hk (g' := gb388) (o := .cells #[.int .i64 a1_0, .int .i64 a1_1, .int .i64 a1_2, .int .i64 a1_3, .int .i64 a1_4, .int .i64 a1_5, .int .i64 a1_6, .int .i64 a1_7, .int .i64 a1_8] 28 (0, 0)) (kq BK388.out) NB388_370.out (by simp))
 have n3_ := Aside0.mk (hb)
 have n4_ := Aside0.mk (hi)
 clear HO_12
 clear BK366
 clear BK388
 clear HB
 clear HI370
 have HO_12 := n0_
 have BK366 := n1_
 have BK388 := n2_
 have HB := n3_
 have HI370 := n4_
 clear n0_ n1_ n2_ n3_ n4_
 (try clear hb)
 (try clear hb2)
 (try clear hk)
 (try clear hi)
 refine hK.out _ _ ⟨HS0_, HS1_, HS2_, HS3_, HS4_, HS5_, HS6_, HS7_, HS8_⟩ (fun hHeld => ?_)
 clear hK K
 refine nrm 58 ?_
 refine one_ (i := 10) (N := some 60) (bm 13 2047) rfl rfl (one_of HT_.out (by kernel_rfl)) (by decide) (fun K hK => ?_)
 refine gs Try.func7 #[.pointer (some ⟨g370, 0, none⟩), .int .i64 3] ?_
 with_reducible refine (rollbacknetmake_Codes_Next.calls g370 t368 t393 3 t394 t395 w _ ?side1 ?side2 A44.out).mono ?_
 (case side1 => repeat (first | (with_reducible first | exact HI370.out | apply IsS48.alloc | apply IsS48.drewN | apply IsS48.drew | apply IsS48.set_1 | refine IsS48.far ?_ NB370_366.out _ | refine IsS48.far ?_ NB370_388.out _) | exact HI370.out))
 (case side2 => repeat (first | (with_reducible first | exact HB.out | apply below_alloc | apply pw_below_drewN | apply below_drew1 | refine below_set ?_ (IsS48.ge HI370.out) | refine below_set ?_ GE366.out | refine below_set ?_ GE388.out) | exact HB.out))
 rintro e w50 ⟨rfl, hi, hb, hk⟩
 have HS0_ := keep_cell hk (hHeld.1) (by first | (rw [add_block]; exact Kd.own_blk (IsS48.own_ne HI370.out HO_12.out (by decide))) | (show (Addr.add _ _).block ≠ _; rw [add_block]; exact Kd.own_blk (IsS48.own_ne HI370.out HO_12.out (by decide))) | exact Kd.own_blk (IsS48.own_ne HI370.out HO_12.out (by decide)))
 have HS1_ := keep_cell hk (hHeld.2.1) (by first | (rw [add_block]; exact Kd.own_blk (IsS48.own_ne HI370.out HO_12.out (by decide))) | (show (Addr.add _ _).block ≠ _; rw [add_block]; exact Kd.own_blk (IsS48.own_ne HI370.out HO_12.out (by decide))) | exact Kd.own_blk (IsS48.own_ne HI370.out HO_12.out (by decide)))
 have HS2_ := keep_cell hk (hHeld.2.2.1) (by first | (rw [add_block]; exact Kd.own_blk (IsS48.own_ne HI370.out HO_12.out (by decide))) | (show (Addr.add _ _).block ≠ _; rw [add_block]; exact Kd.own_blk (IsS48.own_ne HI370.out HO_12.out (by decide))) | exact Kd.own_blk (IsS48.own_ne HI370.out HO_12.out (by decide)))
 have HS3_ := keep_cell hk (hHeld.2.2.2.1) (by first | (rw [add_block]; exact Kd.own_blk (IsS48.own_ne HI370.out HO_12.out (by decide))) | (show (Addr.add _ _).block ≠ _; rw [add_block]; exact Kd.own_blk (IsS48.own_ne HI370.out HO_12.out (by decide))) | exact Kd.own_blk (IsS48.own_ne HI370.out HO_12.out (by decide)))
 have HS4_ := keep_cell hk (hHeld.2.2.2.2.1) (by first | (rw [add_block]; exact Kd.own_blk (IsS48.own_ne HI370.out HO_12.out (by decide))) | (show (Addr.add _ _).block ≠ _; rw [add_block]; exact Kd.own_blk (IsS48.own_ne HI370.out HO_12.out (by decide))) | exact Kd.own_blk (IsS48.own_ne HI370.out HO_12.out (by decide)))
 have HS5_ := keep_cell hk (hHeld.2.2.2.2.2.1) (by first | (rw [add_block]; exact Kd.own_blk (IsS48.own_ne HI370.out HO_12.out (by decide))) | (show (Addr.add _ _).block ≠ _; rw [add_block]; exact Kd.own_blk (IsS48.own_ne HI370.out HO_12.out (by decide))) | exact Kd.own_blk (IsS48.own_ne HI370.out HO_12.out (by decide)))
 have HS6_ := keep_cell hk (hHeld.2.2.2.2.2.2.1) (by first | (rw [add_block]; exact Kd.own_blk (IsS48.own_ne HI370.out HO_12.out (by decide))) | (show (Addr.add _ _).block ≠ _; rw [add_block]; exact Kd.own_blk (IsS48.own_ne HI370.out HO_12.out (by decide))) | exact Kd.own_blk (IsS48.own_ne HI370.out HO_12.out (by decide)))
 have HS7_ := keep_cell hk (hHeld.2.2.2.2.2.2.2.1) (by first | (rw [add_block]; exact Kd.own_blk (IsS48.own_ne HI370.out HO_12.out (by decide))) | (show (Addr.add _ _).block ≠ _; rw [add_block]; exact Kd.own_blk (IsS48.own_ne HI370.out HO_12.out (by decide))) | exact Kd.own_blk (IsS48.own_ne HI370.out HO_12.out (by decide)))
 have HS8_ := keep_cell hk (hHeld.2.2.2.2.2.2.2.2) (by first | (rw [add_block]; exact Kd.own_blk (IsS48.own_ne HI370.out HO_12.out (by decide))) | (show (Addr.add _ _).block ≠ _; rw [add_block]; exact Kd.own_blk (IsS48.own_ne HI370.out HO_12.out (by decide))) | exact Kd.own_blk (IsS48.own_ne HI370.out HO_12.out (by decide)))
 refine ⟨_, rfl, ?_⟩
 have n0_ := Aside0.mk (Kd.R_mono (Kd.R_keep (IsS48.apart (show IsS48 w _ g370 t368 t393 from by repeat (first | (with_reducible first | exact HI370.out | apply IsS48.alloc | apply IsS48.drewN | apply IsS48.drew | apply IsS48.set_1 | refine IsS48.far ?_ NB370_366.out _ | refine IsS48.far ?_ NB370_388.out _) | exact HI370.out)) (rq HO_12.out) (by decide)) hk (fun _ h => h.2)) (fun _ h => h.1))
 have n1_ := Aside0.mk (KeepBut.blk hk (g' := gb366) (o := .cells #[.int .i64 a1_0, .int .i64 a1_1, .int .i64 a1_2, .int .i64 a1_3, .int .i64 a1_4, .int .i64 a1_5, .int .i64 a1_6, .int .i64 a1_7, .int .i64 a1_8] 28 (0, 0)) (kq BK366.out) NB366_370.out (by simp))
 have n2_ := Aside0.mk (KeepBut.blk hk (g' := gb388) (o := .cells #[.int .i64 a1_0, .int .i64 a1_1, .int .i64 a1_2, .int .i64 a1_3, .int .i64 a1_4, .int .i64 a1_5, .int .i64 a1_6, .int .i64 a1_7, .int .i64 a1_8] 28 (0, 0)) (kq BK388.out) NB388_370.out (by simp))
 have n3_ := Aside0.mk (hb)
 have n4_ := Aside0.mk (hi)
 clear HO_12
 clear BK366
 clear BK388
 clear HB
 clear HI370
 have HO_12 := n0_
 have BK366 := n1_
 have BK388 := n2_
 have HB := n3_
 have HI370 := n4_
 clear n0_ n1_ n2_ n3_ n4_
 (try clear hb)
 (try clear hb2)
 (try clear hk)
 (try clear hi)
 refine hK.out _ _ ⟨HS0_, HS1_, HS2_, HS3_, HS4_, HS5_, HS6_, HS7_, HS8_⟩ (fun hHeld => ?_)
 clear hK K
 refine nrm 60 ?_
 refine one_ (i := 11) (N := some 61) (bm 13 4095) rfl rfl (one_of HT_.out (by kernel_rfl)) (by decide) (fun K hK => ?_)
 refine gs Try.func8 #[.agg #[.int .i64 ((rd_T28 x12_16 t389).f0), .int .i64 ((rd_T28 x12_16 t389).f1), .int .i64 ((rd_T28 x12_16 t389).f2.f0), .int .i64 ((rd_T28 x12_16 t389).f2.f1), .int .i64 ((rd_T28 x12_16 t389).f2.f2), .int .i64 ((rd_T28 x12_16 t389).f2.f3.f0), .int .i64 ((rd_T28 x12_16 t389).f2.f3.f1), .int .i64 ((rd_T28 x12_16 t389).f2.f4), .int .i64 ((rd_T28 x12_16 t389).f2.f5)], .int .i64 t392, .int .i64 t394] ?_
 with_reducible refine (rollbacknetlaw27_near.calls ((rd_T28 x12_16 t389).f0) ((rd_T28 x12_16 t389).f1) ((rd_T28 x12_16 t389).f2.f0) ((rd_T28 x12_16 t389).f2.f1) ((rd_T28 x12_16 t389).f2.f2) ((rd_T28 x12_16 t389).f2.f3.f0) ((rd_T28 x12_16 t389).f2.f3.f1) ((rd_T28 x12_16 t389).f2.f4) ((rd_T28 x12_16 t389).f2.f5) t392 t394 t396 t397 t398 t399 t400 t401 t402 t403 t404 _ A45.out).mono ?_
 rintro e w51 ⟨rfl, hb⟩
 have HS0_ := (hb.cell (World.block_lt_of_cell? _ _ (hHeld.1))).trans (hHeld.1)
 have HS1_ := (hb.cell (World.block_lt_of_cell? _ _ (hHeld.2.1))).trans (hHeld.2.1)
 have HS2_ := (hb.cell (World.block_lt_of_cell? _ _ (hHeld.2.2.1))).trans (hHeld.2.2.1)
 have HS3_ := (hb.cell (World.block_lt_of_cell? _ _ (hHeld.2.2.2.1))).trans (hHeld.2.2.2.1)
 have HS4_ := (hb.cell (World.block_lt_of_cell? _ _ (hHeld.2.2.2.2.1))).trans (hHeld.2.2.2.2.1)
 have HS5_ := (hb.cell (World.block_lt_of_cell? _ _ (hHeld.2.2.2.2.2.1))).trans (hHeld.2.2.2.2.2.1)
 have HS6_ := (hb.cell (World.block_lt_of_cell? _ _ (hHeld.2.2.2.2.2.2.1))).trans (hHeld.2.2.2.2.2.2.1)
 have HS7_ := (hb.cell (World.block_lt_of_cell? _ _ (hHeld.2.2.2.2.2.2.2.1))).trans (hHeld.2.2.2.2.2.2.2.1)
 have HS8_ := (hb.cell (World.block_lt_of_cell? _ _ (hHeld.2.2.2.2.2.2.2.2))).trans (hHeld.2.2.2.2.2.2.2.2)
 refine ⟨_, rfl, ?_⟩
 have n0_ := Aside0.mk (Kd.R_below (rq HO_12.out) hb)
 have n1_ := Aside0.mk (bb BK366.out hb)
 have n2_ := Aside0.mk (IsS48.below (by repeat (first | (with_reducible first | exact HI370.out | apply IsS48.alloc | apply IsS48.drewN | apply IsS48.drew | apply IsS48.set_1 | refine IsS48.far ?_ NB370_366.out _ | refine IsS48.far ?_ NB370_388.out _) | exact HI370.out)) hb)
 have n3_ := Aside0.mk (bb BK388.out hb)
 have n4_ := Aside0.mk (below_step (bq3 HB.out (IsS48.ge HI370.out) GE366.out GE388.out) hb)
 clear HO_12
 clear BK366
 clear HI370
 clear BK388
 clear HB
 have HO_12 := n0_
 have BK366 := n1_
 have HI370 := n2_
 have BK388 := n3_
 have HB := n4_
 clear n0_ n1_ n2_ n3_ n4_
 (try clear hb)
 (try clear hb2)
 (try clear hk)
 (try clear hi)
 refine hK.out _ _ ⟨HS0_, HS1_, HS2_, HS3_, HS4_, HS5_, HS6_, HS7_, HS8_⟩ (fun hHeld => ?_)
 clear hK K
 refine nrm 61 ?_
 refine one_ (i := 12) (N := none) (bm 13 8191) rfl rfl (one_of HT_.out (by kernel_rfl)) (by decide) (fun K hK => ?_)
 have hs52 : w51.cell? ⟨gb388, 0, none⟩ = some (.int .i64 a1_0) := bc BK388.out 0
 have hfs52 := blk_frozen BK388.out 0
 have hns52_0 := NB366_388.out
 have hms52_0 := NB388_366.out
 have hs53 : w51.cell? ⟨gb388, 1, none⟩ = some (.int .i64 a1_1) := bc BK388.out 1
 have hfs53 := blk_frozen BK388.out 1
 have hns53_0 := NB366_388.out
 have hms53_0 := NB388_366.out
 have hs54 : w51.cell? ⟨gb388, 2, none⟩ = some (.int .i64 a1_2) := bc BK388.out 2
 have hfs54 := blk_frozen BK388.out 2
 have hns54_0 := NB366_388.out
 have hms54_0 := NB388_366.out
 have hs55 : w51.cell? ⟨gb388, 3, none⟩ = some (.int .i64 a1_3) := bc BK388.out 3
 have hfs55 := blk_frozen BK388.out 3
 have hns55_0 := NB366_388.out
 have hms55_0 := NB388_366.out
 have hs56 : w51.cell? ⟨gb388, 4, none⟩ = some (.int .i64 a1_4) := bc BK388.out 4
 have hfs56 := blk_frozen BK388.out 4
 have hns56_0 := NB366_388.out
 have hms56_0 := NB388_366.out
 have hs57 : w51.cell? ⟨gb388, 5, none⟩ = some (.int .i64 a1_5) := bc BK388.out 5
 have hfs57 := blk_frozen BK388.out 5
 have hns57_0 := NB366_388.out
 have hms57_0 := NB388_366.out
 have hs58 : w51.cell? ⟨gb388, 6, none⟩ = some (.int .i64 a1_6) := bc BK388.out 6
 have hfs58 := blk_frozen BK388.out 6
 have hns58_0 := NB366_388.out
 have hms58_0 := NB388_366.out
 have hs59 : w51.cell? ⟨gb388, 7, none⟩ = some (.int .i64 a1_7) := bc BK388.out 7
 have hfs59 := blk_frozen BK388.out 7
 have hns59_0 := NB366_388.out
 have hms59_0 := NB388_366.out
 have hs60 : w51.cell? ⟨gb388, 8, none⟩ = some (.int .i64 a1_8) := bc BK388.out 8
 have hfs60 := blk_frozen BK388.out 8
 have hns60_0 := NB366_388.out
 have hms60_0 := NB388_366.out
 refine skip_ (w1 := ?_) (by rfl) rfl ?_ ?_
 rotate_left
 ·(
 go_simp
 rfl)
 refine hK.out _ _ ⟨(cfr (Kd.own_blk (Kd.R_away HO_12.out (fun _ hk => by first | exact hk.2 | exact trivial))) ((cfr (Kd.own_blk (Kd.R_away HO_12.out (fun _ hk => by first | exact hk.2 | exact trivial))) ((cfr (Kd.own_blk (Kd.R_away HO_12.out (fun _ hk => by first | exact hk.2 | exact trivial))) ((cfr (Kd.own_blk (Kd.R_away HO_12.out (fun _ hk => by first | exact hk.2 | exact trivial))) ((cfr (Kd.own_blk (Kd.R_away HO_12.out (fun _ hk => by first | exact hk.2 | exact trivial))) ((cfr (Kd.own_blk (Kd.R_away HO_12.out (fun _ hk => by first | exact hk.2 | exact trivial))) ((cfr (Kd.own_blk (Kd.R_away HO_12.out (fun _ hk => by first | exact hk.2 | exact trivial))) ((cfr (Kd.own_blk (Kd.R_away HO_12.out (fun _ hk => by first | exact hk.2 | exact trivial))) ((cfr (Kd.own_blk (Kd.R_away HO_12.out (fun _ hk => by first | exact hk.2 | exact trivial))) (hHeld.1)))))))))))))))))), (cfr (Kd.own_blk (Kd.R_away HO_12.out (fun _ hk => by first | exact hk.2 | exact trivial))) ((cfr (Kd.own_blk (Kd.R_away HO_12.out (fun _ hk => by first | exact hk.2 | exact trivial))) ((cfr (Kd.own_blk (Kd.R_away HO_12.out (fun _ hk => by first | exact hk.2 | exact trivial))) ((cfr (Kd.own_blk (Kd.R_away HO_12.out (fun _ hk => by first | exact hk.2 | exact trivial))) ((cfr (Kd.own_blk (Kd.R_away HO_12.out (fun _ hk => by first | exact hk.2 | exact trivial))) ((cfr (Kd.own_blk (Kd.R_away HO_12.out (fun _ hk => by first | exact hk.2 | exact trivial))) ((cfr (Kd.own_blk (Kd.R_away HO_12.out (fun _ hk => by first | exact hk.2 | exact trivial))) ((cfr (Kd.own_blk (Kd.R_away HO_12.out (fun _ hk => by first | exact hk.2 | exact trivial))) ((cfr (Kd.own_blk (Kd.R_away HO_12.out (fun _ hk => by first | exact hk.2 | exact trivial))) (hHeld.2.1)))))))))))))))))), (cfr (Kd.own_blk (Kd.R_away HO_12.out (fun _ hk => by first | exact hk.2 | exact trivial))) ((cfr (Kd.own_blk (Kd.R_away HO_12.out (fun _ hk => by first | exact hk.2 | exact trivial))) ((cfr (Kd.own_blk (Kd.R_away HO_12.out (fun _ hk => by first | exact hk.2 | exact trivial))) ((cfr (Kd.own_blk (Kd.R_away HO_12.out (fun _ hk => by first | exact hk.2 | exact trivial))) ((cfr (Kd.own_blk (Kd.R_away HO_12.out (fun _ hk => by first | exact hk.2 | exact trivial))) ((cfr (Kd.own_blk (Kd.R_away HO_12.out (fun _ hk => by first | exact hk.2 | exact trivial))) ((cfr (Kd.own_blk (Kd.R_away HO_12.out (fun _ hk => by first | exact hk.2 | exact trivial))) ((cfr (Kd.own_blk (Kd.R_away HO_12.out (fun _ hk => by first | exact hk.2 | exact trivial))) ((cfr (Kd.own_blk (Kd.R_away HO_12.out (fun _ hk => by first | exact hk.2 | exact trivial))) (hHeld.2.2.1)))))))))))))))))), (cfr (Kd.own_blk (Kd.R_away HO_12.out (fun _ hk => by first | exact hk.2 | exact trivial))) ((cfr (Kd.own_blk (Kd.R_away HO_12.out (fun _ hk => by first | exact hk.2 | exact trivial))) ((cfr (Kd.own_blk (Kd.R_away HO_12.out (fun _ hk => by first | exact hk.2 | exact trivial))) ((cfr (Kd.own_blk (Kd.R_away HO_12.out (fun _ hk => by first | exact hk.2 | exact trivial))) ((cfr (Kd.own_blk (Kd.R_away HO_12.out (fun _ hk => by first | exact hk.2 | exact trivial))) ((cfr (Kd.own_blk (Kd.R_away HO_12.out (fun _ hk => by first | exact hk.2 | exact trivial))) ((cfr (Kd.own_blk (Kd.R_away HO_12.out (fun _ hk => by first | exact hk.2 | exact trivial))) ((cfr (Kd.own_blk (Kd.R_away HO_12.out (fun _ hk => by first | exact hk.2 | exact trivial))) ((cfr (Kd.own_blk (Kd.R_away HO_12.out (fun _ hk => by first | exact hk.2 | exact trivial))) (hHeld.2.2.2.1)))))))))))))))))), (cfr (Kd.own_blk (Kd.R_away HO_12.out (fun _ hk => by first | exact hk.2 | exact trivial))) ((cfr (Kd.own_blk (Kd.R_away HO_12.out (fun _ hk => by first | exact hk.2 | exact trivial))) ((cfr (Kd.own_blk (Kd.R_away HO_12.out (fun _ hk => by first | exact hk.2 | exact trivial))) ((cfr (Kd.own_blk (Kd.R_away HO_12.out (fun _ hk => by first | exact hk.2 | exact trivial))) ((cfr (Kd.own_blk (Kd.R_away HO_12.out (fun _ hk => by first | exact hk.2 | exact trivial))) ((cfr (Kd.own_blk (Kd.R_away HO_12.out (fun _ hk => by first | exact hk.2 | exact trivial))) ((cfr (Kd.own_blk (Kd.R_away HO_12.out (fun _ hk => by first | exact hk.2 | exact trivial))) ((cfr (Kd.own_blk (Kd.R_away HO_12.out (fun _ hk => by first | exact hk.2 | exact trivial))) ((cfr (Kd.own_blk (Kd.R_away HO_12.out (fun _ hk => by first | exact hk.2 | exact trivial))) (hHeld.2.2.2.2.1)))))))))))))))))), (cfr (Kd.own_blk (Kd.R_away HO_12.out (fun _ hk => by first | exact hk.2 | exact trivial))) ((cfr (Kd.own_blk (Kd.R_away HO_12.out (fun _ hk => by first | exact hk.2 | exact trivial))) ((cfr (Kd.own_blk (Kd.R_away HO_12.out (fun _ hk => by first | exact hk.2 | exact trivial))) ((cfr (Kd.own_blk (Kd.R_away HO_12.out (fun _ hk => by first | exact hk.2 | exact trivial))) ((cfr (Kd.own_blk (Kd.R_away HO_12.out (fun _ hk => by first | exact hk.2 | exact trivial))) ((cfr (Kd.own_blk (Kd.R_away HO_12.out (fun _ hk => by first | exact hk.2 | exact trivial))) ((cfr (Kd.own_blk (Kd.R_away HO_12.out (fun _ hk => by first | exact hk.2 | exact trivial))) ((cfr (Kd.own_blk (Kd.R_away HO_12.out (fun _ hk => by first | exact hk.2 | exact trivial))) ((cfr (Kd.own_blk (Kd.R_away HO_12.out (fun _ hk => by first | exact hk.2 | exact trivial))) (hHeld.2.2.2.2.2.1)))))))))))))))))), (cfr (Kd.own_blk (Kd.R_away HO_12.out (fun _ hk => by first | exact hk.2 | exact trivial))) ((cfr (Kd.own_blk (Kd.R_away HO_12.out (fun _ hk => by first | exact hk.2 | exact trivial))) ((cfr (Kd.own_blk (Kd.R_away HO_12.out (fun _ hk => by first | exact hk.2 | exact trivial))) ((cfr (Kd.own_blk (Kd.R_away HO_12.out (fun _ hk => by first | exact hk.2 | exact trivial))) ((cfr (Kd.own_blk (Kd.R_away HO_12.out (fun _ hk => by first | exact hk.2 | exact trivial))) ((cfr (Kd.own_blk (Kd.R_away HO_12.out (fun _ hk => by first | exact hk.2 | exact trivial))) ((cfr (Kd.own_blk (Kd.R_away HO_12.out (fun _ hk => by first | exact hk.2 | exact trivial))) ((cfr (Kd.own_blk (Kd.R_away HO_12.out (fun _ hk => by first | exact hk.2 | exact trivial))) ((cfr (Kd.own_blk (Kd.R_away HO_12.out (fun _ hk => by first | exact hk.2 | exact trivial))) (hHeld.2.2.2.2.2.2.1)))))))))))))))))), (cfr (Kd.own_blk (Kd.R_away HO_12.out (fun _ hk => by first | exact hk.2 | exact trivial))) ((cfr (Kd.own_blk (Kd.R_away HO_12.out (fun _ hk => by first | exact hk.2 | exact trivial))) ((cfr (Kd.own_blk (Kd.R_away HO_12.out (fun _ hk => by first | exact hk.2 | exact trivial))) ((cfr (Kd.own_blk (Kd.R_away HO_12.out (fun _ hk => by first | exact hk.2 | exact trivial))) ((cfr (Kd.own_blk (Kd.R_away HO_12.out (fun _ hk => by first | exact hk.2 | exact trivial))) ((cfr (Kd.own_blk (Kd.R_away HO_12.out (fun _ hk => by first | exact hk.2 | exact trivial))) ((cfr (Kd.own_blk (Kd.R_away HO_12.out (fun _ hk => by first | exact hk.2 | exact trivial))) ((cfr (Kd.own_blk (Kd.R_away HO_12.out (fun _ hk => by first | exact hk.2 | exact trivial))) ((cfr (Kd.own_blk (Kd.R_away HO_12.out (fun _ hk => by first | exact hk.2 | exact trivial))) (hHeld.2.2.2.2.2.2.2.1)))))))))))))))))), (cfr (Kd.own_blk (Kd.R_away HO_12.out (fun _ hk => by first | exact hk.2 | exact trivial))) ((cfr (Kd.own_blk (Kd.R_away HO_12.out (fun _ hk => by first | exact hk.2 | exact trivial))) ((cfr (Kd.own_blk (Kd.R_away HO_12.out (fun _ hk => by first | exact hk.2 | exact trivial))) ((cfr (Kd.own_blk (Kd.R_away HO_12.out (fun _ hk => by first | exact hk.2 | exact trivial))) ((cfr (Kd.own_blk (Kd.R_away HO_12.out (fun _ hk => by first | exact hk.2 | exact trivial))) ((cfr (Kd.own_blk (Kd.R_away HO_12.out (fun _ hk => by first | exact hk.2 | exact trivial))) ((cfr (Kd.own_blk (Kd.R_away HO_12.out (fun _ hk => by first | exact hk.2 | exact trivial))) ((cfr (Kd.own_blk (Kd.R_away HO_12.out (fun _ hk => by first | exact hk.2 | exact trivial))) ((cfr (Kd.own_blk (Kd.R_away HO_12.out (fun _ hk => by first | exact hk.2 | exact trivial))) (hHeld.2.2.2.2.2.2.2.2))))))))))))))))))⟩ (fun hHeld => ?_)
 clear hK K
 refine done_ (done_of HT_.out (by kernel_rfl)) ?_
 try go_wp2
 go_meet
 case rel => exact ⟨_, (t396), (t397), (t398), (t399), (t400), (t401), (t402), (t403), (t404), H', ⟨by have := HJ5.out; have := HJ16.out; first | omega | exact Nat.le_refl _⟩, ⟨by (with_reducible repeat (first | apply Kd.R_alloc | apply Kd.R_drewN | apply Kd.R_drew)); exact Kd.R_mono (Kd.R_far (p := ⟨gb388, 8, none⟩) (Kd.R_far (p := ⟨gb388, 7, none⟩) (Kd.R_far (p := ⟨gb388, 6, none⟩) (Kd.R_far (p := ⟨gb388, 5, none⟩) (Kd.R_far (p := ⟨gb388, 4, none⟩) (Kd.R_far (p := ⟨gb388, 3, none⟩) (Kd.R_far (p := ⟨gb388, 2, none⟩) (Kd.R_far (p := ⟨gb388, 1, none⟩) (Kd.R_far (p := ⟨gb388, 0, none⟩) (Kd.R_mono HO_12.out (fun k_ hk => (⟨hk, hk.2⟩ : _ ∧ k_ ≠ gb388))) (fun _ hk => hk.2) (.int .i64 t396)) (fun _ hk => hk.2) (.int .i64 t397)) (fun _ hk => hk.2) (.int .i64 t398)) (fun _ hk => hk.2) (.int .i64 t399)) (fun _ hk => hk.2) (.int .i64 t400)) (fun _ hk => hk.2) (.int .i64 t401)) (fun _ hk => hk.2) (.int .i64 t402)) (fun _ hk => hk.2) (.int .i64 t403)) (fun _ hk => hk.2) (.int .i64 t404)) (fun _ hk => ⟨hk.1.1, hk.1.2⟩)⟩, ⟨by (with_reducible repeat (first | refine blk_drewN ?_ _ | refine blk_drew ?_ | refine blk_alloc ?_ _)); refine blk_far ?_ NB366_388.out _; (with_reducible repeat (first | refine blk_drewN ?_ _ | refine blk_drew ?_ | refine blk_alloc ?_ _)); refine blk_far ?_ NB366_388.out _; (with_reducible repeat (first | refine blk_drewN ?_ _ | refine blk_drew ?_ | refine blk_alloc ?_ _)); refine blk_far ?_ NB366_388.out _; (with_reducible repeat (first | refine blk_drewN ?_ _ | refine blk_drew ?_ | refine blk_alloc ?_ _)); refine blk_far ?_ NB366_388.out _; (with_reducible repeat (first | refine blk_drewN ?_ _ | refine blk_drew ?_ | refine blk_alloc ?_ _)); refine blk_far ?_ NB366_388.out _; (with_reducible repeat (first | refine blk_drewN ?_ _ | refine blk_drew ?_ | refine blk_alloc ?_ _)); refine blk_far ?_ NB366_388.out _; (with_reducible repeat (first | refine blk_drewN ?_ _ | refine blk_drew ?_ | refine blk_alloc ?_ _)); refine blk_far ?_ NB366_388.out _; (with_reducible repeat (first | refine blk_drewN ?_ _ | refine blk_drew ?_ | refine blk_alloc ?_ _)); refine blk_far ?_ NB366_388.out _; (with_reducible repeat (first | refine blk_drewN ?_ _ | refine blk_drew ?_ | refine blk_alloc ?_ _)); refine blk_far ?_ NB366_388.out _; (with_reducible repeat (first | refine blk_drewN ?_ _ | refine blk_drew ?_ | refine blk_alloc ?_ _)); exact BK366.out⟩, ⟨pu BK388.out⟩, ⟨bq3 HB.out (IsS48.ge HI370.out) GE366.out GE388.out⟩⟩)
 ·(
 rw [if_neg c42] at H
 exact absurd H (by simp)))
 ·(
 rw [if_neg c41] at H
 exact absurd H (by simp)))
 ·(
 rw [if_neg c39] at H
 have c39b0 : decide (0 < (x12_16.length : Int)) = false := decide_eq_false c39
 have c39b1 : decide (0 < x12_16.length) = false := decide_eq_false (by omega)
 have c39b2 : ¬ 0 < x12_16.length := of_decide_eq_false c39b1
 clear c39
 (first | rw [c39b0] | (simp only [i64_w, i32_w]; rw [c39b0]) | skip)
 have H' := Aside0.mk H
 clear H
 go_wp2
 go_meet
 case rel => exact ⟨_, (a1_0), (a1_1), (a1_2), (a1_3), (a1_4), (a1_5), (a1_6), (a1_7), (a1_8), H', ⟨by have := HJ5.out; have := HJ16.out; first | omega | exact Nat.le_refl _⟩, ⟨by (with_reducible repeat (first | apply Kd.R_alloc | apply Kd.R_drewN | apply Kd.R_drew)); exact Kd.R_mono (Kd.R_far (p := ⟨gb388, 8, none⟩) (Kd.R_far (p := ⟨gb388, 7, none⟩) (Kd.R_far (p := ⟨gb388, 6, none⟩) (Kd.R_far (p := ⟨gb388, 5, none⟩) (Kd.R_far (p := ⟨gb388, 4, none⟩) (Kd.R_far (p := ⟨gb388, 3, none⟩) (Kd.R_far (p := ⟨gb388, 2, none⟩) (Kd.R_far (p := ⟨gb388, 1, none⟩) (Kd.R_far (p := ⟨gb388, 0, none⟩) (Kd.R_mono HO_12.out (fun k_ hk => (⟨hk, hk.2⟩ : _ ∧ k_ ≠ gb388))) (fun _ hk => hk.2) (.int .i64 a1_0)) (fun _ hk => hk.2) (.int .i64 a1_1)) (fun _ hk => hk.2) (.int .i64 a1_2)) (fun _ hk => hk.2) (.int .i64 a1_3)) (fun _ hk => hk.2) (.int .i64 a1_4)) (fun _ hk => hk.2) (.int .i64 a1_5)) (fun _ hk => hk.2) (.int .i64 a1_6)) (fun _ hk => hk.2) (.int .i64 a1_7)) (fun _ hk => hk.2) (.int .i64 a1_8)) (fun _ hk => ⟨hk.1.1, hk.1.2⟩)⟩, ⟨by (with_reducible repeat (first | refine blk_drewN ?_ _ | refine blk_drew ?_ | refine blk_alloc ?_ _)); refine blk_far ?_ NB366_388.out _; (with_reducible repeat (first | refine blk_drewN ?_ _ | refine blk_drew ?_ | refine blk_alloc ?_ _)); refine blk_far ?_ NB366_388.out _; (with_reducible repeat (first | refine blk_drewN ?_ _ | refine blk_drew ?_ | refine blk_alloc ?_ _)); refine blk_far ?_ NB366_388.out _; (with_reducible repeat (first | refine blk_drewN ?_ _ | refine blk_drew ?_ | refine blk_alloc ?_ _)); refine blk_far ?_ NB366_388.out _; (with_reducible repeat (first | refine blk_drewN ?_ _ | refine blk_drew ?_ | refine blk_alloc ?_ _)); refine blk_far ?_ NB366_388.out _; (with_reducible repeat (first | refine blk_drewN ?_ _ | refine blk_drew ?_ | refine blk_alloc ?_ _)); refine blk_far ?_ NB366_388.out _; (with_reducible repeat (first | refine blk_drewN ?_ _ | refine blk_drew ?_ | refine blk_alloc ?_ _)); refine blk_far ?_ NB366_388.out _; (with_reducible repeat (first | refine blk_drewN ?_ _ | refine blk_drew ?_ | refine blk_alloc ?_ _)); refine blk_far ?_ NB366_388.out _; (with_reducible repeat (first | refine blk_drewN ?_ _ | refine blk_drew ?_ | refine blk_alloc ?_ _)); refine blk_far ?_ NB366_388.out _; (with_reducible repeat (first | refine blk_drewN ?_ _ | refine blk_drew ?_ | refine blk_alloc ?_ _)); exact BK366.out⟩, ⟨pu BK388.out⟩, ⟨bq3 HB.out (IsS48.ge HI370.out) GE366.out GE388.out⟩⟩))
 case rest =>(
 clear HC31
 try clear c1
 try clear c2
 try clear p2
 try clear c3
 try clear p3
 try clear q3
 try clear hx3
 try clear c4
 try clear c5
 try clear c6
 try clear c7
 try clear c8
 try clear c9
 try clear c12
 try clear c16
 try clear c24
 try clear c24b0
 try clear c24b1
 try clear c26
 try clear c26b0
 try clear c27
 try clear c27b0
 try clear c28
 try clear c32
 try clear c35
 try clear c36
 try clear p38
 try clear q38
 try clear hx38
 try clear c39
 try clear c39b0
 try clear c39b1
 try clear p39
 try clear q39
 try clear hx39
 try clear c41
 try clear c41b0
 try clear c42
 try clear c42b0
 try clear hcz33_0
 try clear hcz33_1
 try clear hcz33_2
 try clear hcz33_3
 try clear hcz33_4
 try clear hcz33_5
 try clear hcz33_6
 try clear hcz33_7
 try clear hcz33_8
 try clear hcz37_0
 try clear hcz37_1
 try clear hcz37_2
 try clear hcz37_3
 try clear hcz37_4
 try clear hcz37_5
 try clear hcz37_6
 try clear hcz37_7
 try clear hcz37_8
 try clear hfz33_0
 try clear hfz33_1
 try clear hfz33_2
 try clear hfz33_3
 try clear hfz33_4
 try clear hfz33_5
 try clear hfz33_6
 try clear hfz33_7
 try clear hfz33_8
 try clear hfz37_0
 try clear hfz37_1
 try clear hfz37_2
 try clear hfz37_3
 try clear hfz37_4
 try clear hfz37_5
 try clear hfz37_6
 try clear hfz37_7
 try clear hfz37_8
 try clear hx384_0
 try clear hx384_1
 try clear hx384_2
 try clear hx384_3
 try clear hx384_4
 try clear hx384_5
 try clear hx384_6
 try clear hx384_7
 try clear hx384_8
 try clear hx391_0
 try clear hx391_1
 try clear hx391_2
 try clear hx391_3
 try clear hx391_4
 try clear hx391_5
 try clear hx391_6
 try clear hx391_7
 try clear hx391_8
 try clear p2
 try clear p3
 try clear p384
 try clear p391
 try clear q3
 try clear q384
 try clear q391
 obtain ⟨kq, x389000_30, x389001_30, x389002_30, x389003_30, x389004_30, x389005_30, x389006_30, x389007_30, x389008_30, HA, HJ30, HO_12, BK366, BK388, HB⟩ := hcut
 cases kq with
 | zero => exact absurd HA.out (by simp [rollbacknetlaw27_DeterminantLists.j2])
 | succ kj30 =>(
 have H := HA.out
 clear HA
 simp only [rollbacknetlaw27_DeterminantLists.j2] at H
 obtain ⟨t405, A61, H⟩ := bnd H
 obtain ⟨t406, A62, H⟩ := bnd H
 obtain ⟨t407, A63, H⟩ := bnd H
 obtain ⟨t410, A64, H⟩ := bnd H
 obtain ⟨t413, A65, H⟩ := bnd H
 by_cases c66 : t413 = true
 ·(
 subst c66
 replace H := ifp H
 obtain ⟨t414, A67, H⟩ := bnd H
 obtain ⟨t417, A68, H⟩ := bnd H
 obtain ⟨t420, A69, H⟩ := bnd H
 try go_wp2_with (first | ((with_reducible refine gate_callee (f := 9) rfl ?_); refine gl (some 63) Try.func9 #[.int .i64 a3, .int .i64 3] ?_; (with_reducible refine (rollbacknetmake_Mod.calls a3 3 t405 _ A61.out).mono ?_); rintro e w' ⟨rfl, ⟨nd, rfl⟩⟩; refine ⟨_, rfl, ?_⟩) | ((with_reducible refine gate_callee (f := 9) rfl ?_); refine gl (some 65) Try.func9 #[.int .i64 a4, .int .i64 8] ?_; (with_reducible refine (rollbacknetmake_Mod.calls a4 8 t406 _ A62.out).mono ?_); rintro e w' ⟨rfl, ⟨nd, rfl⟩⟩; refine ⟨_, rfl, ?_⟩))
 (try (rw [drewN_self wc]; generalize hq_ : World.drewN wc _ = wc; have n0_ : Aside0 (Kd.R k28 28 wc w.heap.size (fun k_ => k_ ≠ gb366 ∧ k_ ≠ gb388) (.slice Ao38 x12_16.length co38) x12_16) := ⟨by rw [← hq_]; exact (rq HO_12.out)⟩; have n1_ : Aside0 (wc.heap[gb366]? = some (.cells #[.int .i64 a1_0, .int .i64 a1_1, .int .i64 a1_2, .int .i64 a1_3, .int .i64 a1_4, .int .i64 a1_5, .int .i64 a1_6, .int .i64 a1_7, .int .i64 a1_8] 28 (0, 0))) := ⟨by rw [← hq_]; exact (kq BK366.out)⟩; have n2_ : Aside0 (wc.heap[gb388]? = some (.cells #[.int .i64 x389000_30, .int .i64 x389001_30, .int .i64 x389002_30, .int .i64 x389003_30, .int .i64 x389004_30, .int .i64 x389005_30, .int .i64 x389006_30, .int .i64 x389007_30, .int .i64 x389008_30] 28 (0, 0))) := ⟨by rw [← hq_]; exact (kq BK388.out)⟩; have n3_ : Aside0 (Below w.heap.size w wc) := ⟨by rw [← hq_]; exact (bq2 HB.out GE366.out GE388.out)⟩; clear HO_12 BK366 BK388 HB hq_; have HO_12 := n0_; have BK366 := n1_; have BK388 := n2_; have HB := n3_; clear n0_ n1_ n2_ n3_))
 have n0_ := Aside0.mk (Kd.R_drew HO_12.out)
 have n1_ := Aside0.mk (blk_drew BK366.out)
 have n2_ := Aside0.mk (blk_drew BK388.out)
 have n3_ := Aside0.mk (below_drew1 HB.out)
 clear HO_12
 clear BK366
 clear BK388
 clear HB
 have HO_12 := n0_
 have BK366 := n1_
 have BK388 := n2_
 have HB := n3_
 clear n0_ n1_ n2_ n3_
 refine start_ (n := 79) (S := fun w' => w'.cell? ⟨gb366, 0, none⟩ = some (.int .i64 a1_0) ∧ w'.cell? ⟨gb366, 1, none⟩ = some (.int .i64 a1_1) ∧ w'.cell? ⟨gb366, 2, none⟩ = some (.int .i64 a1_2) ∧ w'.cell? ⟨gb366, 3, none⟩ = some (.int .i64 a1_3) ∧ w'.cell? ⟨gb366, 4, none⟩ = some (.int .i64 a1_4) ∧ w'.cell? ⟨gb366, 5, none⟩ = some (.int .i64 a1_5) ∧ w'.cell? ⟨gb366, 6, none⟩ = some (.int .i64 a1_6) ∧ w'.cell? ⟨gb366, 7, none⟩ = some (.int .i64 a1_7) ∧ w'.cell? ⟨gb366, 8, none⟩ = some (.int .i64 a1_8) ∧ w'.cell? ⟨gb388, 0, none⟩ = some (.int .i64 x389000_30) ∧ w'.cell? ⟨gb388, 1, none⟩ = some (.int .i64 x389001_30) ∧ w'.cell? ⟨gb388, 2, none⟩ = some (.int .i64 x389002_30) ∧ w'.cell? ⟨gb388, 3, none⟩ = some (.int .i64 x389003_30) ∧ w'.cell? ⟨gb388, 4, none⟩ = some (.int .i64 x389004_30) ∧ w'.cell? ⟨gb388, 5, none⟩ = some (.int .i64 x389005_30) ∧ w'.cell? ⟨gb388, 6, none⟩ = some (.int .i64 x389006_30) ∧ w'.cell? ⟨gb388, 7, none⟩ = some (.int .i64 x389007_30) ∧ w'.cell? ⟨gb388, 8, none⟩ = some (.int .i64 x389008_30)) (ds := []) #[false, false, false, false, false, false, false, false, false, false, false, false, false, false, false, false, false, false, false, false, false, false, false, false, false, false, false, false, false, false, false, false, false, false, false, false, false, false, false, false, false, false, false, false, false, false, false, false, false, false, false, false, false, false, false, false, false, false, false, false, false, false, false, false, false, false, false, false, false, false, false, false, false, false, false, false, false, false, false] (by kernel_rfl) rfl rfl (c9 BK366.out (c9' BK388.out)) (fun hHeld => ?_); refine with_tabW rollbacknetlaw27_DeterminantLists.tab11 rollbacknetlaw27_DeterminantLists.bits11 (fun HT_ HW_ => ?_)
 generalize wc.drew = w92 at HO_12 BK366 BK388 HB hHeld ⊢
 refine pur HT_.out 0 (some 66) (bm 79 1) ?_
 refine pur HT_.out 3 (some 69) (bm 79 9) ?_
 refine tak HT_.out HW_.out 1 (some 67) (bm 79 11) hHeld ?_
 refine tak HT_.out HW_.out 4 (some 70) (bm 79 27) hHeld ?_
 refine one_ (i := 2) (N := some 68) (bm 79 31) rfl rfl (one_of HT_.out (by kernel_rfl)) (by decide) (fun K hK => ?_)
 refine gs Try.func11 #[.slice A0 l0.length c0, .agg #[.int .i64 a1_0, .int .i64 a1_1, .int .i64 a1_2, .int .i64 a1_3, .int .i64 a1_4, .int .i64 a1_5, .int .i64 a1_6, .int .i64 a1_7, .int .i64 a1_8]] ?_
 with_reducible refine (determinant_Add.calls kj30 _ _ l0 a1_0 a1_1 a1_2 a1_3 a1_4 a1_5 a1_6 a1_7 a1_8 t407 _ ?side1 ?side2 A63.out).mono ?_
 (case side1 => exact crd (Kd.C_below HR0.out HB.out))
 (case side2 => exact HC0.out)
 rintro e w93 ⟨v408, rfl, ho0, hb⟩
 refine ⟨_, rfl, ?_⟩
 have n0_ := Aside0.mk (Kd.R_elder' (rq HO_12.out) (Kd.R_base ho0) hb)
 have n1_ := Aside0.mk (Kd.R_lower (rnb (rnb (Kd.R_new' ho0 (Kd.R_lt (rq HO_12.out))) BK366.out) BK388.out) (below_size (bq2 HB.out GE366.out GE388.out)))
 have n2_ := Aside0.mk (bb BK366.out hb)
 have n3_ := Aside0.mk (bb BK388.out hb)
 have n4_ := Aside0.mk (below_step (bq2 HB.out GE366.out GE388.out) hb)
 clear HO_12
 clear BK366
 clear BK388
 clear HB
 have HO_12 := n0_
 have HO409 := n1_
 have BK366 := n2_
 have BK388 := n3_
 have HB := n4_
 clear n0_ n1_ n2_ n3_ n4_
 (try clear hb)
 (try clear hb2)
 (try clear hk)
 (try clear hi)
 (try clear ho0)
 refine hK.out _ _ (c9 BK366.out (c9' BK388.out)) (fun hHeld => ?_)
 clear hK K
 refine nrm 68 ?_
 refine one_ (i := 5) (N := some 71) (bm 79 63) rfl rfl (one_of HT_.out (by kernel_rfl)) (by decide) (fun K hK => ?_)
 refine gs Try.func12 #[.slice A0 l0.length c0, .agg #[.int .i64 a1_0, .int .i64 a1_1, .int .i64 a1_2, .int .i64 a1_3, .int .i64 a1_4, .int .i64 a1_5, .int .i64 a1_6, .int .i64 a1_7, .int .i64 a1_8]] ?_
 with_reducible refine (rollbacknetref27_Add.calls kj30 _ _ l0 a1_0 a1_1 a1_2 a1_3 a1_4 a1_5 a1_6 a1_7 a1_8 t410 _ ?side1 ?side2 A64.out).mono ?_
 (case side1 => exact crd (Kd.C_below HR0.out HB.out))
 (case side2 => exact HC0.out)
 rintro e w94 ⟨v411, rfl, ho0, hb⟩
 refine ⟨_, rfl, ?_⟩
 have n0_ := Aside0.mk (Kd.R_elder' (rq HO_12.out) (Kd.R_base ho0) hb)
 have n1_ := Aside0.mk (Kd.R_elder' (rq HO409.out) (Kd.R_base ho0) hb)
 have n2_ := Aside0.mk (Kd.R_lower (rnb (rnb (Kd.R_new' (Kd.R_new' ho0 (Kd.R_lt (rq HO_12.out))) (Kd.R_lt (rq HO409.out))) BK366.out) BK388.out) (below_size (bq2 HB.out GE366.out GE388.out)))
 have n3_ := Aside0.mk (bb BK366.out hb)
 have n4_ := Aside0.mk (bb BK388.out hb)
 have n5_ := Aside0.mk (below_step (bq2 HB.out GE366.out GE388.out) hb)
 clear HO_12
 clear HO409
 clear BK366
 clear BK388
 clear HB
 have HO_12 := n0_
 have HO409 := n1_
 have HO412 := n2_
 have BK366 := n3_
 have BK388 := n4_
 have HB := n5_
 clear n0_ n1_ n2_ n3_ n4_ n5_
 (try clear hb)
 (try clear hb2)
 (try clear hk)
 (try clear hi)
 (try clear ho0)
 obtain ⟨Ao95, co95, eo95⟩ := Kd.R_slice HO409.out
 (first | subst eo95 | (injection eo95 with f1_ f2_ f3_; have f4_ := f1_.symm; have f5_ := f3_.symm; clear f1_ f2_ f3_; subst f4_; subst f5_))
 obtain ⟨Ao96, co96, eo96⟩ := Kd.R_slice HO412.out
 (first | subst eo96 | (injection eo96 with f1_ f2_ f3_; have f4_ := f1_.symm; have f5_ := f3_.symm; clear f1_ f2_ f3_; subst f4_; subst f5_))
 refine hK.out _ _ (c9 BK366.out (c9' BK388.out)) (fun hHeld => ?_)
 clear hK K
 refine nrm 71 ?_
 refine one_ (i := 6) (N := some 72) (bm 79 127) rfl rfl (one_of HT_.out (by kernel_rfl)) (by decide) (fun K hK => ?_)
 refine gs Try.func10 #[.slice Ao95 t407.length co95, .slice Ao96 t410.length co96] ?_
 with_reducible refine (rollbacknetref27_Same.calls kj30 _ _ t407 _ _ t410 true _ ?side1 ?side2 ?side3 ?side4 A65.out).mono ?_
 (case side1 => exact crd (Kd.R_reads' HO409.out).2.2)
 (case side2 => exact (Kd.R_reads' HO409.out).2.1)
 (case side3 => exact crd (Kd.R_reads' HO412.out).2.2)
 (case side4 => exact (Kd.R_reads' HO412.out).2.1)
 rintro e w' ⟨rfl, ⟨nd, rfl⟩⟩
 refine ⟨_, rfl, ?_⟩
 refine hK.out _ _ (c9 BK366.out (c9' BK388.out)) (fun hHeld => ?_)
 clear hK K
 refine nrm 72 ?_
 refine pur HT_.out 7 (some 73) (bm 79 255) ?_
 refine pur HT_.out 8 (some 74) (bm 79 511) ?_
 refine pur HT_.out 11 (some 77) (bm 79 2559) ?_
 refine tak HT_.out HW_.out 9 (some 75) (bm 79 3071) hHeld ?_
 refine tak HT_.out HW_.out 12 (some 78) (bm 79 7167) hHeld ?_
 refine one_ (i := 10) (N := some 76) (bm 79 8191) rfl rfl (one_of HT_.out (by kernel_rfl)) (by decide) (fun K hK => ?_)
 refine gs Try.func11 #[.slice Ao38 x12_16.length co38, .agg #[.int .i64 x389000_30, .int .i64 x389001_30, .int .i64 x389002_30, .int .i64 x389003_30, .int .i64 x389004_30, .int .i64 x389005_30, .int .i64 x389006_30, .int .i64 x389007_30, .int .i64 x389008_30]] ?_
 with_reducible refine (determinant_Add.calls kj30 _ _ x12_16 x389000_30 x389001_30 x389002_30 x389003_30 x389004_30 x389005_30 x389006_30 x389007_30 x389008_30 t414 _ ?side1 ?side2 A67.out).mono ?_
 (case side1 => exact crd (Kd.R_reads' HO_12.out).2.2)
 (case side2 => exact (Kd.R_reads' HO_12.out).2.1)
 rintro e w97 ⟨v415, rfl, ho0, hb⟩
 refine ⟨_, rfl, ?_⟩
 have n0_ := Aside0.mk (Kd.R_elder' (rq HO_12.out) (Kd.R_base ho0) hb)
 have n1_ := Aside0.mk (Kd.R_elder' (rq HO409.out) (Kd.R_base ho0) hb)
 have n2_ := Aside0.mk (Kd.R_elder' (rq HO412.out) (Kd.R_base ho0) hb)
 have n3_ := Aside0.mk (Kd.R_lower (rnb (rnb (Kd.R_new' (Kd.R_new' (Kd.R_new' ho0 (Kd.R_lt (rq HO_12.out))) (Kd.R_lt (rq HO409.out))) (Kd.R_lt (rq HO412.out))) BK366.out) BK388.out) (below_size (bq2 HB.out GE366.out GE388.out)))
 have n4_ := Aside0.mk (bb BK366.out hb)
 have n5_ := Aside0.mk (bb BK388.out hb)
 have n6_ := Aside0.mk (below_step (bq2 HB.out GE366.out GE388.out) hb)
 clear HO_12
 clear HO409
 clear HO412
 clear BK366
 clear BK388
 clear HB
 have HO_12 := n0_
 have HO409 := n1_
 have HO412 := n2_
 have HO416 := n3_
 have BK366 := n4_
 have BK388 := n5_
 have HB := n6_
 clear n0_ n1_ n2_ n3_ n4_ n5_ n6_
 (try clear hb)
 (try clear hb2)
 (try clear hk)
 (try clear hi)
 (try clear ho0)
 refine hK.out _ _ (c9 BK366.out (c9' BK388.out)) (fun hHeld => ?_)
 clear hK K
 refine nrm 76 ?_
 refine one_ (i := 13) (N := some 79) (bm 79 16383) rfl rfl (one_of HT_.out (by kernel_rfl)) (by decide) (fun K hK => ?_)
 refine gs Try.func12 #[.slice Ao38 x12_16.length co38, .agg #[.int .i64 x389000_30, .int .i64 x389001_30, .int .i64 x389002_30, .int .i64 x389003_30, .int .i64 x389004_30, .int .i64 x389005_30, .int .i64 x389006_30, .int .i64 x389007_30, .int .i64 x389008_30]] ?_
 with_reducible refine (rollbacknetref27_Add.calls kj30 _ _ x12_16 x389000_30 x389001_30 x389002_30 x389003_30 x389004_30 x389005_30 x389006_30 x389007_30 x389008_30 t417 _ ?side1 ?side2 A68.out).mono ?_
 (case side1 => exact crd (Kd.R_reads' HO_12.out).2.2)
 (case side2 => exact (Kd.R_reads' HO_12.out).2.1)
 rintro e w98 ⟨v418, rfl, ho0, hb⟩
 refine ⟨_, rfl, ?_⟩
 have n0_ := Aside0.mk (Kd.R_elder' (rq HO_12.out) (Kd.R_base ho0) hb)
 have n1_ := Aside0.mk (Kd.R_elder' (rq HO409.out) (Kd.R_base ho0) hb)
 have n2_ := Aside0.mk (Kd.R_elder' (rq HO412.out) (Kd.R_base ho0) hb)
 have n3_ := Aside0.mk (Kd.R_elder' (rq HO416.out) (Kd.R_base ho0) hb)
 have n4_ := Aside0.mk (Kd.R_lower (rnb (rnb (Kd.R_new' (Kd.R_new' (Kd.R_new' (Kd.R_new' ho0 (Kd.R_lt (rq HO_12.out))) (Kd.R_lt (rq HO409.out))) (Kd.R_lt (rq HO412.out))) (Kd.R_lt (rq HO416.out))) BK366.out) BK388.out) (below_size (bq2 HB.out GE366.out GE388.out)))
 have n5_ := Aside0.mk (bb BK366.out hb)
 have n6_ := Aside0.mk (bb BK388.out hb)
 have n7_ := Aside0.mk (below_step (bq2 HB.out GE366.out GE388.out) hb)
 clear HO_12
 clear HO409
 clear HO412
 clear HO416
 clear BK366
 clear BK388
 clear HB
 have HO_12 := n0_
 have HO409 := n1_
 have HO412 := n2_
 have HO416 := n3_
 have HO419 := n4_
 have BK366 := n5_
 have BK388 := n6_
 have HB := n7_
 clear n0_ n1_ n2_ n3_ n4_ n5_ n6_ n7_
 (try clear hb)
 (try clear hb2)
 (try clear hk)
 (try clear hi)
 (try clear ho0)
 obtain ⟨Ao99, co99, eo99⟩ := Kd.R_slice HO416.out
 (first | subst eo99 | (injection eo99 with f1_ f2_ f3_; have f4_ := f1_.symm; have f5_ := f3_.symm; clear f1_ f2_ f3_; subst f4_; subst f5_))
 obtain ⟨Ao100, co100, eo100⟩ := Kd.R_slice HO419.out
 (first | subst eo100 | (injection eo100 with f1_ f2_ f3_; have f4_ := f1_.symm; have f5_ := f3_.symm; clear f1_ f2_ f3_; subst f4_; subst f5_))
 refine hK.out _ _ (c9 BK366.out (c9' BK388.out)) (fun hHeld => ?_)
 clear hK K
 refine nrm 79 ?_
 refine one_ (i := 14) (N := some 80) (bm 79 32767) rfl rfl (one_of HT_.out (by kernel_rfl)) (by decide) (fun K hK => ?_)
 refine gs Try.func10 #[.slice Ao99 t414.length co99, .slice Ao100 t417.length co100] ?_
 by_cases c70 : t420 = true
 ·(
 subst c70
 replace H := ifp H
 obtain ⟨t421, A71, H⟩ := bnd H
 obtain ⟨t422, A72, H⟩ := bnd H
 with_reducible refine (rollbacknetref27_Same.calls kj30 _ _ t414 _ _ t417 true _ ?side1 ?side2 ?side3 ?side4 A69.out).mono ?_
 (case side1 => exact crd (Kd.R_reads' HO416.out).2.2)
 (case side2 => exact (Kd.R_reads' HO416.out).2.1)
 (case side3 => exact crd (Kd.R_reads' HO419.out).2.2)
 (case side4 => exact (Kd.R_reads' HO419.out).2.1)
 rintro e w' ⟨rfl, ⟨nd, rfl⟩⟩
 refine ⟨_, rfl, ?_⟩
 refine hK.out _ _ (c9 BK366.out (c9' BK388.out)) (fun hHeld => ?_)
 clear hK K
 refine nrm 80 ?_
 refine pur HT_.out 15 (some 81) (bm 79 65535) ?_
 refine pur HT_.out 16 (some 82) (bm 79 131071) ?_
 refine pur HT_.out 17 (some 83) (bm 79 262143) ?_
 refine pur HT_.out 20 (some 86) (bm 79 1310719) ?_
 refine tak HT_.out HW_.out 18 (some 84) (bm 79 1572863) hHeld ?_
 refine tak HT_.out HW_.out 21 (some 87) (bm 79 3670015) hHeld ?_
 refine one_ (i := 19) (N := some 85) (bm 79 4194303) rfl rfl (one_of HT_.out (by kernel_rfl)) (by decide) (fun K hK => ?_)
 refine gs Try.func13 #[.slice A0 l0.length c0, .agg #[.int .i64 a1_0, .int .i64 a1_1, .int .i64 a1_2, .int .i64 a1_3, .int .i64 a1_4, .int .i64 a1_5, .int .i64 a1_6, .int .i64 a1_7, .int .i64 a1_8]] ?_
 with_reducible refine (determinant_Has.calls kj30 _ _ l0 a1_0 a1_1 a1_2 a1_3 a1_4 a1_5 a1_6 a1_7 a1_8 t421 _ ?side1 ?side2 A71.out).mono ?_
 (case side1 => exact crd (Kd.C_below HR0.out (bq2 HB.out GE366.out GE388.out)))
 (case side2 => exact HC0.out)
 rintro e w101 ⟨rfl, hb⟩
 refine ⟨_, rfl, ?_⟩
 have n0_ := Aside0.mk (Kd.R_below (rq HO_12.out) hb)
 have n1_ := Aside0.mk (Kd.R_below (rq HO409.out) hb)
 have n2_ := Aside0.mk (Kd.R_below (rq HO412.out) hb)
 have n3_ := Aside0.mk (Kd.R_below (rq HO416.out) hb)
 have n4_ := Aside0.mk (Kd.R_below (rq HO419.out) hb)
 have n5_ := Aside0.mk (bb BK366.out hb)
 have n6_ := Aside0.mk (bb BK388.out hb)
 have n7_ := Aside0.mk (below_step (bq2 HB.out GE366.out GE388.out) hb)
 clear HO_12
 clear HO409
 clear HO412
 clear HO416
 clear HO419
 clear BK366
 clear BK388
 clear HB
 have HO_12 := n0_
 have HO409 := n1_
 have HO412 := n2_
 have HO416 := n3_
 have HO419 := n4_
 have BK366 := n5_
 have BK388 := n6_
 have HB := n7_
 clear n0_ n1_ n2_ n3_ n4_ n5_ n6_ n7_
 (try clear hb)
 (try clear hb2)
 (try clear hk)
 (try clear hi)
 refine hK.out _ _ (c9 BK366.out (c9' BK388.out)) (fun hHeld => ?_)
 clear hK K
 refine nrm 85 ?_
 refine one_ (i := 22) (N := some 88) (bm 79 8388607) rfl rfl (one_of HT_.out (by kernel_rfl)) (by decide) (fun K hK => ?_)
 refine gs Try.func14 #[.slice A0 l0.length c0, .agg #[.int .i64 a1_0, .int .i64 a1_1, .int .i64 a1_2, .int .i64 a1_3, .int .i64 a1_4, .int .i64 a1_5, .int .i64 a1_6, .int .i64 a1_7, .int .i64 a1_8]] ?_
 with_reducible refine (rollbacknetref27_Has.calls kj30 _ _ l0 a1_0 a1_1 a1_2 a1_3 a1_4 a1_5 a1_6 a1_7 a1_8 t422 _ ?side1 ?side2 A72.out).mono ?_
 (case side1 => exact crd (Kd.C_below HR0.out HB.out))
 (case side2 => exact HC0.out)
 rintro e w102 ⟨rfl, hb⟩
 refine ⟨_, rfl, ?_⟩
 have n0_ := Aside0.mk (Kd.R_below (rq HO_12.out) hb)
 have n1_ := Aside0.mk (Kd.R_below (rq HO409.out) hb)
 have n2_ := Aside0.mk (Kd.R_below (rq HO412.out) hb)
 have n3_ := Aside0.mk (Kd.R_below (rq HO416.out) hb)
 have n4_ := Aside0.mk (Kd.R_below (rq HO419.out) hb)
 have n5_ := Aside0.mk (bb BK366.out hb)
 have n6_ := Aside0.mk (bb BK388.out hb)
 have n7_ := Aside0.mk (below_step (bq2 HB.out GE366.out GE388.out) hb)
 clear HO_12
 clear HO409
 clear HO412
 clear HO416
 clear HO419
 clear BK366
 clear BK388
 clear HB
 have HO_12 := n0_
 have HO409 := n1_
 have HO412 := n2_
 have HO416 := n3_
 have HO419 := n4_
 have BK366 := n5_
 have BK388 := n6_
 have HB := n7_
 clear n0_ n1_ n2_ n3_ n4_ n5_ n6_ n7_
 (try clear hb)
 (try clear hb2)
 (try clear hk)
 (try clear hi)
 refine hK.out _ _ (c9 BK366.out (c9' BK388.out)) (fun hHeld => ?_)
 clear hK K
 refine nrm 88 ?_
 refine pur HT_.out 23 (some 89) (bm 79 16777215) ?_
 refine pur HT_.out 24 (some 90) (bm 79 33554431) ?_
 refine pur HT_.out 25 (some 91) (bm 79 67108863) ?_
 by_cases c73 : (t421 == t422) = true
 ·(
 rw [if_pos c73] at H
 have c73b0 : (t421 == t422) = true := c73
 (try (have c73b1 : decide (t421 = t422) = true := by simpa using c73))
 (try (have c73b2 : (t421 == t422) = true := by simpa using c73))
 clear c73
 obtain ⟨t423, A74, H⟩ := bnd H
 obtain ⟨t424, A75, H⟩ := bnd H
 (try simp only [c73b0])
 refine pur HT_.out 26 (some 92) (bm 79 134217727) ?_
 refine pur HT_.out 29 (some 95) (bm 79 671088639) ?_
 refine tak HT_.out HW_.out 27 (some 93) (bm 79 805306367) hHeld ?_
 refine tak HT_.out HW_.out 30 (some 96) (bm 79 1879048191) hHeld ?_
 refine one_ (i := 28) (N := some 94) (bm 79 2147483647) rfl rfl (one_of HT_.out (by kernel_rfl)) (by decide) (fun K hK => ?_)
 refine gs Try.func13 #[.slice Ao38 x12_16.length co38, .agg #[.int .i64 x389000_30, .int .i64 x389001_30, .int .i64 x389002_30, .int .i64 x389003_30, .int .i64 x389004_30, .int .i64 x389005_30, .int .i64 x389006_30, .int .i64 x389007_30, .int .i64 x389008_30]] ?_
 with_reducible refine (determinant_Has.calls kj30 _ _ x12_16 x389000_30 x389001_30 x389002_30 x389003_30 x389004_30 x389005_30 x389006_30 x389007_30 x389008_30 t423 _ ?side1 ?side2 A74.out).mono ?_
 (case side1 => exact crd (Kd.R_reads' HO_12.out).2.2)
 (case side2 => exact (Kd.R_reads' HO_12.out).2.1)
 rintro e w103 ⟨rfl, hb⟩
 refine ⟨_, rfl, ?_⟩
 have n0_ := Aside0.mk (Kd.R_below (rq HO_12.out) hb)
 have n1_ := Aside0.mk (Kd.R_below (rq HO409.out) hb)
 have n2_ := Aside0.mk (Kd.R_below (rq HO412.out) hb)
 have n3_ := Aside0.mk (Kd.R_below (rq HO416.out) hb)
 have n4_ := Aside0.mk (Kd.R_below (rq HO419.out) hb)
 have n5_ := Aside0.mk (bb BK366.out hb)
 have n6_ := Aside0.mk (bb BK388.out hb)
 have n7_ := Aside0.mk (below_step (bq2 HB.out GE366.out GE388.out) hb)
 clear HO_12
 clear HO409
 clear HO412
 clear HO416
 clear HO419
 clear BK366
 clear BK388
 clear HB
 have HO_12 := n0_
 have HO409 := n1_
 have HO412 := n2_
 have HO416 := n3_
 have HO419 := n4_
 have BK366 := n5_
 have BK388 := n6_
 have HB := n7_
 clear n0_ n1_ n2_ n3_ n4_ n5_ n6_ n7_
 (try clear hb)
 (try clear hb2)
 (try clear hk)
 (try clear hi)
 refine hK.out _ _ (c9 BK366.out (c9' BK388.out)) (fun hHeld => ?_)
 clear hK K
 refine nrm 94 ?_
 refine one_ (i := 31) (N := some 97) (bm 79 4294967295) rfl rfl (one_of HT_.out (by kernel_rfl)) (by decide) (fun K hK => ?_)
 refine gs Try.func14 #[.slice Ao38 x12_16.length co38, .agg #[.int .i64 x389000_30, .int .i64 x389001_30, .int .i64 x389002_30, .int .i64 x389003_30, .int .i64 x389004_30, .int .i64 x389005_30, .int .i64 x389006_30, .int .i64 x389007_30, .int .i64 x389008_30]] ?_
 with_reducible refine (rollbacknetref27_Has.calls kj30 _ _ x12_16 x389000_30 x389001_30 x389002_30 x389003_30 x389004_30 x389005_30 x389006_30 x389007_30 x389008_30 t424 _ ?side1 ?side2 A75.out).mono ?_
 (case side1 => exact crd (Kd.R_reads' HO_12.out).2.2)
 (case side2 => exact (Kd.R_reads' HO_12.out).2.1)
 rintro e w104 ⟨rfl, hb⟩
 refine ⟨_, rfl, ?_⟩
 have n0_ := Aside0.mk (Kd.R_below (rq HO_12.out) hb)
 have n1_ := Aside0.mk (Kd.R_below (rq HO409.out) hb)
 have n2_ := Aside0.mk (Kd.R_below (rq HO412.out) hb)
 have n3_ := Aside0.mk (Kd.R_below (rq HO416.out) hb)
 have n4_ := Aside0.mk (Kd.R_below (rq HO419.out) hb)
 have n5_ := Aside0.mk (bb BK366.out hb)
 have n6_ := Aside0.mk (bb BK388.out hb)
 have n7_ := Aside0.mk (below_step (bq2 HB.out GE366.out GE388.out) hb)
 clear HO_12
 clear HO409
 clear HO412
 clear HO416
 clear HO419
 clear BK366
 clear BK388
 clear HB
 have HO_12 := n0_
 have HO409 := n1_
 have HO412 := n2_
 have HO416 := n3_
 have HO419 := n4_
 have BK366 := n5_
 have BK388 := n6_
 have HB := n7_
 clear n0_ n1_ n2_ n3_ n4_ n5_ n6_ n7_
 (try clear hb)
 (try clear hb2)
 (try clear hk)
 (try clear hi)
 refine hK.out _ _ (c9 BK366.out (c9' BK388.out)) (fun hHeld => ?_)
 clear hK K
 refine nrm 97 ?_
 refine pur HT_.out 32 (some 98) (bm 79 8589934591) ?_
 refine pur HT_.out 33 (some 99) (bm 79 17179869183) ?_
 refine pur HT_.out 34 (some 100) (bm 79 34359738367) ?_
 by_cases c76 : (t423 == t424) = true
 ·(
 rw [if_pos c76] at H
 have c76b0 : (t423 == t424) = true := c76
 (try (have c76b1 : decide (t423 = t424) = true := by simpa using c76))
 (try (have c76b2 : (t423 == t424) = true := by simpa using c76))
 clear c76
 obtain ⟨t425, A77, H⟩ := bnd H
 obtain ⟨t428, A78, H⟩ := bnd H
 obtain ⟨t431, A79, H⟩ := bnd H
 (try simp only [c76b0])
 refine pur HT_.out 35 (some 101) (bm 79 68719476735) ?_
 refine pur HT_.out 36 (some 102) (bm 79 137438953471) ?_
 refine pur HT_.out 37 (some 103) (bm 79 274877906943) ?_
 refine pur HT_.out 39 (some 105) (bm 79 824633720831) ?_
 refine pur HT_.out 40 (some 106) (bm 79 1924145348607) ?_
 refine pur HT_.out 41 (some 107) (bm 79 4123168604159) ?_
 refine one_ (i := 38) (N := some 104) (bm 79 4398046511103) rfl rfl (one_of HT_.out (by kernel_rfl)) (by decide) (fun K hK => ?_)
 refine gs Try.func15 #[.slice A0 l0.length c0, .int .i64 a3, .int .i64 a4] ?_
 with_reducible refine (determinant_Cut.calls kj30 _ _ l0 a3 a4 t425 _ ?side1 ?side2 A77.out).mono ?_
 (case side1 => exact crd (Kd.C_below HR0.out HB.out))
 (case side2 => exact HC0.out)
 rintro e w105 ⟨v426, rfl, ho0, hb⟩
 refine ⟨_, rfl, ?_⟩
 have n0_ := Aside0.mk (Kd.R_elder' (rq HO_12.out) (Kd.R_base ho0) hb)
 have n1_ := Aside0.mk (Kd.R_elder' (rq HO409.out) (Kd.R_base ho0) hb)
 have n2_ := Aside0.mk (Kd.R_elder' (rq HO412.out) (Kd.R_base ho0) hb)
 have n3_ := Aside0.mk (Kd.R_elder' (rq HO416.out) (Kd.R_base ho0) hb)
 have n4_ := Aside0.mk (Kd.R_elder' (rq HO419.out) (Kd.R_base ho0) hb)
 have n5_ := Aside0.mk (Kd.R_lower (rnb (rnb (Kd.R_new' (Kd.R_new' (Kd.R_new' (Kd.R_new' (Kd.R_new' ho0 (Kd.R_lt (rq HO_12.out))) (Kd.R_lt (rq HO409.out))) (Kd.R_lt (rq HO412.out))) (Kd.R_lt (rq HO416.out))) (Kd.R_lt (rq HO419.out))) BK366.out) BK388.out) (below_size (bq2 HB.out GE366.out GE388.out)))
 have n6_ := Aside0.mk (bb BK366.out hb)
 have n7_ := Aside0.mk (bb BK388.out hb)
 have n8_ := Aside0.mk (below_step (bq2 HB.out GE366.out GE388.out) hb)
 clear HO_12
 clear HO409
 clear HO412
 clear HO416
 clear HO419
 clear BK366
 clear BK388
 clear HB
 have HO_12 := n0_
 have HO409 := n1_
 have HO412 := n2_
 have HO416 := n3_
 have HO419 := n4_
 have HO427 := n5_
 have BK366 := n6_
 have BK388 := n7_
 have HB := n8_
 clear n0_ n1_ n2_ n3_ n4_ n5_ n6_ n7_ n8_
 (try clear hb)
 (try clear hb2)
 (try clear hk)
 (try clear hi)
 (try clear ho0)
 refine hK.out _ _ (c9 BK366.out (c9' BK388.out)) (fun hHeld => ?_)
 clear hK K
 refine nrm 104 ?_
 refine one_ (i := 42) (N := some 108) (bm 79 8796093022207) rfl rfl (one_of HT_.out (by kernel_rfl)) (by decide) (fun K hK => ?_)
 refine gs Try.func16 #[.slice A0 l0.length c0, .int .i64 a3, .int .i64 a4] ?_
 with_reducible refine (rollbacknetref27_Cut.calls kj30 _ _ l0 a3 a4 t428 _ ?side1 ?side2 A78.out).mono ?_
 (case side1 => exact crd (Kd.C_below HR0.out HB.out))
 (case side2 => exact HC0.out)
 rintro e w106 ⟨v429, rfl, ho0, hb⟩
 refine ⟨_, rfl, ?_⟩
 have n0_ := Aside0.mk (Kd.R_elder' (rq HO_12.out) (Kd.R_base ho0) hb)
 have n1_ := Aside0.mk (Kd.R_elder' (rq HO409.out) (Kd.R_base ho0) hb)
 have n2_ := Aside0.mk (Kd.R_elder' (rq HO412.out) (Kd.R_base ho0) hb)
 have n3_ := Aside0.mk (Kd.R_elder' (rq HO416.out) (Kd.R_base ho0) hb)
 have n4_ := Aside0.mk (Kd.R_elder' (rq HO419.out) (Kd.R_base ho0) hb)
 have n5_ := Aside0.mk (Kd.R_elder' (rq HO427.out) (Kd.R_base ho0) hb)
 have n6_ := Aside0.mk (Kd.R_lower (rnb (rnb (Kd.R_new' (Kd.R_new' (Kd.R_new' (Kd.R_new' (Kd.R_new' (Kd.R_new' ho0 (Kd.R_lt (rq HO_12.out))) (Kd.R_lt (rq HO409.out))) (Kd.R_lt (rq HO412.out))) (Kd.R_lt (rq HO416.out))) (Kd.R_lt (rq HO419.out))) (Kd.R_lt (rq HO427.out))) BK366.out) BK388.out) (below_size (bq2 HB.out GE366.out GE388.out)))
 have n7_ := Aside0.mk (bb BK366.out hb)
 have n8_ := Aside0.mk (bb BK388.out hb)
 have n9_ := Aside0.mk (below_step (bq2 HB.out GE366.out GE388.out) hb)
 clear HO_12
 clear HO409
 clear HO412
 clear HO416
 clear HO419
 clear HO427
 clear BK366
 clear BK388
 clear HB
 have HO_12 := n0_
 have HO409 := n1_
 have HO412 := n2_
 have HO416 := n3_
 have HO419 := n4_
 have HO427 := n5_
 have HO430 := n6_
 have BK366 := n7_
 have BK388 := n8_
 have HB := n9_
 clear n0_ n1_ n2_ n3_ n4_ n5_ n6_ n7_ n8_ n9_
 (try clear hb)
 (try clear hb2)
 (try clear hk)
 (try clear hi)
 (try clear ho0)
 obtain ⟨Ao107, co107, eo107⟩ := Kd.R_slice HO427.out
 (first | subst eo107 | (injection eo107 with f1_ f2_ f3_; have f4_ := f1_.symm; have f5_ := f3_.symm; clear f1_ f2_ f3_; subst f4_; subst f5_))
 obtain ⟨Ao108, co108, eo108⟩ := Kd.R_slice HO430.out
 (first | subst eo108 | (injection eo108 with f1_ f2_ f3_; have f4_ := f1_.symm; have f5_ := f3_.symm; clear f1_ f2_ f3_; subst f4_; subst f5_))
 refine hK.out _ _ (c9 BK366.out (c9' BK388.out)) (fun hHeld => ?_)
 clear hK K
 refine nrm 108 ?_
 refine one_ (i := 43) (N := some 109) (bm 79 17592186044415) rfl rfl (one_of HT_.out (by kernel_rfl)) (by decide) (fun K hK => ?_)
 refine gs Try.func10 #[.slice Ao107 t425.length co107, .slice Ao108 t428.length co108] ?_
 by_cases c80 : t431 = true
 ·(
 subst c80
 replace H := ifp H
 obtain ⟨t432, A81, H⟩ := bnd H
 obtain ⟨t435, A82, H⟩ := bnd H
 obtain ⟨t438, A83, H⟩ := bnd H
 with_reducible refine (rollbacknetref27_Same.calls kj30 _ _ t425 _ _ t428 true _ ?side1 ?side2 ?side3 ?side4 A79.out).mono ?_
 (case side1 => exact crd (Kd.R_reads' HO427.out).2.2)
 (case side2 => exact (Kd.R_reads' HO427.out).2.1)
 (case side3 => exact crd (Kd.R_reads' HO430.out).2.2)
 (case side4 => exact (Kd.R_reads' HO430.out).2.1)
 rintro e w' ⟨rfl, ⟨nd, rfl⟩⟩
 refine ⟨_, rfl, ?_⟩
 refine hK.out _ _ (c9 BK366.out (c9' BK388.out)) (fun hHeld => ?_)
 clear hK K
 refine nrm 109 ?_
 refine pur HT_.out 44 (some 110) (bm 79 35184372088831) ?_
 refine pur HT_.out 45 (some 111) (bm 79 70368744177663) ?_
 refine pur HT_.out 46 (some 112) (bm 79 140737488355327) ?_
 refine pur HT_.out 47 (some 113) (bm 79 281474976710655) ?_
 refine pur HT_.out 48 (some 114) (bm 79 562949953421311) ?_
 refine pur HT_.out 50 (some 116) (bm 79 1688849860263935) ?_
 refine pur HT_.out 51 (some 117) (bm 79 3940649673949183) ?_
 refine pur HT_.out 52 (some 118) (bm 79 8444249301319679) ?_
 refine one_ (i := 49) (N := some 115) (bm 79 9007199254740991) rfl rfl (one_of HT_.out (by kernel_rfl)) (by decide) (fun K hK => ?_)
 refine gs Try.func15 #[.slice Ao38 x12_16.length co38, .int .i64 t405, .int .i64 t406] ?_
 with_reducible refine (determinant_Cut.calls kj30 _ _ x12_16 t405 t406 t432 _ ?side1 ?side2 A81.out).mono ?_
 (case side1 => exact crd (Kd.R_reads' HO_12.out).2.2)
 (case side2 => exact (Kd.R_reads' HO_12.out).2.1)
 rintro e w109 ⟨v433, rfl, ho0, hb⟩
 refine ⟨_, rfl, ?_⟩
 have n0_ := Aside0.mk (Kd.R_elder' (rq HO_12.out) (Kd.R_base ho0) hb)
 have n1_ := Aside0.mk (Kd.R_elder' (rq HO409.out) (Kd.R_base ho0) hb)
 have n2_ := Aside0.mk (Kd.R_elder' (rq HO412.out) (Kd.R_base ho0) hb)
 have n3_ := Aside0.mk (Kd.R_elder' (rq HO416.out) (Kd.R_base ho0) hb)
 have n4_ := Aside0.mk (Kd.R_elder' (rq HO419.out) (Kd.R_base ho0) hb)
 have n5_ := Aside0.mk (Kd.R_elder' (rq HO427.out) (Kd.R_base ho0) hb)
 have n6_ := Aside0.mk (Kd.R_elder' (rq HO430.out) (Kd.R_base ho0) hb)
 have n7_ := Aside0.mk (Kd.R_lower (rnb (rnb (Kd.R_new' (Kd.R_new' (Kd.R_new' (Kd.R_new' (Kd.R_new' (Kd.R_new' (Kd.R_new' ho0 (Kd.R_lt (rq HO_12.out))) (Kd.R_lt (rq HO409.out))) (Kd.R_lt (rq HO412.out))) (Kd.R_lt (rq HO416.out))) (Kd.R_lt (rq HO419.out))) (Kd.R_lt (rq HO427.out))) (Kd.R_lt (rq HO430.out))) BK366.out) BK388.out) (below_size (bq2 HB.out GE366.out GE388.out)))
 have n8_ := Aside0.mk (bb BK366.out hb)
 have n9_ := Aside0.mk (bb BK388.out hb)
 have n10_ := Aside0.mk (below_step (bq2 HB.out GE366.out GE388.out) hb)
 clear HO_12
 clear HO409
 clear HO412
 clear HO416
 clear HO419
 clear HO427
 clear HO430
 clear BK366
 clear BK388
 clear HB
 have HO_12 := n0_
 have HO409 := n1_
 have HO412 := n2_
 have HO416 := n3_
 have HO419 := n4_
 have HO427 := n5_
 have HO430 := n6_
 have HO434 := n7_
 have BK366 := n8_
 have BK388 := n9_
 have HB := n10_
 clear n0_ n1_ n2_ n3_ n4_ n5_ n6_ n7_ n8_ n9_ n10_
 (try clear hb)
 (try clear hb2)
 (try clear hk)
 (try clear hi)
 (try clear ho0)
 refine hK.out _ _ (c9 BK366.out (c9' BK388.out)) (fun hHeld => ?_)
 clear hK K
 refine nrm 115 ?_
 refine one_ (i := 53) (N := some 119) (bm 79 18014398509481983) rfl rfl (one_of HT_.out (by kernel_rfl)) (by decide) (fun K hK => ?_)
 refine gs Try.func16 #[.slice Ao38 x12_16.length co38, .int .i64 t405, .int .i64 t406] ?_
 with_reducible refine (rollbacknetref27_Cut.calls kj30 _ _ x12_16 t405 t406 t435 _ ?side1 ?side2 A82.out).mono ?_
 (case side1 => exact crd (Kd.R_reads' HO_12.out).2.2)
 (case side2 => exact (Kd.R_reads' HO_12.out).2.1)
 rintro e w110 ⟨v436, rfl, ho0, hb⟩
 refine ⟨_, rfl, ?_⟩
 have n0_ := Aside0.mk (Kd.R_elder' (rq HO_12.out) (Kd.R_base ho0) hb)
 have n1_ := Aside0.mk (Kd.R_elder' (rq HO409.out) (Kd.R_base ho0) hb)
 have n2_ := Aside0.mk (Kd.R_elder' (rq HO412.out) (Kd.R_base ho0) hb)
 have n3_ := Aside0.mk (Kd.R_elder' (rq HO416.out) (Kd.R_base ho0) hb)
 have n4_ := Aside0.mk (Kd.R_elder' (rq HO419.out) (Kd.R_base ho0) hb)
 have n5_ := Aside0.mk (Kd.R_elder' (rq HO427.out) (Kd.R_base ho0) hb)
 have n6_ := Aside0.mk (Kd.R_elder' (rq HO430.out) (Kd.R_base ho0) hb)
 have n7_ := Aside0.mk (Kd.R_elder' (rq HO434.out) (Kd.R_base ho0) hb)
 have n8_ := Aside0.mk (Kd.R_lower (rnb (rnb (Kd.R_new' (Kd.R_new' (Kd.R_new' (Kd.R_new' (Kd.R_new' (Kd.R_new' (Kd.R_new' (Kd.R_new' ho0 (Kd.R_lt (rq HO_12.out))) (Kd.R_lt (rq HO409.out))) (Kd.R_lt (rq HO412.out))) (Kd.R_lt (rq HO416.out))) (Kd.R_lt (rq HO419.out))) (Kd.R_lt (rq HO427.out))) (Kd.R_lt (rq HO430.out))) (Kd.R_lt (rq HO434.out))) BK366.out) BK388.out) (below_size (bq2 HB.out GE366.out GE388.out)))
 have n9_ := Aside0.mk (bb BK366.out hb)
 have n10_ := Aside0.mk (bb BK388.out hb)
 have n11_ := Aside0.mk (below_step (bq2 HB.out GE366.out GE388.out) hb)
 clear HO_12
 clear HO409
 clear HO412
 clear HO416
 clear HO419
 clear HO427
 clear HO430
 clear HO434
 clear BK366
 clear BK388
 clear HB
 have HO_12 := n0_
 have HO409 := n1_
 have HO412 := n2_
 have HO416 := n3_
 have HO419 := n4_
 have HO427 := n5_
 have HO430 := n6_
 have HO434 := n7_
 have HO437 := n8_
 have BK366 := n9_
 have BK388 := n10_
 have HB := n11_
 clear n0_ n1_ n2_ n3_ n4_ n5_ n6_ n7_ n8_ n9_ n10_ n11_
 (try clear hb)
 (try clear hb2)
 (try clear hk)
 (try clear hi)
 (try clear ho0)
 obtain ⟨Ao111, co111, eo111⟩ := Kd.R_slice HO434.out
 (first | subst eo111 | (injection eo111 with f1_ f2_ f3_; have f4_ := f1_.symm; have f5_ := f3_.symm; clear f1_ f2_ f3_; subst f4_; subst f5_))
 obtain ⟨Ao112, co112, eo112⟩ := Kd.R_slice HO437.out
 (first | subst eo112 | (injection eo112 with f1_ f2_ f3_; have f4_ := f1_.symm; have f5_ := f3_.symm; clear f1_ f2_ f3_; subst f4_; subst f5_))
 refine hK.out _ _ (c9 BK366.out (c9' BK388.out)) (fun hHeld => ?_)
 clear hK K
 refine nrm 119 ?_
 refine one_ (i := 54) (N := some 120) (bm 79 36028797018963967) rfl rfl (one_of HT_.out (by kernel_rfl)) (by decide) (fun K hK => ?_)
 refine gs Try.func10 #[.slice Ao111 t432.length co111, .slice Ao112 t435.length co112] ?_
 by_cases c84 : t438 = true
 ·(
 subst c84
 replace H := ifp H
 obtain ⟨t439, A85, H⟩ := bnd H
 obtain ⟨t442, A86, H⟩ := bnd H
 obtain ⟨t445, A87, H⟩ := bnd H
 with_reducible refine (rollbacknetref27_Same.calls kj30 _ _ t432 _ _ t435 true _ ?side1 ?side2 ?side3 ?side4 A83.out).mono ?_
 (case side1 => exact crd (Kd.R_reads' HO434.out).2.2)
 (case side2 => exact (Kd.R_reads' HO434.out).2.1)
 (case side3 => exact crd (Kd.R_reads' HO437.out).2.2)
 (case side4 => exact (Kd.R_reads' HO437.out).2.1)
 rintro e w' ⟨rfl, ⟨nd, rfl⟩⟩
 refine ⟨_, rfl, ?_⟩
 refine hK.out _ _ (c9 BK366.out (c9' BK388.out)) (fun hHeld => ?_)
 clear hK K
 refine nrm 120 ?_
 refine pur HT_.out 55 (some 121) (bm 79 72057594037927935) ?_
 refine pur HT_.out 56 (some 122) (bm 79 144115188075855871) ?_
 refine pur HT_.out 57 (some 123) (bm 79 288230376151711743) ?_
 refine pur HT_.out 58 (some 124) (bm 79 576460752303423487) ?_
 refine pur HT_.out 59 (some 125) (bm 79 1152921504606846975) ?_
 refine pur HT_.out 61 (some 127) (bm 79 3458764513820540927) ?_
 refine pur HT_.out 62 (some 128) (bm 79 8070450532247928831) ?_
 refine pur HT_.out 63 (some 129) (bm 79 17293822569102704639) ?_
 refine one_ (i := 60) (N := some 126) (bm 79 18446744073709551615) rfl rfl (one_of HT_.out (by kernel_rfl)) (by decide) (fun K hK => ?_)
 refine gs Try.func17 #[.slice A0 l0.length c0, .int .i64 a3, .int .i64 a4] ?_
 with_reducible refine (determinant_Discard.calls kj30 _ _ l0 a3 a4 t439 _ ?side1 ?side2 A85.out).mono ?_
 (case side1 => exact crd (Kd.C_below HR0.out (bq2 HB.out GE366.out GE388.out)))
 (case side2 => exact HC0.out)
 rintro e w113 ⟨v440, rfl, ho0, hb⟩
 refine ⟨_, rfl, ?_⟩
 have n0_ := Aside0.mk (Kd.R_elder' (rq HO_12.out) (Kd.R_base ho0) hb)
 have n1_ := Aside0.mk (Kd.R_elder' (rq HO409.out) (Kd.R_base ho0) hb)
 have n2_ := Aside0.mk (Kd.R_elder' (rq HO412.out) (Kd.R_base ho0) hb)
 have n3_ := Aside0.mk (Kd.R_elder' (rq HO416.out) (Kd.R_base ho0) hb)
 have n4_ := Aside0.mk (Kd.R_elder' (rq HO419.out) (Kd.R_base ho0) hb)
 have n5_ := Aside0.mk (Kd.R_elder' (rq HO427.out) (Kd.R_base ho0) hb)
 have n6_ := Aside0.mk (Kd.R_elder' (rq HO430.out) (Kd.R_base ho0) hb)
 have n7_ := Aside0.mk (Kd.R_elder' (rq HO434.out) (Kd.R_base ho0) hb)
 have n8_ := Aside0.mk (Kd.R_elder' (rq HO437.out) (Kd.R_base ho0) hb)
 have n9_ := Aside0.mk (Kd.R_lower (rnb (rnb (Kd.R_new' (Kd.R_new' (Kd.R_new' (Kd.R_new' (Kd.R_new' (Kd.R_new' (Kd.R_new' (Kd.R_new' (Kd.R_new' ho0 (Kd.R_lt (rq HO_12.out))) (Kd.R_lt (rq HO409.out))) (Kd.R_lt (rq HO412.out))) (Kd.R_lt (rq HO416.out))) (Kd.R_lt (rq HO419.out))) (Kd.R_lt (rq HO427.out))) (Kd.R_lt (rq HO430.out))) (Kd.R_lt (rq HO434.out))) (Kd.R_lt (rq HO437.out))) BK366.out) BK388.out) (below_size (bq2 HB.out GE366.out GE388.out)))
 have n10_ := Aside0.mk (bb BK366.out hb)
 have n11_ := Aside0.mk (bb BK388.out hb)
 have n12_ := Aside0.mk (below_step (bq2 HB.out GE366.out GE388.out) hb)
 clear HO_12
 clear HO409
 clear HO412
 clear HO416
 clear HO419
 clear HO427
 clear HO430
 clear HO434
 clear HO437
 clear BK366
 clear BK388
 clear HB
 have HO_12 := n0_
 have HO409 := n1_
 have HO412 := n2_
 have HO416 := n3_
 have HO419 := n4_
 have HO427 := n5_
 have HO430 := n6_
 have HO434 := n7_
 have HO437 := n8_
 have HO441 := n9_
 have BK366 := n10_
 have BK388 := n11_
 have HB := n12_
 clear n0_ n1_ n2_ n3_ n4_ n5_ n6_ n7_ n8_ n9_ n10_ n11_ n12_
 (try clear hb)
 (try clear hb2)
 (try clear hk)
 (try clear hi)
 (try clear ho0)
 refine hK.out _ _ (c9 BK366.out (c9' BK388.out)) (fun hHeld => ?_)
 clear hK K
 refine nrm 126 ?_
 refine one_ (i := 64) (N := some 130) (bm 79 36893488147419103231) rfl rfl (one_of HT_.out (by kernel_rfl)) (by decide) (fun K hK => ?_)
 refine gs Try.func18 #[.slice A0 l0.length c0, .int .i64 a3, .int .i64 a4] ?_
 with_reducible refine (rollbacknetref27_Discard.calls kj30 _ _ l0 a3 a4 t442 _ ?side1 ?side2 A86.out).mono ?_
 (case side1 => exact crd (Kd.C_below HR0.out HB.out))
 (case side2 => exact HC0.out)
 rintro e w114 ⟨v443, rfl, ho0, hb⟩
 refine ⟨_, rfl, ?_⟩
 have n0_ := Aside0.mk (Kd.R_elder' (rq HO_12.out) (Kd.R_base ho0) hb)
 have n1_ := Aside0.mk (Kd.R_elder' (rq HO409.out) (Kd.R_base ho0) hb)
 have n2_ := Aside0.mk (Kd.R_elder' (rq HO412.out) (Kd.R_base ho0) hb)
 have n3_ := Aside0.mk (Kd.R_elder' (rq HO416.out) (Kd.R_base ho0) hb)
 have n4_ := Aside0.mk (Kd.R_elder' (rq HO419.out) (Kd.R_base ho0) hb)
 have n5_ := Aside0.mk (Kd.R_elder' (rq HO427.out) (Kd.R_base ho0) hb)
 have n6_ := Aside0.mk (Kd.R_elder' (rq HO430.out) (Kd.R_base ho0) hb)
 have n7_ := Aside0.mk (Kd.R_elder' (rq HO434.out) (Kd.R_base ho0) hb)
 have n8_ := Aside0.mk (Kd.R_elder' (rq HO437.out) (Kd.R_base ho0) hb)
 have n9_ := Aside0.mk (Kd.R_elder' (rq HO441.out) (Kd.R_base ho0) hb)
 have n10_ := Aside0.mk (Kd.R_lower (rnb (rnb (Kd.R_new' (Kd.R_new' (Kd.R_new' (Kd.R_new' (Kd.R_new' (Kd.R_new' (Kd.R_new' (Kd.R_new' (Kd.R_new' (Kd.R_new' ho0 (Kd.R_lt (rq HO_12.out))) (Kd.R_lt (rq HO409.out))) (Kd.R_lt (rq HO412.out))) (Kd.R_lt (rq HO416.out))) (Kd.R_lt (rq HO419.out))) (Kd.R_lt (rq HO427.out))) (Kd.R_lt (rq HO430.out))) (Kd.R_lt (rq HO434.out))) (Kd.R_lt (rq HO437.out))) (Kd.R_lt (rq HO441.out))) BK366.out) BK388.out) (below_size (bq2 HB.out GE366.out GE388.out)))
 have n11_ := Aside0.mk (bb BK366.out hb)
 have n12_ := Aside0.mk (bb BK388.out hb)
 have n13_ := Aside0.mk (below_step (bq2 HB.out GE366.out GE388.out) hb)
 clear HO_12
 clear HO409
 clear HO412
 clear HO416
 clear HO419
 clear HO427
 clear HO430
 clear HO434
 clear HO437
 clear HO441
 clear BK366
 clear BK388
 clear HB
 have HO_12 := n0_
 have HO409 := n1_
 have HO412 := n2_
 have HO416 := n3_
 have HO419 := n4_
 have HO427 := n5_
 have HO430 := n6_
 have HO434 := n7_
 have HO437 := n8_
 have HO441 := n9_
 have HO444 := n10_
 have BK366 := n11_
 have BK388 := n12_
 have HB := n13_
 clear n0_ n1_ n2_ n3_ n4_ n5_ n6_ n7_ n8_ n9_ n10_ n11_ n12_ n13_
 (try clear hb)
 (try clear hb2)
 (try clear hk)
 (try clear hi)
 (try clear ho0)
 obtain ⟨Ao115, co115, eo115⟩ := Kd.R_slice HO441.out
 (first | subst eo115 | (injection eo115 with f1_ f2_ f3_; have f4_ := f1_.symm; have f5_ := f3_.symm; clear f1_ f2_ f3_; subst f4_; subst f5_))
 obtain ⟨Ao116, co116, eo116⟩ := Kd.R_slice HO444.out
 (first | subst eo116 | (injection eo116 with f1_ f2_ f3_; have f4_ := f1_.symm; have f5_ := f3_.symm; clear f1_ f2_ f3_; subst f4_; subst f5_))
 refine hK.out _ _ (c9 BK366.out (c9' BK388.out)) (fun hHeld => ?_)
 clear hK K
 refine nrm 130 ?_
 refine one_ (i := 65) (N := some 131) (bm 79 73786976294838206463) rfl rfl (one_of HT_.out (by kernel_rfl)) (by decide) (fun K hK => ?_)
 refine gs Try.func10 #[.slice Ao115 t439.length co115, .slice Ao116 t442.length co116] ?_
 by_cases c88 : t445 = true
 ·(
 subst c88
 replace H := ifp H
 obtain ⟨t446, A89, H⟩ := bnd H
 obtain ⟨t449, A90, H⟩ := bnd H
 obtain ⟨t452, A91, H⟩ := bnd H
 obtain rfl := Option.some.inj H
 with_reducible refine (rollbacknetref27_Same.calls kj30 _ _ t439 _ _ t442 true _ ?side1 ?side2 ?side3 ?side4 A87.out).mono ?_
 (case side1 => exact crd (Kd.R_reads' HO441.out).2.2)
 (case side2 => exact (Kd.R_reads' HO441.out).2.1)
 (case side3 => exact crd (Kd.R_reads' HO444.out).2.2)
 (case side4 => exact (Kd.R_reads' HO444.out).2.1)
 rintro e w' ⟨rfl, ⟨nd, rfl⟩⟩
 refine ⟨_, rfl, ?_⟩
 refine hK.out _ _ (c9 BK366.out (c9' BK388.out)) (fun hHeld => ?_)
 clear hK K
 refine nrm 131 ?_
 refine pur HT_.out 66 (some 132) (bm 79 147573952589676412927) ?_
 refine pur HT_.out 67 (some 133) (bm 79 295147905179352825855) ?_
 refine pur HT_.out 68 (some 134) (bm 79 590295810358705651711) ?_
 refine pur HT_.out 69 (some 135) (bm 79 1180591620717411303423) ?_
 refine pur HT_.out 70 (some 136) (bm 79 2361183241434822606847) ?_
 refine pur HT_.out 72 (some 138) (bm 79 7083549724304467820543) ?_
 refine pur HT_.out 73 (some 139) (bm 79 16528282690043758247935) ?_
 refine pur HT_.out 74 (some 140) (bm 79 35417748621522339102719) ?_
 refine one_ (i := 71) (N := some 137) (bm 79 37778931862957161709567) rfl rfl (one_of HT_.out (by kernel_rfl)) (by decide) (fun K hK => ?_)
 refine gs Try.func17 #[.slice Ao38 x12_16.length co38, .int .i64 t405, .int .i64 t406] ?_
 with_reducible refine (determinant_Discard.calls kj30 _ _ x12_16 t405 t406 t446 _ ?side1 ?side2 A89.out).mono ?_
 (case side1 => exact crd (Kd.R_reads' HO_12.out).2.2)
 (case side2 => exact (Kd.R_reads' HO_12.out).2.1)
 rintro e w117 ⟨v447, rfl, ho0, hb⟩
 refine ⟨_, rfl, ?_⟩
 have n0_ := Aside0.mk (Kd.R_elder' (rq HO_12.out) (Kd.R_base ho0) hb)
 have n1_ := Aside0.mk (Kd.R_elder' (rq HO409.out) (Kd.R_base ho0) hb)
 have n2_ := Aside0.mk (Kd.R_elder' (rq HO412.out) (Kd.R_base ho0) hb)
 have n3_ := Aside0.mk (Kd.R_elder' (rq HO416.out) (Kd.R_base ho0) hb)
 have n4_ := Aside0.mk (Kd.R_elder' (rq HO419.out) (Kd.R_base ho0) hb)
 have n5_ := Aside0.mk (Kd.R_elder' (rq HO427.out) (Kd.R_base ho0) hb)
 have n6_ := Aside0.mk (Kd.R_elder' (rq HO430.out) (Kd.R_base ho0) hb)
 have n7_ := Aside0.mk (Kd.R_elder' (rq HO434.out) (Kd.R_base ho0) hb)
 have n8_ := Aside0.mk (Kd.R_elder' (rq HO437.out) (Kd.R_base ho0) hb)
 have n9_ := Aside0.mk (Kd.R_elder' (rq HO441.out) (Kd.R_base ho0) hb)
 have n10_ := Aside0.mk (Kd.R_elder' (rq HO444.out) (Kd.R_base ho0) hb)
 have n11_ := Aside0.mk (Kd.R_lower (rnb (rnb (Kd.R_new' (Kd.R_new' (Kd.R_new' (Kd.R_new' (Kd.R_new' (Kd.R_new' (Kd.R_new' (Kd.R_new' (Kd.R_new' (Kd.R_new' (Kd.R_new' ho0 (Kd.R_lt (rq HO_12.out))) (Kd.R_lt (rq HO409.out))) (Kd.R_lt (rq HO412.out))) (Kd.R_lt (rq HO416.out))) (Kd.R_lt (rq HO419.out))) (Kd.R_lt (rq HO427.out))) (Kd.R_lt (rq HO430.out))) (Kd.R_lt (rq HO434.out))) (Kd.R_lt (rq HO437.out))) (Kd.R_lt (rq HO441.out))) (Kd.R_lt (rq HO444.out))) BK366.out) BK388.out) (below_size (bq2 HB.out GE366.out GE388.out)))
 have n12_ := Aside0.mk (bb BK366.out hb)
 have n13_ := Aside0.mk (bb BK388.out hb)
 have n14_ := Aside0.mk (below_step (bq2 HB.out GE366.out GE388.out) hb)
 clear HO_12
 clear HO409
 clear HO412
 clear HO416
 clear HO419
 clear HO427
 clear HO430
 clear HO434
 clear HO437
 clear HO441
 clear HO444
 clear BK366
 clear BK388
 clear HB
 have HO_12 := n0_
 have HO409 := n1_
 have HO412 := n2_
 have HO416 := n3_
 have HO419 := n4_
 have HO427 := n5_
 have HO430 := n6_
 have HO434 := n7_
 have HO437 := n8_
 have HO441 := n9_
 have HO444 := n10_
 have HO448 := n11_
 have BK366 := n12_
 have BK388 := n13_
 have HB := n14_
 clear n0_ n1_ n2_ n3_ n4_ n5_ n6_ n7_ n8_ n9_ n10_ n11_ n12_ n13_ n14_
 (try clear hb)
 (try clear hb2)
 (try clear hk)
 (try clear hi)
 (try clear ho0)
 refine hK.out _ _ (c9 BK366.out (c9' BK388.out)) (fun hHeld => ?_)
 clear hK K
 refine nrm 137 ?_
 refine one_ (i := 75) (N := some 141) (bm 79 75557863725914323419135) rfl rfl (one_of HT_.out (by kernel_rfl)) (by decide) (fun K hK => ?_)
 refine gs Try.func18 #[.slice Ao38 x12_16.length co38, .int .i64 t405, .int .i64 t406] ?_
 with_reducible refine (rollbacknetref27_Discard.calls kj30 _ _ x12_16 t405 t406 t449 _ ?side1 ?side2 A90.out).mono ?_
 (case side1 => exact crd (Kd.R_reads' HO_12.out).2.2)
 (case side2 => exact (Kd.R_reads' HO_12.out).2.1)
 rintro e w118 ⟨v450, rfl, ho0, hb⟩
 refine ⟨_, rfl, ?_⟩
 have n0_ := Aside0.mk (Kd.R_elder' (rq HO_12.out) (Kd.R_base ho0) hb)
 have n1_ := Aside0.mk (Kd.R_elder' (rq HO409.out) (Kd.R_base ho0) hb)
 have n2_ := Aside0.mk (Kd.R_elder' (rq HO412.out) (Kd.R_base ho0) hb)
 have n3_ := Aside0.mk (Kd.R_elder' (rq HO416.out) (Kd.R_base ho0) hb)
 have n4_ := Aside0.mk (Kd.R_elder' (rq HO419.out) (Kd.R_base ho0) hb)
 have n5_ := Aside0.mk (Kd.R_elder' (rq HO427.out) (Kd.R_base ho0) hb)
 have n6_ := Aside0.mk (Kd.R_elder' (rq HO430.out) (Kd.R_base ho0) hb)
 have n7_ := Aside0.mk (Kd.R_elder' (rq HO434.out) (Kd.R_base ho0) hb)
 have n8_ := Aside0.mk (Kd.R_elder' (rq HO437.out) (Kd.R_base ho0) hb)
 have n9_ := Aside0.mk (Kd.R_elder' (rq HO441.out) (Kd.R_base ho0) hb)
 have n10_ := Aside0.mk (Kd.R_elder' (rq HO444.out) (Kd.R_base ho0) hb)
 have n11_ := Aside0.mk (Kd.R_elder' (rq HO448.out) (Kd.R_base ho0) hb)
 have n12_ := Aside0.mk (Kd.R_lower (rnb (rnb (Kd.R_new' (Kd.R_new' (Kd.R_new' (Kd.R_new' (Kd.R_new' (Kd.R_new' (Kd.R_new' (Kd.R_new' (Kd.R_new' (Kd.R_new' (Kd.R_new' (Kd.R_new' ho0 (Kd.R_lt (rq HO_12.out))) (Kd.R_lt (rq HO409.out))) (Kd.R_lt (rq HO412.out))) (Kd.R_lt (rq HO416.out))) (Kd.R_lt (rq HO419.out))) (Kd.R_lt (rq HO427.out))) (Kd.R_lt (rq HO430.out))) (Kd.R_lt (rq HO434.out))) (Kd.R_lt (rq HO437.out))) (Kd.R_lt (rq HO441.out))) (Kd.R_lt (rq HO444.out))) (Kd.R_lt (rq HO448.out))) BK366.out) BK388.out) (below_size (bq2 HB.out GE366.out GE388.out)))
 have n13_ := Aside0.mk (bb BK366.out hb)
 have n14_ := Aside0.mk (bb BK388.out hb)
 have n15_ := Aside0.mk (below_step (bq2 HB.out GE366.out GE388.out) hb)
 clear HO_12
 clear HO409
 clear HO412
 clear HO416
 clear HO419
 clear HO427
 clear HO430
 clear HO434
 clear HO437
 clear HO441
 clear HO444
 clear HO448
 clear BK366
 clear BK388
 clear HB
 have HO_12 := n0_
 have HO409 := n1_
 have HO412 := n2_
 have HO416 := n3_
 have HO419 := n4_
 have HO427 := n5_
 have HO430 := n6_
 have HO434 := n7_
 have HO437 := n8_
 have HO441 := n9_
 have HO444 := n10_
 have HO448 := n11_
 have HO451 := n12_
 have BK366 := n13_
 have BK388 := n14_
 have HB := n15_
 clear n0_ n1_ n2_ n3_ n4_ n5_ n6_ n7_ n8_ n9_ n10_ n11_ n12_ n13_ n14_ n15_
 (try clear hb)
 (try clear hb2)
 (try clear hk)
 (try clear hi)
 (try clear ho0)
 obtain ⟨Ao119, co119, eo119⟩ := Kd.R_slice HO448.out
 (first | subst eo119 | (injection eo119 with f1_ f2_ f3_; have f4_ := f1_.symm; have f5_ := f3_.symm; clear f1_ f2_ f3_; subst f4_; subst f5_))
 obtain ⟨Ao120, co120, eo120⟩ := Kd.R_slice HO451.out
 (first | subst eo120 | (injection eo120 with f1_ f2_ f3_; have f4_ := f1_.symm; have f5_ := f3_.symm; clear f1_ f2_ f3_; subst f4_; subst f5_))
 refine hK.out _ _ (c9 BK366.out (c9' BK388.out)) (fun hHeld => ?_)
 clear hK K
 refine nrm 141 ?_
 refine one_ (i := 76) (N := some 142) (bm 79 151115727451828646838271) rfl rfl (one_of HT_.out (by kernel_rfl)) (by decide) (fun K hK => ?_)
 refine gs Try.func10 #[.slice Ao119 t446.length co119, .slice Ao120 t449.length co120] ?_
 with_reducible refine (rollbacknetref27_Same.calls kj30 _ _ t446 _ _ t449 t452 _ ?side1 ?side2 ?side3 ?side4 A91.out).mono ?_
 (case side1 => exact crd (Kd.R_reads' HO448.out).2.2)
 (case side2 => exact (Kd.R_reads' HO448.out).2.1)
 (case side3 => exact crd (Kd.R_reads' HO451.out).2.2)
 (case side4 => exact (Kd.R_reads' HO451.out).2.1)
 rintro e w' ⟨rfl, ⟨nd, rfl⟩⟩
 refine ⟨_, rfl, ?_⟩
 refine hK.out _ _ (c9 BK366.out (c9' BK388.out)) (fun hHeld => ?_)
 clear hK K
 refine nrm 142 ?_
 refine pur HT_.out 77 (some 143) (bm 79 302231454903657293676543) ?_
 refine pur HT_.out 78 (some 10) (bm 79 604462909807314587353087) ?_
 refine done_ (done_of HT_.out (by kernel_rfl)) ?_
 try go_wp2
 go_ret
 exact ⟨by first | rfl | (simp [errW_none, errW_some] <;> rfl) | (simp [*, errW_none, errW_some] <;> rfl), bq2 HB.out GE366.out GE388.out⟩)
 ·(
 replace c88 := Bool.eq_false_iff.mpr c88
 subst c88
 replace H := ifn H
 obtain rfl := Option.some.inj H
 with_reducible refine (rollbacknetref27_Same.calls kj30 _ _ t439 _ _ t442 false _ ?side1 ?side2 ?side3 ?side4 A87.out).mono ?_
 (case side1 => exact crd (Kd.R_reads' HO441.out).2.2)
 (case side2 => exact (Kd.R_reads' HO441.out).2.1)
 (case side3 => exact crd (Kd.R_reads' HO444.out).2.2)
 (case side4 => exact (Kd.R_reads' HO444.out).2.1)
 rintro e w' ⟨rfl, ⟨nd, rfl⟩⟩
 refine ⟨_, rfl, ?_⟩
 refine hK.out _ _ (c9 BK366.out (c9' BK388.out)) (fun hHeld => ?_)
 clear hK K
 refine nrm 131 ?_
 refine pur HT_.out 66 (some 132) (bm 79 147573952589676412927) ?_
 refine pur HT_.out 67 (some 133) (bm 79 295147905179352825855) ?_
 refine pux HT_.out 68 (some 134) (bm 79 590295810358705651711) ?_
 refine pux HT_.out 69 (some 135) (bm 79 1180591620717411303423) ?_
 refine pux HT_.out 70 (some 136) (bm 79 2361183241434822606847) ?_
 refine pux HT_.out 71 (some 137) (bm 79 4722366482869645213695) ?_
 refine pux HT_.out 72 (some 138) (bm 79 9444732965739290427391) ?_
 refine pux HT_.out 73 (some 139) (bm 79 18889465931478580854783) ?_
 refine pux HT_.out 74 (some 140) (bm 79 37778931862957161709567) ?_
 refine pux HT_.out 75 (some 141) (bm 79 75557863725914323419135) ?_
 refine pux HT_.out 76 (some 142) (bm 79 151115727451828646838271) ?_
 refine pur HT_.out 77 (some 143) (bm 79 302231454903657293676543) ?_
 refine pur HT_.out 78 (some 10) (bm 79 604462909807314587353087) ?_
 refine done_ (done_of HT_.out (by kernel_rfl)) ?_
 try go_wp2
 go_ret
 exact ⟨by first | rfl | (simp [errW_none, errW_some] <;> rfl) | (simp [*, errW_none, errW_some] <;> rfl), bq2 HB.out GE366.out GE388.out⟩))
 ·(
 replace c84 := Bool.eq_false_iff.mpr c84
 subst c84
 replace H := ifn H
 obtain rfl := Option.some.inj H
 with_reducible refine (rollbacknetref27_Same.calls kj30 _ _ t432 _ _ t435 false _ ?side1 ?side2 ?side3 ?side4 A83.out).mono ?_
 (case side1 => exact crd (Kd.R_reads' HO434.out).2.2)
 (case side2 => exact (Kd.R_reads' HO434.out).2.1)
 (case side3 => exact crd (Kd.R_reads' HO437.out).2.2)
 (case side4 => exact (Kd.R_reads' HO437.out).2.1)
 rintro e w' ⟨rfl, ⟨nd, rfl⟩⟩
 refine ⟨_, rfl, ?_⟩
 refine hK.out _ _ (c9 BK366.out (c9' BK388.out)) (fun hHeld => ?_)
 clear hK K
 refine nrm 120 ?_
 refine pur HT_.out 55 (some 121) (bm 79 72057594037927935) ?_
 refine pur HT_.out 56 (some 122) (bm 79 144115188075855871) ?_
 refine pux HT_.out 57 (some 123) (bm 79 288230376151711743) ?_
 refine pux HT_.out 58 (some 124) (bm 79 576460752303423487) ?_
 refine pux HT_.out 59 (some 125) (bm 79 1152921504606846975) ?_
 refine pux HT_.out 60 (some 126) (bm 79 2305843009213693951) ?_
 refine pux HT_.out 61 (some 127) (bm 79 4611686018427387903) ?_
 refine pux HT_.out 62 (some 128) (bm 79 9223372036854775807) ?_
 refine pux HT_.out 63 (some 129) (bm 79 18446744073709551615) ?_
 refine pux HT_.out 64 (some 130) (bm 79 36893488147419103231) ?_
 refine pux HT_.out 65 (some 131) (bm 79 73786976294838206463) ?_
 refine pur HT_.out 66 (some 132) (bm 79 147573952589676412927) ?_
 refine pur HT_.out 67 (some 133) (bm 79 295147905179352825855) ?_
 refine pux HT_.out 68 (some 134) (bm 79 590295810358705651711) ?_
 refine pux HT_.out 69 (some 135) (bm 79 1180591620717411303423) ?_
 refine pux HT_.out 70 (some 136) (bm 79 2361183241434822606847) ?_
 refine pux HT_.out 71 (some 137) (bm 79 4722366482869645213695) ?_
 refine pux HT_.out 72 (some 138) (bm 79 9444732965739290427391) ?_
 refine pux HT_.out 73 (some 139) (bm 79 18889465931478580854783) ?_
 refine pux HT_.out 74 (some 140) (bm 79 37778931862957161709567) ?_
 refine pux HT_.out 75 (some 141) (bm 79 75557863725914323419135) ?_
 refine pux HT_.out 76 (some 142) (bm 79 151115727451828646838271) ?_
 refine pur HT_.out 77 (some 143) (bm 79 302231454903657293676543) ?_
 refine pur HT_.out 78 (some 10) (bm 79 604462909807314587353087) ?_
 refine done_ (done_of HT_.out (by kernel_rfl)) ?_
 try go_wp2
 go_ret
 exact ⟨by first | rfl | (simp [errW_none, errW_some] <;> rfl) | (simp [*, errW_none, errW_some] <;> rfl), bq2 HB.out GE366.out GE388.out⟩))
 ·(
 replace c80 := Bool.eq_false_iff.mpr c80
 subst c80
 replace H := ifn H
 obtain rfl := Option.some.inj H
 with_reducible refine (rollbacknetref27_Same.calls kj30 _ _ t425 _ _ t428 false _ ?side1 ?side2 ?side3 ?side4 A79.out).mono ?_
 (case side1 => exact crd (Kd.R_reads' HO427.out).2.2)
 (case side2 => exact (Kd.R_reads' HO427.out).2.1)
 (case side3 => exact crd (Kd.R_reads' HO430.out).2.2)
 (case side4 => exact (Kd.R_reads' HO430.out).2.1)
 rintro e w' ⟨rfl, ⟨nd, rfl⟩⟩
 refine ⟨_, rfl, ?_⟩
 refine hK.out _ _ (c9 BK366.out (c9' BK388.out)) (fun hHeld => ?_)
 clear hK K
 refine nrm 109 ?_
 refine pur HT_.out 44 (some 110) (bm 79 35184372088831) ?_
 refine pur HT_.out 45 (some 111) (bm 79 70368744177663) ?_
 refine pux HT_.out 46 (some 112) (bm 79 140737488355327) ?_
 refine pux HT_.out 47 (some 113) (bm 79 281474976710655) ?_
 refine pux HT_.out 48 (some 114) (bm 79 562949953421311) ?_
 refine pux HT_.out 49 (some 115) (bm 79 1125899906842623) ?_
 refine pux HT_.out 50 (some 116) (bm 79 2251799813685247) ?_
 refine pux HT_.out 51 (some 117) (bm 79 4503599627370495) ?_
 refine pux HT_.out 52 (some 118) (bm 79 9007199254740991) ?_
 refine pux HT_.out 53 (some 119) (bm 79 18014398509481983) ?_
 refine pux HT_.out 54 (some 120) (bm 79 36028797018963967) ?_
 refine pur HT_.out 55 (some 121) (bm 79 72057594037927935) ?_
 refine pur HT_.out 56 (some 122) (bm 79 144115188075855871) ?_
 refine pux HT_.out 57 (some 123) (bm 79 288230376151711743) ?_
 refine pux HT_.out 58 (some 124) (bm 79 576460752303423487) ?_
 refine pux HT_.out 59 (some 125) (bm 79 1152921504606846975) ?_
 refine pux HT_.out 60 (some 126) (bm 79 2305843009213693951) ?_
 refine pux HT_.out 61 (some 127) (bm 79 4611686018427387903) ?_
 refine pux HT_.out 62 (some 128) (bm 79 9223372036854775807) ?_
 refine pux HT_.out 63 (some 129) (bm 79 18446744073709551615) ?_
 refine pux HT_.out 64 (some 130) (bm 79 36893488147419103231) ?_
 refine pux HT_.out 65 (some 131) (bm 79 73786976294838206463) ?_
 refine pur HT_.out 66 (some 132) (bm 79 147573952589676412927) ?_
 refine pur HT_.out 67 (some 133) (bm 79 295147905179352825855) ?_
 refine pux HT_.out 68 (some 134) (bm 79 590295810358705651711) ?_
 refine pux HT_.out 69 (some 135) (bm 79 1180591620717411303423) ?_
 refine pux HT_.out 70 (some 136) (bm 79 2361183241434822606847) ?_
 refine pux HT_.out 71 (some 137) (bm 79 4722366482869645213695) ?_
 refine pux HT_.out 72 (some 138) (bm 79 9444732965739290427391) ?_
 refine pux HT_.out 73 (some 139) (bm 79 18889465931478580854783) ?_
 refine pux HT_.out 74 (some 140) (bm 79 37778931862957161709567) ?_
 refine pux HT_.out 75 (some 141) (bm 79 75557863725914323419135) ?_
 refine pux HT_.out 76 (some 142) (bm 79 151115727451828646838271) ?_
 refine pur HT_.out 77 (some 143) (bm 79 302231454903657293676543) ?_
 refine pur HT_.out 78 (some 10) (bm 79 604462909807314587353087) ?_
 refine done_ (done_of HT_.out (by kernel_rfl)) ?_
 try go_wp2
 go_ret
 exact ⟨by first | rfl | (simp [errW_none, errW_some] <;> rfl) | (simp [*, errW_none, errW_some] <;> rfl), bq2 HB.out GE366.out GE388.out⟩))
 ·(
 rw [if_neg c76] at H
 have c76b0 : (t423 == t424) = false := by simpa using c76
 (try (have c76b1 : decide (t423 = t424) = false := by simpa using c76))
 (try (have c76b2 : (t423 == t424) = false := by simpa using c76))
 (try (have c76b3 : ¬ (t423 = t424) := by simpa using c76))
 clear c76
 obtain rfl := Option.some.inj H
 (try simp only [c76b0])
 refine pux HT_.out 35 (some 101) (bm 79 68719476735) ?_
 refine pux HT_.out 36 (some 102) (bm 79 137438953471) ?_
 refine pux HT_.out 37 (some 103) (bm 79 274877906943) ?_
 refine pux HT_.out 38 (some 104) (bm 79 549755813887) ?_
 refine pux HT_.out 39 (some 105) (bm 79 1099511627775) ?_
 refine pux HT_.out 40 (some 106) (bm 79 2199023255551) ?_
 refine pux HT_.out 41 (some 107) (bm 79 4398046511103) ?_
 refine pux HT_.out 42 (some 108) (bm 79 8796093022207) ?_
 refine pux HT_.out 43 (some 109) (bm 79 17592186044415) ?_
 refine pur HT_.out 44 (some 110) (bm 79 35184372088831) ?_
 refine pur HT_.out 45 (some 111) (bm 79 70368744177663) ?_
 refine pux HT_.out 46 (some 112) (bm 79 140737488355327) ?_
 refine pux HT_.out 47 (some 113) (bm 79 281474976710655) ?_
 refine pux HT_.out 48 (some 114) (bm 79 562949953421311) ?_
 refine pux HT_.out 49 (some 115) (bm 79 1125899906842623) ?_
 refine pux HT_.out 50 (some 116) (bm 79 2251799813685247) ?_
 refine pux HT_.out 51 (some 117) (bm 79 4503599627370495) ?_
 refine pux HT_.out 52 (some 118) (bm 79 9007199254740991) ?_
 refine pux HT_.out 53 (some 119) (bm 79 18014398509481983) ?_
 refine pux HT_.out 54 (some 120) (bm 79 36028797018963967) ?_
 refine pur HT_.out 55 (some 121) (bm 79 72057594037927935) ?_
 refine pur HT_.out 56 (some 122) (bm 79 144115188075855871) ?_
 refine pux HT_.out 57 (some 123) (bm 79 288230376151711743) ?_
 refine pux HT_.out 58 (some 124) (bm 79 576460752303423487) ?_
 refine pux HT_.out 59 (some 125) (bm 79 1152921504606846975) ?_
 refine pux HT_.out 60 (some 126) (bm 79 2305843009213693951) ?_
 refine pux HT_.out 61 (some 127) (bm 79 4611686018427387903) ?_
 refine pux HT_.out 62 (some 128) (bm 79 9223372036854775807) ?_
 refine pux HT_.out 63 (some 129) (bm 79 18446744073709551615) ?_
 refine pux HT_.out 64 (some 130) (bm 79 36893488147419103231) ?_
 refine pux HT_.out 65 (some 131) (bm 79 73786976294838206463) ?_
 refine pur HT_.out 66 (some 132) (bm 79 147573952589676412927) ?_
 refine pur HT_.out 67 (some 133) (bm 79 295147905179352825855) ?_
 refine pux HT_.out 68 (some 134) (bm 79 590295810358705651711) ?_
 refine pux HT_.out 69 (some 135) (bm 79 1180591620717411303423) ?_
 refine pux HT_.out 70 (some 136) (bm 79 2361183241434822606847) ?_
 refine pux HT_.out 71 (some 137) (bm 79 4722366482869645213695) ?_
 refine pux HT_.out 72 (some 138) (bm 79 9444732965739290427391) ?_
 refine pux HT_.out 73 (some 139) (bm 79 18889465931478580854783) ?_
 refine pux HT_.out 74 (some 140) (bm 79 37778931862957161709567) ?_
 refine pux HT_.out 75 (some 141) (bm 79 75557863725914323419135) ?_
 refine pux HT_.out 76 (some 142) (bm 79 151115727451828646838271) ?_
 refine pur HT_.out 77 (some 143) (bm 79 302231454903657293676543) ?_
 refine pur HT_.out 78 (some 10) (bm 79 604462909807314587353087) ?_
 refine done_ (done_of HT_.out (by kernel_rfl)) ?_
 try go_wp2
 go_ret
 exact ⟨by first | rfl | (simp [errW_none, errW_some] <;> rfl) | (simp [*, errW_none, errW_some] <;> rfl), bq2 HB.out GE366.out GE388.out⟩))
 ·(
 rw [if_neg c73] at H
 have c73b0 : (t421 == t422) = false := by simpa using c73
 (try (have c73b1 : decide (t421 = t422) = false := by simpa using c73))
 (try (have c73b2 : (t421 == t422) = false := by simpa using c73))
 (try (have c73b3 : ¬ (t421 = t422) := by simpa using c73))
 clear c73
 obtain rfl := Option.some.inj H
 (try simp only [c73b0])
 refine pux HT_.out 26 (some 92) (bm 79 134217727) ?_
 refine pux HT_.out 27 (some 93) (bm 79 268435455) ?_
 refine pux HT_.out 28 (some 94) (bm 79 536870911) ?_
 refine pux HT_.out 29 (some 95) (bm 79 1073741823) ?_
 refine pux HT_.out 30 (some 96) (bm 79 2147483647) ?_
 refine pux HT_.out 31 (some 97) (bm 79 4294967295) ?_
 refine pux HT_.out 32 (some 98) (bm 79 8589934591) ?_
 refine pur HT_.out 33 (some 99) (bm 79 17179869183) ?_
 refine pur HT_.out 34 (some 100) (bm 79 34359738367) ?_
 refine pux HT_.out 35 (some 101) (bm 79 68719476735) ?_
 refine pux HT_.out 36 (some 102) (bm 79 137438953471) ?_
 refine pux HT_.out 37 (some 103) (bm 79 274877906943) ?_
 refine pux HT_.out 38 (some 104) (bm 79 549755813887) ?_
 refine pux HT_.out 39 (some 105) (bm 79 1099511627775) ?_
 refine pux HT_.out 40 (some 106) (bm 79 2199023255551) ?_
 refine pux HT_.out 41 (some 107) (bm 79 4398046511103) ?_
 refine pux HT_.out 42 (some 108) (bm 79 8796093022207) ?_
 refine pux HT_.out 43 (some 109) (bm 79 17592186044415) ?_
 refine pur HT_.out 44 (some 110) (bm 79 35184372088831) ?_
 refine pur HT_.out 45 (some 111) (bm 79 70368744177663) ?_
 refine pux HT_.out 46 (some 112) (bm 79 140737488355327) ?_
 refine pux HT_.out 47 (some 113) (bm 79 281474976710655) ?_
 refine pux HT_.out 48 (some 114) (bm 79 562949953421311) ?_
 refine pux HT_.out 49 (some 115) (bm 79 1125899906842623) ?_
 refine pux HT_.out 50 (some 116) (bm 79 2251799813685247) ?_
 refine pux HT_.out 51 (some 117) (bm 79 4503599627370495) ?_
 refine pux HT_.out 52 (some 118) (bm 79 9007199254740991) ?_
 refine pux HT_.out 53 (some 119) (bm 79 18014398509481983) ?_
 refine pux HT_.out 54 (some 120) (bm 79 36028797018963967) ?_
 refine pur HT_.out 55 (some 121) (bm 79 72057594037927935) ?_
 refine pur HT_.out 56 (some 122) (bm 79 144115188075855871) ?_
 refine pux HT_.out 57 (some 123) (bm 79 288230376151711743) ?_
 refine pux HT_.out 58 (some 124) (bm 79 576460752303423487) ?_
 refine pux HT_.out 59 (some 125) (bm 79 1152921504606846975) ?_
 refine pux HT_.out 60 (some 126) (bm 79 2305843009213693951) ?_
 refine pux HT_.out 61 (some 127) (bm 79 4611686018427387903) ?_
 refine pux HT_.out 62 (some 128) (bm 79 9223372036854775807) ?_
 refine pux HT_.out 63 (some 129) (bm 79 18446744073709551615) ?_
 refine pux HT_.out 64 (some 130) (bm 79 36893488147419103231) ?_
 refine pux HT_.out 65 (some 131) (bm 79 73786976294838206463) ?_
 refine pur HT_.out 66 (some 132) (bm 79 147573952589676412927) ?_
 refine pur HT_.out 67 (some 133) (bm 79 295147905179352825855) ?_
 refine pux HT_.out 68 (some 134) (bm 79 590295810358705651711) ?_
 refine pux HT_.out 69 (some 135) (bm 79 1180591620717411303423) ?_
 refine pux HT_.out 70 (some 136) (bm 79 2361183241434822606847) ?_
 refine pux HT_.out 71 (some 137) (bm 79 4722366482869645213695) ?_
 refine pux HT_.out 72 (some 138) (bm 79 9444732965739290427391) ?_
 refine pux HT_.out 73 (some 139) (bm 79 18889465931478580854783) ?_
 refine pux HT_.out 74 (some 140) (bm 79 37778931862957161709567) ?_
 refine pux HT_.out 75 (some 141) (bm 79 75557863725914323419135) ?_
 refine pux HT_.out 76 (some 142) (bm 79 151115727451828646838271) ?_
 refine pur HT_.out 77 (some 143) (bm 79 302231454903657293676543) ?_
 refine pur HT_.out 78 (some 10) (bm 79 604462909807314587353087) ?_
 refine done_ (done_of HT_.out (by kernel_rfl)) ?_
 try go_wp2
 go_ret
 exact ⟨by first | rfl | (simp [errW_none, errW_some] <;> rfl) | (simp [*, errW_none, errW_some] <;> rfl), bq2 HB.out GE366.out GE388.out⟩))
 ·(
 replace c70 := Bool.eq_false_iff.mpr c70
 subst c70
 replace H := ifn H
 obtain rfl := Option.some.inj H
 with_reducible refine (rollbacknetref27_Same.calls kj30 _ _ t414 _ _ t417 false _ ?side1 ?side2 ?side3 ?side4 A69.out).mono ?_
 (case side1 => exact crd (Kd.R_reads' HO416.out).2.2)
 (case side2 => exact (Kd.R_reads' HO416.out).2.1)
 (case side3 => exact crd (Kd.R_reads' HO419.out).2.2)
 (case side4 => exact (Kd.R_reads' HO419.out).2.1)
 rintro e w' ⟨rfl, ⟨nd, rfl⟩⟩
 refine ⟨_, rfl, ?_⟩
 refine hK.out _ _ (c9 BK366.out (c9' BK388.out)) (fun hHeld => ?_)
 clear hK K
 refine nrm 80 ?_
 refine pur HT_.out 15 (some 81) (bm 79 65535) ?_
 refine pur HT_.out 16 (some 82) (bm 79 131071) ?_
 refine pux HT_.out 17 (some 83) (bm 79 262143) ?_
 refine pux HT_.out 18 (some 84) (bm 79 524287) ?_
 refine pux HT_.out 19 (some 85) (bm 79 1048575) ?_
 refine pux HT_.out 20 (some 86) (bm 79 2097151) ?_
 refine pux HT_.out 21 (some 87) (bm 79 4194303) ?_
 refine pux HT_.out 22 (some 88) (bm 79 8388607) ?_
 refine pux HT_.out 23 (some 89) (bm 79 16777215) ?_
 refine pur HT_.out 24 (some 90) (bm 79 33554431) ?_
 refine pur HT_.out 25 (some 91) (bm 79 67108863) ?_
 refine pux HT_.out 26 (some 92) (bm 79 134217727) ?_
 refine pux HT_.out 27 (some 93) (bm 79 268435455) ?_
 refine pux HT_.out 28 (some 94) (bm 79 536870911) ?_
 refine pux HT_.out 29 (some 95) (bm 79 1073741823) ?_
 refine pux HT_.out 30 (some 96) (bm 79 2147483647) ?_
 refine pux HT_.out 31 (some 97) (bm 79 4294967295) ?_
 refine pux HT_.out 32 (some 98) (bm 79 8589934591) ?_
 refine pur HT_.out 33 (some 99) (bm 79 17179869183) ?_
 refine pur HT_.out 34 (some 100) (bm 79 34359738367) ?_
 refine pux HT_.out 35 (some 101) (bm 79 68719476735) ?_
 refine pux HT_.out 36 (some 102) (bm 79 137438953471) ?_
 refine pux HT_.out 37 (some 103) (bm 79 274877906943) ?_
 refine pux HT_.out 38 (some 104) (bm 79 549755813887) ?_
 refine pux HT_.out 39 (some 105) (bm 79 1099511627775) ?_
 refine pux HT_.out 40 (some 106) (bm 79 2199023255551) ?_
 refine pux HT_.out 41 (some 107) (bm 79 4398046511103) ?_
 refine pux HT_.out 42 (some 108) (bm 79 8796093022207) ?_
 refine pux HT_.out 43 (some 109) (bm 79 17592186044415) ?_
 refine pur HT_.out 44 (some 110) (bm 79 35184372088831) ?_
 refine pur HT_.out 45 (some 111) (bm 79 70368744177663) ?_
 refine pux HT_.out 46 (some 112) (bm 79 140737488355327) ?_
 refine pux HT_.out 47 (some 113) (bm 79 281474976710655) ?_
 refine pux HT_.out 48 (some 114) (bm 79 562949953421311) ?_
 refine pux HT_.out 49 (some 115) (bm 79 1125899906842623) ?_
 refine pux HT_.out 50 (some 116) (bm 79 2251799813685247) ?_
 refine pux HT_.out 51 (some 117) (bm 79 4503599627370495) ?_
 refine pux HT_.out 52 (some 118) (bm 79 9007199254740991) ?_
 refine pux HT_.out 53 (some 119) (bm 79 18014398509481983) ?_
 refine pux HT_.out 54 (some 120) (bm 79 36028797018963967) ?_
 refine pur HT_.out 55 (some 121) (bm 79 72057594037927935) ?_
 refine pur HT_.out 56 (some 122) (bm 79 144115188075855871) ?_
 refine pux HT_.out 57 (some 123) (bm 79 288230376151711743) ?_
 refine pux HT_.out 58 (some 124) (bm 79 576460752303423487) ?_
 refine pux HT_.out 59 (some 125) (bm 79 1152921504606846975) ?_
 refine pux HT_.out 60 (some 126) (bm 79 2305843009213693951) ?_
 refine pux HT_.out 61 (some 127) (bm 79 4611686018427387903) ?_
 refine pux HT_.out 62 (some 128) (bm 79 9223372036854775807) ?_
 refine pux HT_.out 63 (some 129) (bm 79 18446744073709551615) ?_
 refine pux HT_.out 64 (some 130) (bm 79 36893488147419103231) ?_
 refine pux HT_.out 65 (some 131) (bm 79 73786976294838206463) ?_
 refine pur HT_.out 66 (some 132) (bm 79 147573952589676412927) ?_
 refine pur HT_.out 67 (some 133) (bm 79 295147905179352825855) ?_
 refine pux HT_.out 68 (some 134) (bm 79 590295810358705651711) ?_
 refine pux HT_.out 69 (some 135) (bm 79 1180591620717411303423) ?_
 refine pux HT_.out 70 (some 136) (bm 79 2361183241434822606847) ?_
 refine pux HT_.out 71 (some 137) (bm 79 4722366482869645213695) ?_
 refine pux HT_.out 72 (some 138) (bm 79 9444732965739290427391) ?_
 refine pux HT_.out 73 (some 139) (bm 79 18889465931478580854783) ?_
 refine pux HT_.out 74 (some 140) (bm 79 37778931862957161709567) ?_
 refine pux HT_.out 75 (some 141) (bm 79 75557863725914323419135) ?_
 refine pux HT_.out 76 (some 142) (bm 79 151115727451828646838271) ?_
 refine pur HT_.out 77 (some 143) (bm 79 302231454903657293676543) ?_
 refine pur HT_.out 78 (some 10) (bm 79 604462909807314587353087) ?_
 refine done_ (done_of HT_.out (by kernel_rfl)) ?_
 try go_wp2
 go_ret
 exact ⟨by first | rfl | (simp [errW_none, errW_some] <;> rfl) | (simp [*, errW_none, errW_some] <;> rfl), bq2 HB.out GE366.out GE388.out⟩))
 ·(
 replace c66 := Bool.eq_false_iff.mpr c66
 subst c66
 replace H := ifn H
 obtain rfl := Option.some.inj H
 try go_wp2_with (first | ((with_reducible refine gate_callee (f := 9) rfl ?_); refine gl (some 63) Try.func9 #[.int .i64 a3, .int .i64 3] ?_; (with_reducible refine (rollbacknetmake_Mod.calls a3 3 t405 _ A61.out).mono ?_); rintro e w' ⟨rfl, ⟨nd, rfl⟩⟩; refine ⟨_, rfl, ?_⟩) | ((with_reducible refine gate_callee (f := 9) rfl ?_); refine gl (some 65) Try.func9 #[.int .i64 a4, .int .i64 8] ?_; (with_reducible refine (rollbacknetmake_Mod.calls a4 8 t406 _ A62.out).mono ?_); rintro e w' ⟨rfl, ⟨nd, rfl⟩⟩; refine ⟨_, rfl, ?_⟩))
 (try (rw [drewN_self wc]; generalize hq_ : World.drewN wc _ = wc; have n0_ : Aside0 (Kd.R k28 28 wc w.heap.size (fun k_ => k_ ≠ gb366 ∧ k_ ≠ gb388) (.slice Ao38 x12_16.length co38) x12_16) := ⟨by rw [← hq_]; exact (rq HO_12.out)⟩; have n1_ : Aside0 (wc.heap[gb366]? = some (.cells #[.int .i64 a1_0, .int .i64 a1_1, .int .i64 a1_2, .int .i64 a1_3, .int .i64 a1_4, .int .i64 a1_5, .int .i64 a1_6, .int .i64 a1_7, .int .i64 a1_8] 28 (0, 0))) := ⟨by rw [← hq_]; exact (kq BK366.out)⟩; have n2_ : Aside0 (wc.heap[gb388]? = some (.cells #[.int .i64 x389000_30, .int .i64 x389001_30, .int .i64 x389002_30, .int .i64 x389003_30, .int .i64 x389004_30, .int .i64 x389005_30, .int .i64 x389006_30, .int .i64 x389007_30, .int .i64 x389008_30] 28 (0, 0))) := ⟨by rw [← hq_]; exact (kq BK388.out)⟩; have n3_ : Aside0 (Below w.heap.size w wc) := ⟨by rw [← hq_]; exact (bq2 HB.out GE366.out GE388.out)⟩; clear HO_12 BK366 BK388 HB hq_; have HO_12 := n0_; have BK366 := n1_; have BK388 := n2_; have HB := n3_; clear n0_ n1_ n2_ n3_))
 have n0_ := Aside0.mk (Kd.R_drew HO_12.out)
 have n1_ := Aside0.mk (blk_drew BK366.out)
 have n2_ := Aside0.mk (blk_drew BK388.out)
 have n3_ := Aside0.mk (below_drew1 HB.out)
 clear HO_12
 clear BK366
 clear BK388
 clear HB
 have HO_12 := n0_
 have BK366 := n1_
 have BK388 := n2_
 have HB := n3_
 clear n0_ n1_ n2_ n3_
 refine start_ (n := 79) (S := fun w' => w'.cell? ⟨gb366, 0, none⟩ = some (.int .i64 a1_0) ∧ w'.cell? ⟨gb366, 1, none⟩ = some (.int .i64 a1_1) ∧ w'.cell? ⟨gb366, 2, none⟩ = some (.int .i64 a1_2) ∧ w'.cell? ⟨gb366, 3, none⟩ = some (.int .i64 a1_3) ∧ w'.cell? ⟨gb366, 4, none⟩ = some (.int .i64 a1_4) ∧ w'.cell? ⟨gb366, 5, none⟩ = some (.int .i64 a1_5) ∧ w'.cell? ⟨gb366, 6, none⟩ = some (.int .i64 a1_6) ∧ w'.cell? ⟨gb366, 7, none⟩ = some (.int .i64 a1_7) ∧ w'.cell? ⟨gb366, 8, none⟩ = some (.int .i64 a1_8)) (ds := []) #[false, false, false, false, false, false, false, false, false, false, false, false, false, false, false, false, false, false, false, false, false, false, false, false, false, false, false, false, false, false, false, false, false, false, false, false, false, false, false, false, false, false, false, false, false, false, false, false, false, false, false, false, false, false, false, false, false, false, false, false, false, false, false, false, false, false, false, false, false, false, false, false, false, false, false, false, false, false, false] (by kernel_rfl) rfl rfl (c9' BK366.out) (fun hHeld => ?_); refine with_tabW rollbacknetlaw27_DeterminantLists.tab11 rollbacknetlaw27_DeterminantLists.bits11 (fun HT_ HW_ => ?_)
 generalize wc.drew = w217 at HO_12 BK366 BK388 HB hHeld ⊢
 refine pur HT_.out 0 (some 66) (bm 79 1) ?_
 refine pur HT_.out 3 (some 69) (bm 79 9) ?_
 refine tak HT_.out HW_.out 1 (some 67) (bm 79 11) hHeld ?_
 refine tak HT_.out HW_.out 4 (some 70) (bm 79 27) hHeld ?_
 refine one_ (i := 2) (N := some 68) (bm 79 31) rfl rfl (one_of HT_.out (by kernel_rfl)) (by decide) (fun K hK => ?_)
 refine gs Try.func11 #[.slice A0 l0.length c0, .agg #[.int .i64 a1_0, .int .i64 a1_1, .int .i64 a1_2, .int .i64 a1_3, .int .i64 a1_4, .int .i64 a1_5, .int .i64 a1_6, .int .i64 a1_7, .int .i64 a1_8]] ?_
 with_reducible refine (determinant_Add.calls kj30 _ _ l0 a1_0 a1_1 a1_2 a1_3 a1_4 a1_5 a1_6 a1_7 a1_8 t407 _ ?side1 ?side2 A63.out).mono ?_
 (case side1 => exact crd (Kd.C_below HR0.out HB.out))
 (case side2 => exact HC0.out)
 rintro e w218 ⟨v408, rfl, ho0, hb⟩
 refine ⟨_, rfl, ?_⟩
 have n0_ := Aside0.mk (Kd.R_elder' (rq HO_12.out) (Kd.R_base ho0) hb)
 have n1_ := Aside0.mk (Kd.R_lower (rnb (rnb (Kd.R_new' ho0 (Kd.R_lt (rq HO_12.out))) BK366.out) BK388.out) (below_size (bq2 HB.out GE366.out GE388.out)))
 have n2_ := Aside0.mk (bb BK366.out hb)
 have n3_ := Aside0.mk (bb BK388.out hb)
 have n4_ := Aside0.mk (below_step (bq2 HB.out GE366.out GE388.out) hb)
 clear HO_12
 clear BK366
 clear BK388
 clear HB
 have HO_12 := n0_
 have HO409 := n1_
 have BK366 := n2_
 have BK388 := n3_
 have HB := n4_
 clear n0_ n1_ n2_ n3_ n4_
 (try clear hb)
 (try clear hb2)
 (try clear hk)
 (try clear hi)
 (try clear ho0)
 refine hK.out _ _ (c9' BK366.out) (fun hHeld => ?_)
 clear hK K
 refine nrm 68 ?_
 refine one_ (i := 5) (N := some 71) (bm 79 63) rfl rfl (one_of HT_.out (by kernel_rfl)) (by decide) (fun K hK => ?_)
 refine gs Try.func12 #[.slice A0 l0.length c0, .agg #[.int .i64 a1_0, .int .i64 a1_1, .int .i64 a1_2, .int .i64 a1_3, .int .i64 a1_4, .int .i64 a1_5, .int .i64 a1_6, .int .i64 a1_7, .int .i64 a1_8]] ?_
 with_reducible refine (rollbacknetref27_Add.calls kj30 _ _ l0 a1_0 a1_1 a1_2 a1_3 a1_4 a1_5 a1_6 a1_7 a1_8 t410 _ ?side1 ?side2 A64.out).mono ?_
 (case side1 => exact crd (Kd.C_below HR0.out HB.out))
 (case side2 => exact HC0.out)
 rintro e w219 ⟨v411, rfl, ho0, hb⟩
 refine ⟨_, rfl, ?_⟩
 have n0_ := Aside0.mk (Kd.R_elder' (rq HO_12.out) (Kd.R_base ho0) hb)
 have n1_ := Aside0.mk (Kd.R_elder' (rq HO409.out) (Kd.R_base ho0) hb)
 have n2_ := Aside0.mk (Kd.R_lower (rnb (rnb (Kd.R_new' (Kd.R_new' ho0 (Kd.R_lt (rq HO_12.out))) (Kd.R_lt (rq HO409.out))) BK366.out) BK388.out) (below_size (bq2 HB.out GE366.out GE388.out)))
 have n3_ := Aside0.mk (bb BK366.out hb)
 have n4_ := Aside0.mk (bb BK388.out hb)
 have n5_ := Aside0.mk (below_step (bq2 HB.out GE366.out GE388.out) hb)
 clear HO_12
 clear HO409
 clear BK366
 clear BK388
 clear HB
 have HO_12 := n0_
 have HO409 := n1_
 have HO412 := n2_
 have BK366 := n3_
 have BK388 := n4_
 have HB := n5_
 clear n0_ n1_ n2_ n3_ n4_ n5_
 (try clear hb)
 (try clear hb2)
 (try clear hk)
 (try clear hi)
 (try clear ho0)
 obtain ⟨Ao220, co220, eo220⟩ := Kd.R_slice HO409.out
 (first | subst eo220 | (injection eo220 with f1_ f2_ f3_; have f4_ := f1_.symm; have f5_ := f3_.symm; clear f1_ f2_ f3_; subst f4_; subst f5_))
 obtain ⟨Ao221, co221, eo221⟩ := Kd.R_slice HO412.out
 (first | subst eo221 | (injection eo221 with f1_ f2_ f3_; have f4_ := f1_.symm; have f5_ := f3_.symm; clear f1_ f2_ f3_; subst f4_; subst f5_))
 refine hK.out _ _ (c9' BK366.out) (fun hHeld => ?_)
 clear hK K
 refine nrm 71 ?_
 refine one_ (i := 6) (N := some 72) (bm 79 127) rfl rfl (one_of HT_.out (by kernel_rfl)) (by decide) (fun K hK => ?_)
 refine gs Try.func10 #[.slice Ao220 t407.length co220, .slice Ao221 t410.length co221] ?_
 with_reducible refine (rollbacknetref27_Same.calls kj30 _ _ t407 _ _ t410 false _ ?side1 ?side2 ?side3 ?side4 A65.out).mono ?_
 (case side1 => exact crd (Kd.R_reads' HO409.out).2.2)
 (case side2 => exact (Kd.R_reads' HO409.out).2.1)
 (case side3 => exact crd (Kd.R_reads' HO412.out).2.2)
 (case side4 => exact (Kd.R_reads' HO412.out).2.1)
 rintro e w' ⟨rfl, ⟨nd, rfl⟩⟩
 refine ⟨_, rfl, ?_⟩
 refine hK.out _ _ (c9' BK366.out) (fun hHeld => ?_)
 clear hK K
 refine nrm 72 ?_
 refine pur HT_.out 7 (some 73) (bm 79 255) ?_
 refine pux HT_.out 8 (some 74) (bm 79 511) ?_
 refine pux HT_.out 9 (some 75) (bm 79 1023) ?_
 refine pux HT_.out 10 (some 76) (bm 79 2047) ?_
 refine pux HT_.out 11 (some 77) (bm 79 4095) ?_
 refine pux HT_.out 12 (some 78) (bm 79 8191) ?_
 refine pux HT_.out 13 (some 79) (bm 79 16383) ?_
 refine pux HT_.out 14 (some 80) (bm 79 32767) ?_
 refine pur HT_.out 15 (some 81) (bm 79 65535) ?_
 refine pur HT_.out 16 (some 82) (bm 79 131071) ?_
 refine pux HT_.out 17 (some 83) (bm 79 262143) ?_
 refine pux HT_.out 18 (some 84) (bm 79 524287) ?_
 refine pux HT_.out 19 (some 85) (bm 79 1048575) ?_
 refine pux HT_.out 20 (some 86) (bm 79 2097151) ?_
 refine pux HT_.out 21 (some 87) (bm 79 4194303) ?_
 refine pux HT_.out 22 (some 88) (bm 79 8388607) ?_
 refine pux HT_.out 23 (some 89) (bm 79 16777215) ?_
 refine pur HT_.out 24 (some 90) (bm 79 33554431) ?_
 refine pur HT_.out 25 (some 91) (bm 79 67108863) ?_
 refine pux HT_.out 26 (some 92) (bm 79 134217727) ?_
 refine pux HT_.out 27 (some 93) (bm 79 268435455) ?_
 refine pux HT_.out 28 (some 94) (bm 79 536870911) ?_
 refine pux HT_.out 29 (some 95) (bm 79 1073741823) ?_
 refine pux HT_.out 30 (some 96) (bm 79 2147483647) ?_
 refine pux HT_.out 31 (some 97) (bm 79 4294967295) ?_
 refine pux HT_.out 32 (some 98) (bm 79 8589934591) ?_
 refine pur HT_.out 33 (some 99) (bm 79 17179869183) ?_
 refine pur HT_.out 34 (some 100) (bm 79 34359738367) ?_
 refine pux HT_.out 35 (some 101) (bm 79 68719476735) ?_
 refine pux HT_.out 36 (some 102) (bm 79 137438953471) ?_
 refine pux HT_.out 37 (some 103) (bm 79 274877906943) ?_
 refine pux HT_.out 38 (some 104) (bm 79 549755813887) ?_
 refine pux HT_.out 39 (some 105) (bm 79 1099511627775) ?_
 refine pux HT_.out 40 (some 106) (bm 79 2199023255551) ?_
 refine pux HT_.out 41 (some 107) (bm 79 4398046511103) ?_
 refine pux HT_.out 42 (some 108) (bm 79 8796093022207) ?_
 refine pux HT_.out 43 (some 109) (bm 79 17592186044415) ?_
 refine pur HT_.out 44 (some 110) (bm 79 35184372088831) ?_
 refine pur HT_.out 45 (some 111) (bm 79 70368744177663) ?_
 refine pux HT_.out 46 (some 112) (bm 79 140737488355327) ?_
 refine pux HT_.out 47 (some 113) (bm 79 281474976710655) ?_
 refine pux HT_.out 48 (some 114) (bm 79 562949953421311) ?_
 refine pux HT_.out 49 (some 115) (bm 79 1125899906842623) ?_
 refine pux HT_.out 50 (some 116) (bm 79 2251799813685247) ?_
 refine pux HT_.out 51 (some 117) (bm 79 4503599627370495) ?_
 refine pux HT_.out 52 (some 118) (bm 79 9007199254740991) ?_
 refine pux HT_.out 53 (some 119) (bm 79 18014398509481983) ?_
 refine pux HT_.out 54 (some 120) (bm 79 36028797018963967) ?_
 refine pur HT_.out 55 (some 121) (bm 79 72057594037927935) ?_
 refine pur HT_.out 56 (some 122) (bm 79 144115188075855871) ?_
 refine pux HT_.out 57 (some 123) (bm 79 288230376151711743) ?_
 refine pux HT_.out 58 (some 124) (bm 79 576460752303423487) ?_
 refine pux HT_.out 59 (some 125) (bm 79 1152921504606846975) ?_
 refine pux HT_.out 60 (some 126) (bm 79 2305843009213693951) ?_
 refine pux HT_.out 61 (some 127) (bm 79 4611686018427387903) ?_
 refine pux HT_.out 62 (some 128) (bm 79 9223372036854775807) ?_
 refine pux HT_.out 63 (some 129) (bm 79 18446744073709551615) ?_
 refine pux HT_.out 64 (some 130) (bm 79 36893488147419103231) ?_
 refine pux HT_.out 65 (some 131) (bm 79 73786976294838206463) ?_
 refine pur HT_.out 66 (some 132) (bm 79 147573952589676412927) ?_
 refine pur HT_.out 67 (some 133) (bm 79 295147905179352825855) ?_
 refine pux HT_.out 68 (some 134) (bm 79 590295810358705651711) ?_
 refine pux HT_.out 69 (some 135) (bm 79 1180591620717411303423) ?_
 refine pux HT_.out 70 (some 136) (bm 79 2361183241434822606847) ?_
 refine pux HT_.out 71 (some 137) (bm 79 4722366482869645213695) ?_
 refine pux HT_.out 72 (some 138) (bm 79 9444732965739290427391) ?_
 refine pux HT_.out 73 (some 139) (bm 79 18889465931478580854783) ?_
 refine pux HT_.out 74 (some 140) (bm 79 37778931862957161709567) ?_
 refine pux HT_.out 75 (some 141) (bm 79 75557863725914323419135) ?_
 refine pux HT_.out 76 (some 142) (bm 79 151115727451828646838271) ?_
 refine pur HT_.out 77 (some 143) (bm 79 302231454903657293676543) ?_
 refine pur HT_.out 78 (some 10) (bm 79 604462909807314587353087) ?_
 refine done_ (done_of HT_.out (by kernel_rfl)) ?_
 try go_wp2
 go_ret
 exact ⟨by first | rfl | (simp [errW_none, errW_some] <;> rfl) | (simp [*, errW_none, errW_some] <;> rfl), bq2 HB.out GE366.out GE388.out⟩))))))
 ·(
 rw [if_neg c16] at H
 exact absurd H (by simp)))))
/-- THE ONE PURE STATEMENT of rollbacknetlaw27_DeterminantLists. -/
def rollbacknetlaw27_DeterminantLists.Pure : Prop := ∀ (p0 : List (S28)) (p1 : S28) (p2 : List Int) (p3 : Int) (p4 : Int), (okRow 72 ok28) p0 → ok28 p1 → (okRow 1 (okInt .u8)) p2 → (okInt .i64) p3 → (okInt .i64) p4 → ∃ k, rollbacknetlaw27_DeterminantLists.f k p0 p1.f0 p1.f1 p1.f2.f0 p1.f2.f1 p1.f2.f2 p1.f2.f3.f0 p1.f2.f3.f1 p1.f2.f4 p1.f2.f5 p2 p3 p4 = some true

end Go.Proofs.Ytdobkcphmpbhlaa.PGL
