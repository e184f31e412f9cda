/- EvalApplies (P4.1): for every operator and operands the program's result is the reference's; no condition. -/
import Derived.Test.YtpklmllikcdacaaPG04x0
import Derived.Test.YtpklmllikcdacaaPG04x1
import Derived.Test.YtpklmllikcdacaaPG04x2
import Derived.Test.YtpklmllikcdacaaPG04x4
import Derived.Test.YtpklmllikcdacaaPG04x5
import Derived.Test.YtpklmllikcdacaaPG04x6
import Derived.Test.YtpklmllikcdacaaPG04x7
import Derived.Test.YtpklmllikcdacaaPG04x8
namespace Go.Proofs.Ytpklmllikcdacaa.Pure
open Go.RowKit Go.Proofs.Ytpklmllikcdacaa.PG04 Go.Proofs.YtpklmllikcdacaaW.PrintWords Go.Proofs.YtpklmllikcdacaaW.PrintLast
set_option linter.unusedVariables false
set_option linter.unusedSimpArgs false
/-! the operators -/
theorem awake04 : rollbacknetlaw04_awake.f = some true := by kernel_rfl
theorem tdiv_neg1 (a : Int) : Int.tdiv a (-1) = -a := by
  have := Int.tdiv_neg a 1
  rw [Int.tdiv_one] at this
  exact this
theorem tmod_neg1 (a : Int) : Int.tmod a (-1) = 0 := by rw [Int.tmod_neg]; exact Int.tmod_one a
theorem apply_eq (op a b : Int) : eval_Apply.f op a b = rollbacknetref04_Apply.f op a b := by
  by_cases c : 8 ≤ op ∧ op ≤ 22
  · have hc : op = 8 ∨ op = 9 ∨ op = 10 ∨ op = 11 ∨ op = 12 ∨ op = 13 ∨ op = 14 ∨ op = 15 ∨ op = 16 ∨ op = 17 ∨ op = 18 ∨ op = 19 ∨ op = 20 ∨ op = 21 ∨ op = 22 := by omega
    rcases hc with rfl | rfl | rfl | rfl | rfl | rfl | rfl | rfl | rfl | rfl | rfl | rfl | rfl | rfl | rfl
    case inr.inr.inr.inr.inr.inl =>
      show eval_operators_6.f a b = (if b = 0 then (some 0) else (if b = (-1) then (some (wrap64 (-a))) else (some (wrap64 (Int.tdiv a b)))))
      unfold eval_operators_6.f
      by_cases h0 : b = 0
      · rw [if_pos h0, if_pos h0]
      · rw [if_neg h0, if_neg h0]
        by_cases h1 : b = -1
        · rw [if_pos h1, h1, tdiv_neg1]
        · rw [if_neg h1]
    case inr.inr.inr.inr.inr.inr.inl =>
      show eval_operators_7.f a b = (if b = 0 then (some 0) else (if b = (-1) then (some 0) else (some (Int.tmod a b))))
      unfold eval_operators_7.f
      by_cases h0 : b = 0
      · rw [if_pos h0, if_pos h0]
      · rw [if_neg h0, if_neg h0]
        by_cases h1 : b = -1
        · rw [if_pos h1, h1, tmod_neg1]
        · rw [if_neg h1]
    all_goals rfl
  · have h1 : eval_Apply.f op a b = some 0 := by
      unfold eval_Apply.f
      by_cases h : op < 8
      · rw [if_pos h]
      · rw [if_neg h, if_pos (by omega)]
    rw [h1]
    unfold rollbacknetref04_Apply.f
    rw [if_neg (by omega), if_neg (by omega), if_neg (by omega), if_neg (by omega), if_neg (by omega), if_neg (by omega), if_neg (by omega), if_neg (by omega), if_neg (by omega), if_neg (by omega), if_neg (by omega), if_neg (by omega), if_neg (by omega), if_neg (by omega), if_neg (by omega)]
theorem ite_some {c : Prop} [Decidable c] {x y : Option Int} (hx : ∃ r, x = some r) (hy : ∃ r, y = some r) : ∃ r, (if c then x else y) = some r := by
  by_cases h : c
  · rw [if_pos h]; exact hx
  · rw [if_neg h]; exact hy
theorem truth_some (b : Bool) : ∃ r, ((rollbacknetref04_truth.f b).bind fun t => (some t)) = some r := by cases b <;> exact ⟨_, rfl⟩
theorem apply_some (op a b : Int) : ∃ r, eval_Apply.f op a b = some r := by
  rw [apply_eq]
  unfold rollbacknetref04_Apply.f
  repeat' first
    | exact truth_some _
    | refine ite_some ?_ ?_
    | exact ⟨_, rfl⟩
/-! EvalApplies -/
theorem EvalApplies : rollbacknetlaw04_EvalApplies.Pure := by
  intro op a b _ _ _
  have hm : ∃ v, rollbacknetmake_Mod.f op 15 = some v := by
    unfold rollbacknetmake_Mod.f
    rw [if_neg (by omega)]
    split <;> exact ⟨_, rfl⟩
  obtain ⟨v, hv⟩ := hm
  obtain ⟨r, hr⟩ := apply_some op a b
  obtain ⟨q, hq⟩ := apply_some (wrap64 (8 + v)) a b
  unfold rollbacknetlaw04_EvalApplies.f
  rw [awake04, Option.bind_some, if_pos rfl, hv, Option.bind_some, ← apply_eq, hr, Option.bind_some, Option.bind_some, if_pos rfl, ← apply_eq, hq, Option.bind_some, Option.bind_some]
  simp
end Go.Proofs.Ytpklmllikcdacaa.Pure
