/- EvalLaws (P4.3): laws of arithmetic and logic hold of the operators for every two operands; no condition. -/
import Derived.Test.YtpklmllikcdacaaPT04x0
import Derived.Test.YtpklmllikcdacaaPT04x1
import Derived.Test.YtpklmllikcdacaaPT04x4
import Derived.Test.YtpklmllikcdacaaPT04x5
import Derived.Test.YtpklmllikcdacaaPT04x7
import Derived.Test.YtpklmllikcdacaaPT04x8
namespace Go.Proofs.Ytpklmllikcdacaa.Pure
open Go.RowKit Go.Proofs.Ytpklmllikcdacaa.PT04 Go.Proofs.YtpklmllikcdacaaW.PrintWords Go.Proofs.YtpklmllikcdacaaW.PrintLast
set_option linter.unusedVariables false
set_option linter.unusedSimpArgs false
/-! EvalLaws -/
theorem awake04k : rollbacknetlaw04_awake.f 1 = some true := by kernel_rfl
theorem awake_from : ∀ k, rollbacknetlaw04_awake.f (k + 1) = some true
  | 0 => awake04k
  | k + 1 => rollbacknetlaw04_awake.mono (k + 1) _ (awake_from k)
def b2 (p : Prop) [Decidable p] : Int := if p then 1 else 0
theorem bit_at (b : Bool) : ((eval_bit.f b).bind fun t => (some t)) = some (b2 (b = true)) := by cases b <;> rfl
theorem ap8 (a b : Int) : eval_Apply.f 8 a b = some (wrap64 (-a)) := rfl
theorem ap9 (a b : Int) : eval_Apply.f 9 a b = some (b2 (a = 0)) := by
  show ((eval_bit.f (a == 0)).bind fun t => (some t)) = _
  rw [bit_at]; simp [b2]
theorem ap10 (a b : Int) : eval_Apply.f 10 a b = some (wrap64 (a + b)) := rfl
theorem ap11 (a b : Int) : eval_Apply.f 11 a b = some (wrap64 (a - b)) := rfl
theorem ap12 (a b : Int) : eval_Apply.f 12 a b = some (wrap64 (a * b)) := rfl
theorem ap13 (a b : Int) : eval_Apply.f 13 a b = some (if b = 0 then 0 else wrap64 (Int.tdiv a b)) := by
  show (if b = 0 then (some 0) else (some (wrap64 (Int.tdiv a b)))) = _
  split <;> rfl
theorem ap14 (a b : Int) : eval_Apply.f 14 a b = some (if b = 0 then 0 else Int.tmod a b) := by
  show (if b = 0 then (some 0) else (some (Int.tmod a b))) = _
  split <;> rfl
theorem ap15 (a b : Int) : eval_Apply.f 15 a b = some (b2 (a < b)) := by
  show ((eval_bit.f (decide (a < b))).bind fun t => (some t)) = _
  rw [bit_at]; simp [b2]
theorem ap16 (a b : Int) : eval_Apply.f 16 a b = some (b2 (a ≤ b)) := by
  show ((eval_bit.f (decide (a ≤ b))).bind fun t => (some t)) = _
  rw [bit_at]; simp [b2]
theorem ap17 (a b : Int) : eval_Apply.f 17 a b = some (b2 (a > b)) := by
  show ((eval_bit.f (decide (a > b))).bind fun t => (some t)) = _
  rw [bit_at]; simp [b2]
theorem ap18 (a b : Int) : eval_Apply.f 18 a b = some (b2 (a ≥ b)) := by
  show ((eval_bit.f (decide (a ≥ b))).bind fun t => (some t)) = _
  rw [bit_at]; simp [b2]
theorem ap19 (a b : Int) : eval_Apply.f 19 a b = some (b2 (a = b)) := by
  show ((eval_bit.f (a == b)).bind fun t => (some t)) = _
  rw [bit_at]; simp [b2]
theorem ap20 (a b : Int) : eval_Apply.f 20 a b = some (b2 (¬ a = b)) := by
  show ((eval_bit.f (a != b)).bind fun t => (some t)) = _
  rw [bit_at]; simp [b2]
theorem ap21 (a b : Int) : eval_Apply.f 21 a b = some (b2 (¬ a = 0 ∧ ¬ b = 0)) := by
  show (if a = 0 then ((eval_bit.f false).bind fun t => (some t)) else ((eval_bit.f (b != 0)).bind fun t => (some t))) = _
  rw [bit_at, bit_at]
  by_cases h : a = 0 <;> simp [b2, h]
theorem ap22 (a b : Int) : eval_Apply.f 22 a b = some (b2 (¬ a = 0 ∨ ¬ b = 0)) := by
  show (if a = 0 then ((eval_bit.f (b != 0)).bind fun t => (some t)) else ((eval_bit.f true).bind fun t => (some t))) = _
  rw [bit_at, bit_at]
  by_cases h : a = 0 <;> simp [b2, h]
theorem b2_congr {p q : Prop} [Decidable p] [Decidable q] (h : p ↔ q) : b2 p = b2 q := by
  unfold b2
  by_cases c : p
  · rw [if_pos c, if_pos (h.1 c)]
  · rw [if_neg c, if_neg (fun h' => c (h.2 h'))]
theorem b2_sum {p q : Prop} [Decidable p] [Decidable q] (h : q ↔ ¬ p) : wrap64 (b2 p + b2 q) = 1 := by
  unfold b2
  by_cases c : p
  · rw [if_pos c, if_neg (fun h' => h.1 h' c)]; unfold wrap64; omega
  · rw [if_neg c, if_pos (h.2 c)]; unfold wrap64; omega
theorem wrap_more (x t : Int) : wrap64 (x + 18446744073709551616 * t) = wrap64 x := by unfold wrap64; omega
theorem wrap_is (x : Int) : ∃ t, wrap64 x = x + 18446744073709551616 * t := ⟨-((x + 9223372036854775808) / 18446744073709551616), by unfold wrap64; omega⟩
theorem int64_of {x : Int} (h : okInt .i64 x) : -9223372036854775808 ≤ x ∧ x ≤ 9223372036854775807 := by simpa [okInt, Lit.wf, IntKind.min, IntKind.max, IntKind.signed, IntKind.bits] using h
theorem quo_rem {a b : Int} (ha : -9223372036854775808 ≤ a ∧ a ≤ 9223372036854775807) : wrap64 (wrap64 (wrap64 (Int.tdiv a b) * b) + Int.tmod a b) = a := by
  obtain ⟨t, ht⟩ := wrap_is (Int.tdiv a b)
  obtain ⟨u, hu⟩ := wrap_is (wrap64 (Int.tdiv a b) * b)
  have e : Int.tmod a b + b * Int.tdiv a b = a := Int.tmod_add_mul_tdiv a b
  have e2 : wrap64 (wrap64 (Int.tdiv a b) * b) + Int.tmod a b = a + 18446744073709551616 * (t * b + u) := by
    rw [hu, ht, Int.add_mul, Int.mul_add, Int.mul_assoc]
    have : Int.tdiv a b * b = b * Int.tdiv a b := Int.mul_comm _ _
    omega
  rw [e2, wrap_more]
  unfold wrap64; omega
theorem laws_j2 {a b : Int} (ha : -9223372036854775808 ≤ a ∧ a ≤ 9223372036854775807) (k : Nat) : rollbacknetlaw04_EvalLaws.j2 (k + 1) a b false = some true := by
  have not_at : ∀ x, rollbacknetlaw04_EvalLaws_1.f x = some (b2 (x = 0)) := fun x => by
    unfold rollbacknetlaw04_EvalLaws_1.f
    rw [ap9]; rfl
  have e1 : wrap64 (wrap64 (a + b) - b) = a := by unfold wrap64; omega
  have e2 : wrap64 (-(wrap64 (-a))) = a := by unfold wrap64; omega
  have z : ∀ (p : Prop) [Decidable p], (b2 p = 0 ↔ ¬ p) := fun p _ => by unfold b2; by_cases h : p <;> simp [h]
  have e3 : b2 (b2 (¬ a = 0 ∧ ¬ b = 0) = 0) = b2 (¬ b2 (a = 0) = 0 ∨ ¬ b2 (b = 0) = 0) := b2_congr (by
    rw [z, z, z]
    constructor
    · intro h
      by_cases c : a = 0
      · exact .inl (fun h' => h' c)
      · exact .inr (fun h' => h ⟨c, h'⟩)
    · rintro (h | h) ⟨c, d⟩
      · exact h c
      · exact h d)
  rw [rollbacknetlaw04_EvalLaws.j2, if_neg (by decide), ap10, Option.bind_some, ap11, Option.bind_some, if_pos e1, ap21, Option.bind_some, not_at, Option.bind_some, not_at, Option.bind_some, not_at, Option.bind_some, ap22, Option.bind_some, if_pos e3, ap8, Option.bind_some, ap8, Option.bind_some, if_pos e2, ap15, Option.bind_some, ap17, Option.bind_some]
  rw [b2_congr (show a < b ↔ b > a from Iff.rfl)]
  simp
theorem rd_T27_0 (x y z : S27) : rd_T27 [x, y, z] 0 = x := rfl
theorem rd_T27_1 (x y z : S27) : rd_T27 [x, y, z] 1 = y := rfl
theorem rd_T27_2 (x y z : S27) : rd_T27 [x, y, z] 2 = z := rfl
theorem laws_end {a b : Int} (ha : -9223372036854775808 ≤ a ∧ a ≤ 9223372036854775807) (k : Nat) (l : List S27) : rollbacknetlaw04_EvalLaws.l1 (k + 2) a b l 3 3 = some true := by
  rw [rollbacknetlaw04_EvalLaws.l1, if_neg (by omega), ap13, Option.bind_some, ap14, Option.bind_some]
  by_cases c : b = 0
  · rw [if_pos c, if_pos c, if_pos c, if_pos rfl]
    exact laws_j2 ha k
  · rw [if_neg c, if_neg c, if_neg c, if_pos (quo_rem ha)]
    exact laws_j2 ha k
theorem laws_l1 {a b : Int} (ha : -9223372036854775808 ≤ a ∧ a ≤ 9223372036854775807) (k : Nat) : rollbacknetlaw04_EvalLaws.l1 (k + 5) a b [(⟨15, 18⟩ : S27), (⟨16, 17⟩ : S27), (⟨19, 20⟩ : S27)] 3 0 = some true := by
  have hl : (([(⟨15, 18⟩ : S27), (⟨16, 17⟩ : S27), (⟨19, 20⟩ : S27)] : List S27).length : Int) = 3 := rfl
  rw [rollbacknetlaw04_EvalLaws.l1, if_pos (by omega), if_pos (by omega), hl, if_pos (by omega), rd_T27_0, ap15, Option.bind_some, ap18, Option.bind_some, if_pos (b2_sum (by omega)), show wrap64 (0 + 1) = 1 by unfold wrap64; omega]
  rw [rollbacknetlaw04_EvalLaws.l1, if_pos (by omega), if_pos (by omega), hl, if_pos (by omega), rd_T27_1, ap16, Option.bind_some, ap17, Option.bind_some, if_pos (b2_sum (by omega)), show wrap64 (1 + 1) = 2 by unfold wrap64; omega]
  rw [rollbacknetlaw04_EvalLaws.l1, if_pos (by omega), if_pos (by omega), hl, if_pos (by omega), rd_T27_2, ap19, Option.bind_some, ap20, Option.bind_some, if_pos (b2_sum Iff.rfl), show wrap64 (2 + 1) = 3 by unfold wrap64; omega]
  exact laws_end ha k _
theorem laws_l0 {a b : Int} (ha : -9223372036854775808 ≤ a ∧ a ≤ 9223372036854775807) (k : Nat) : rollbacknetlaw04_EvalLaws.l0 (k + 12) a b [10, 12, 19, 20, 21, 22] 6 0 = some true := by
  have hl : (([10, 12, 19, 20, 21, 22] : List Int).length : Int) = 6 := rfl
  rw [rollbacknetlaw04_EvalLaws.l0, if_pos (by omega), if_pos (by omega), hl, if_pos (by omega), show rd [10, 12, 19, 20, 21, 22] 0 = 10 from rfl, ap10, Option.bind_some, ap10, Option.bind_some, if_pos (by rw [Int.add_comm]), show wrap64 (0 + 1) = 1 by unfold wrap64; omega]
  rw [rollbacknetlaw04_EvalLaws.l0, if_pos (by omega), if_pos (by omega), hl, if_pos (by omega), show rd [10, 12, 19, 20, 21, 22] 1 = 12 from rfl, ap12, Option.bind_some, ap12, Option.bind_some, if_pos (by rw [Int.mul_comm]), show wrap64 (1 + 1) = 2 by unfold wrap64; omega]
  rw [rollbacknetlaw04_EvalLaws.l0, if_pos (by omega), if_pos (by omega), hl, if_pos (by omega), show rd [10, 12, 19, 20, 21, 22] 2 = 19 from rfl, ap19, Option.bind_some, ap19, Option.bind_some, if_pos (b2_congr ⟨Eq.symm, Eq.symm⟩), show wrap64 (2 + 1) = 3 by unfold wrap64; omega]
  rw [rollbacknetlaw04_EvalLaws.l0, if_pos (by omega), if_pos (by omega), hl, if_pos (by omega), show rd [10, 12, 19, 20, 21, 22] 3 = 20 from rfl, ap20, Option.bind_some, ap20, Option.bind_some, if_pos (b2_congr ⟨fun h e => h e.symm, fun h e => h e.symm⟩), show wrap64 (3 + 1) = 4 by unfold wrap64; omega]
  rw [rollbacknetlaw04_EvalLaws.l0, if_pos (by omega), if_pos (by omega), hl, if_pos (by omega), show rd [10, 12, 19, 20, 21, 22] 4 = 21 from rfl, ap21, Option.bind_some, ap21, Option.bind_some, if_pos (b2_congr And.comm), show wrap64 (4 + 1) = 5 by unfold wrap64; omega]
  rw [rollbacknetlaw04_EvalLaws.l0, if_pos (by omega), if_pos (by omega), hl, if_pos (by omega), show rd [10, 12, 19, 20, 21, 22] 5 = 22 from rfl, ap22, Option.bind_some, ap22, Option.bind_some, if_pos (b2_congr Or.comm), show wrap64 (5 + 1) = 6 by unfold wrap64; omega]
  rw [rollbacknetlaw04_EvalLaws.l0, if_neg (by omega), Option.bind_some]
  exact laws_l1 ha k
theorem EvalLaws : rollbacknetlaw04_EvalLaws.Pure := by
  intro a b ha _
  refine ⟨12, ?_⟩
  unfold rollbacknetlaw04_EvalLaws.f
  rw [awake_from 11, Option.bind_some, if_pos rfl, Option.bind_some]
  exact laws_l0 (int64_of ha) 0
end Go.Proofs.Ytpklmllikcdacaa.Pure
