/- EvalArrays (P4.2): for every cells, slot, size and index the array's element is the cell behind as many others, or 0; no condition. -/
import Derived.Test.YtpklmllikcdacaaPG04x0
import Derived.Test.YtpklmllikcdacaaPG04x10
import Derived.Test.YtpklmllikcdacaaPG04x5
import Derived.Test.YtpklmllikcdacaaPG04x6
import Derived.Test.YtpklmllikcdacaaPG04x7
namespace Go.Proofs.Ytpklmllikcdacaa.Pure
open Go.RowKit Go.Proofs.Ytpklmllikcdacaa.PG04 Go.Proofs.YtpklmllikcdacaaW.PrintWords Go.Proofs.YtpklmllikcdacaaW.PrintLast
set_option linter.unusedVariables false
set_option linter.unusedSimpArgs false
/-! EvalArrays -/
theorem awake04k : rollbacknetlaw04_awake.f 2 = some true := by kernel_rfl
theorem val_ix (s n i : Int) (cs : List Int) : eval_Value.f 2 3 0 (⟨#[]⟩ : ByteArray) s n [(⟨1, i, (⟨#[]⟩ : ByteArray), 0, 0, ([] : List (S33))⟩ : S33)] cs 0 0 0 0 = (if i < 0 then some 0 else if i ≥ n then some 0 else eval_cell.f cs (wrap64 (s + i))) := by
  rfl
theorem w64a {x : Int} (h : -9223372036854775808 ≤ x ∧ x ≤ 9223372036854775807) : wrap64 x = x := by unfold wrap64; omega
theorem byte_of {x : Int} (h : okInt .u8 x) : 0 ≤ x ∧ x ≤ 255 := by simpa [okInt, Lit.wf, IntKind.min, IntKind.max, IntKind.signed, IntKind.bits] using h
theorem modk (x : Int) (h : 0 ≤ x ∧ x ≤ 255) : 0 ≤ Int.tmod (wrap64 x) 12 ∧ Int.tmod (wrap64 x) 12 < 12 := by
  rw [w64a (by omega), Int.tmod_eq_emod_of_nonneg h.1]
  exact ⟨Int.emod_nonneg _ (by omega), Int.emod_lt_of_pos _ (by omega)⟩
theorem EvalArrays : rollbacknetlaw04_EvalArrays.Pure := by
  intro cs a1 a2 a3 hc h1 h2 h3
  refine ⟨2, ?_⟩
  have hm : ∃ v, rollbacknetmake_Mod.f a3 16 = some v ∧ 0 ≤ v ∧ v < 16 := by
    unfold rollbacknetmake_Mod.f
    rw [if_neg (by omega)]
    have e1 : Int.tmod a3 16 < 16 := Int.tmod_lt_of_pos _ (by omega)
    have e2 : -16 < Int.tmod a3 16 := by
      have := Int.tmod_lt_of_pos (-a3) (show (0 : Int) < 16 by omega)
      rw [Int.neg_tmod] at this
      omega
    by_cases c : Int.tmod a3 16 < 0
    · rw [if_pos c]; exact ⟨_, rfl, by rw [w64a (by omega)]; omega, by rw [w64a (by omega)]; omega⟩
    · rw [if_neg c]; exact ⟨_, rfl, by omega, by omega⟩
  obtain ⟨v, hv, v0, v1⟩ := hm
  obtain ⟨s0, s1⟩ := modk a1 (byte_of h1)
  obtain ⟨n0, n1⟩ := modk a2 (byte_of h2)
  unfold rollbacknetlaw04_EvalArrays.f
  rw [awake04k, Option.bind_some, if_pos rfl]
  by_cases c0 : (cs.length : Int) > 40
  · rw [if_pos c0]
  rw [if_neg c0, hv, Option.bind_some, w64a (x := v - 2) (by omega)]
  generalize Int.tmod (wrap64 a1) 12 = s at s0 s1 ⊢
  generalize Int.tmod (wrap64 a2) 12 = n at n0 n1 ⊢
  generalize hi : v - 2 = i
  have i0 : -2 ≤ i := by omega
  have i1 : i < 14 := by omega
  simp only [val_ix]
  rw [w64a (x := s + i) (by omega)]
  by_cases c1 : i ≥ 0
  · rw [if_pos c1, if_neg (show ¬ i < 0 by omega)]
    by_cases c2 : i < n
    · rw [if_pos c2, if_neg (show ¬ i ≥ n by omega)]
      by_cases c3 : s + i < (cs.length : Int)
      · rw [if_pos c3, if_pos (show 0 ≤ s + i by omega)]
        unfold eval_cell.f
        rw [if_neg (by omega), if_neg (by omega), if_pos (by omega), if_pos c3, Option.bind_some]
        simp
      · rw [if_neg c3]
        unfold eval_cell.f
        rw [if_neg (by omega), if_pos (by omega), Option.bind_some]
        rfl
    · rw [if_neg c2, if_pos (show i ≥ n by omega), Option.bind_some]
      rfl
  · rw [if_neg c1, if_pos (show i < 0 by omega), Option.bind_some]
    rfl
end Go.Proofs.Ytpklmllikcdacaa.Pure
