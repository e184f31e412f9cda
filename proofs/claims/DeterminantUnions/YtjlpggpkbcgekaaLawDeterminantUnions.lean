/- DeterminantUnions: the row of the law, out of its plain law (Pure) and the walks of the functions it reaches; for every input, no condition. -/
-- Written by a program of this session (hprint.py) out of the translation and of hand-proved parts. Lean checks it.
import Derived.Test.YtjlpggpkbcgekaaRows
import Derived.Test.YtjlpggpkbcgekaaPG27x2
import Derived.Test.YtjlpggpkbcgekaaPG27x42
import Derived.Test.YtjlpggpkbcgekaaPureDeterminantUnions
import Derived.Test.YtjlpggpkbcgekaaHRead
import Derived.WalkKit
import Derived.ProofKit
import Derived.OpenShut
import Derived.ShutString
import Derived.ChangeOld
import Derived.Below
import Derived.SizedLaws
namespace Go.Proofs.Ytjlpggpkbcgekaa.determinantUnions
open Go.ChangeShapes Go.WideShapes Go.ChangeAt Go.RowKit Go.Proofs.YtjlpggpkbcgekaaW.PrintWords Go.Proofs.Ytjlpggpkbcgekaa.PG27
open Go.ChangeMaps (open_string shut_string)
set_option linter.unusedVariables false
theorem own : ownKnob Try.prog.godebug = none := by kernel_rfl
theorem laidOut : laidOutB Try.prog = true := by kernel_rfl
set_option maxRecDepth 100000 in
theorem lifted (os : Os) (started : os.Started) (H : Type) (enc : TypeId × Value → H) :
    ReturnsInHanded {} Try.checked os 9 .any (Rows.determinantUnionsSpec.pre6 enc Try.prog Try.f9 Rows.determinantUnionsRow.domain false) (Rows.determinantUnionsSpec.post enc Try.prog Try.f9 false true false false) := by
  refine returnsInHanded_of_change_sized (C := Try.checked) own started (by kernel_rfl) Try.func9
    (ChangeSpec.witness6 (enc := enc) (C := Try.checked) false ⟨#[], #[.slice none 0 0, .agg #[.int .i64 0, .int .i64 0, .int .i64 0, .int .i64 0, .int .i64 0, .int .i64 0, .int .i64 0, .int .i64 0, .int .i64 0]], []⟩ 8 (by kernel_rfl) (by kernel_rfl) (by kernel_rfl) (by kernel_rfl)) ?_
  intro W base args ds gs before hval0 hW hcnd hsz0 _
  have hsz : (DataW.weightsEach Try.prog (Try.f9.params.toList ++ Rows.determinantUnionsSpec.plain.varTypes Try.prog) (ds ++ gs)).all (· ≤ reachBytes) = true := hsz0
  have hval : ∀ (j : Nat) t v, Try.f9.params[j]? = some t → args[j]? = some v → Value.okWide Try.prog W .any base t v := hval0
  have hW' := hW
  obtain ⟨p, q, hA0, hV, rfl, hfz, hnd⟩ := hW
  have hA : DataW.TrodAll enc Try.prog W 0 (fun _ => true) true Try.f9.params.toList args.toList ds p := hA0
  rw [Try.params9] at hA hval hsz
  obtain ⟨v0, vs0, d0, ds0, p0, q0, hargs, rfl, rfl, h0, r0⟩ := trodAll_cons hA
  obtain ⟨v1, vs1, d1, ds1, p1, q1, rfl, rfl, rfl, h1, r1⟩ := trodAll_cons r0
  obtain ⟨rfl, rfl, rfl⟩ := trodAll_nil r1
  obtain rfl : args = #[v0, v1] := by cases args; simp_all
  obtain ⟨rfl, rfl⟩ := trodVars_none hV
  have k0 := h0
  have lt0 : ∀ x ∈ p0, x.block < W.heap.size := by obtain ⟨m, hm⟩ := k0; exact DataW.trod_lt m _ _ _ hm
  obtain ⟨A0, c0, x0, rfl, hc0, hr0, o0⟩ := arg_slice (opens_slice (B := 1) Try.underlying25 (by kernel_rfl) (by kernel_rfl) (opens_int Try.underlying5)) Try.underlying25 (hval 0 25 v0 rfl rfl) hsz (j := 0) (t := 25) rfl rfl h0
  have k1 := h1
  have lt1 : ∀ x ∈ p1, x.block < W.heap.size := by obtain ⟨m, hm⟩ := k1; exact DataW.trod_lt m _ _ _ hm
  obtain ⟨cs1, x1, rfl, hk1, o1⟩ := arg_struct opens39 Try.underlying39 (hval 1 39 v1 rfl rfl) hsz (j := 1) (t := 39) rfl rfl h1
  obtain hcs1 := k39_open hk1
  obtain rfl := Array.ext' (ys := (#[.int .i64 x1.f0, .int .i64 x1.f1, .int .i64 x1.f2.f0, .int .i64 x1.f2.f1, .int .i64 x1.f2.f2, .int .i64 x1.f2.f3.f0, .int .i64 x1.f2.f3.f1, .int .i64 x1.f2.f4, .int .i64 x1.f2.f5] : Array Value)) hcs1
  clear hA0 hval0 hsz0 hsz
  obtain ⟨k, h⟩ := Pure.DeterminantUnions x0 x1 o0 o1
  refine (PG27.rollbacknetlaw27_DeterminantUnions.calls k _ _ x0 x1.f0 x1.f1 x1.f2.f0 x1.f2.f1 x1.f2.f2 x1.f2.f3.f0 x1.f2.f3.f1 x1.f2.f4 x1.f2.f5 true W hr0 hc0 h).mono fun e W' ⟨he, bel⟩ => ?_
  subst he
  exact ⟨_, rfl, _, _, _, [], _, [], hW', trodAll_mk1 (shut_bool Try.underlying4 _), (trodAll_cons_mk (Below.trod laidOut (by kernel_rfl) (of_decide_eq_true (by kernel_rfl)) k0 bel lt0) (trodAll_cons_mk (Below.trod laidOut (by kernel_rfl) (of_decide_eq_true (by kernel_rfl)) k1 bel lt1) trodAll_mk0)), rfl, bel.frame _, fun h => by cases h⟩
theorem over : Rows.determinantUnionsRow.holds Try.pinned (OpenSpec.ofChange Rows.determinantUnionsSpec) :=
  OpenClaim.holds_of_wide 9 Try.f9 rfl rfl rfl rfl rfl rfl rfl ⟨rfl, rfl, rfl, rfl, rfl⟩ rfl rfl rfl rfl rfl (by kernel_rfl) Try.func9 (by kernel_rfl)
    (of_decide_eq_true (by kernel_rfl)) (by unfold Func.isWrapper; first | (rw [if_pos (by decide +kernel)]; kernel_rfl) | (rw [if_neg (by decide +kernel)]; exact ⟨rfl, rfl⟩))
    (fun os started H enc _ => lifted os started H enc)
theorem proved : Rows.DeterminantUnionsSaid := over
#print axioms proved
end Go.Proofs.Ytjlpggpkbcgekaa.determinantUnions
namespace Go.Proofs.Ytjlpggpkbcgekaa
/-- The row, under a short name, for the claim. -/
theorem determinantUnions_holds : Rows.DeterminantUnionsSaid := determinantUnions.proved
end Go.Proofs.Ytjlpggpkbcgekaa
