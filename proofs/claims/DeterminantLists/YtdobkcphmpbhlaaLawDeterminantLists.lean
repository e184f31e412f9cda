-- Written by a program of this session (hprint.py) out of the translation and of hand-proved parts. Lean checks it.
import Derived.Test.YtdobkcphmpbhlaaRows
import Derived.Test.YtdobkcphmpbhlaaPGLx2
import Derived.Test.YtdobkcphmpbhlaaPGLx15
import Derived.Test.YtdobkcphmpbhlaaPureDeterminantLists
import Derived.Test.YtdobkcphmpbhlaaHRead
import Derived.WalkKit
import Derived.ProofKit
import Derived.OpenShut
import Derived.ShutString
import Derived.ChangeOld
import Derived.Below
import Derived.SizedLaws
namespace Go.Proofs.Ytdobkcphmpbhlaa.determinantLists
open Go.ChangeShapes Go.WideShapes Go.ChangeAt Go.RowKit Go.Proofs.YtdobkcphmpbhlaaW.PrintWords Go.Proofs.Ytdobkcphmpbhlaa.PGL
open Go.ChangeMaps (open_string shut_string)
set_option linter.unusedVariables false
theorem own : ownKnob Try.prog.godebug = none := by kernel_rfl
theorem laidOut : laidOutB Try.prog = true := by kernel_rfl
set_option maxRecDepth 100000 in
theorem lifted (os : Os) (started : os.Started) (H : Type) (enc : TypeId × Value → H) :
    ReturnsInHanded {} Try.checked os 3 .any (Rows.determinantListsSpec.pre6 enc Try.prog Try.f3 Rows.determinantListsRow.domain false) (Rows.determinantListsSpec.post enc Try.prog Try.f3 false true false false) := by
  refine returnsInHanded_of_change_sized (C := Try.checked) own started (by kernel_rfl) Try.func3
    (ChangeSpec.witness6 (enc := enc) (C := Try.checked) false ⟨#[], #[.slice none 0 0, .agg #[.int .i64 0, .int .i64 0, .int .i64 0, .int .i64 0, .int .i64 0, .int .i64 0, .int .i64 0, .int .i64 0, .int .i64 0], .slice none 0 0, .int .i64 0, .int .i64 0], []⟩ 8 (by kernel_rfl) (by kernel_rfl) (by kernel_rfl) (by kernel_rfl)) ?_
  intro W base args ds gs before hval0 hW hcnd hsz0 _
  have hsz : (DataW.weightsEach Try.prog (Try.f3.params.toList ++ Rows.determinantListsSpec.plain.varTypes Try.prog) (ds ++ gs)).all (· ≤ reachBytes) = true := hsz0
  have hval : ∀ (j : Nat) t v, Try.f3.params[j]? = some t → args[j]? = some v → Value.okWide Try.prog W .any base t v := hval0
  have hW' := hW
  obtain ⟨p, q, hA0, hV, rfl, hfz, hnd⟩ := hW
  have hA : DataW.TrodAll enc Try.prog W 0 (fun _ => true) true Try.f3.params.toList args.toList ds p := hA0
  rw [Try.params3] at hA hval hsz
  obtain ⟨v0, vs0, d0, ds0, p0, q0, hargs, rfl, rfl, h0, r0⟩ := trodAll_cons hA
  obtain ⟨v1, vs1, d1, ds1, p1, q1, rfl, rfl, rfl, h1, r1⟩ := trodAll_cons r0
  obtain ⟨v2, vs2, d2, ds2, p2, q2, rfl, rfl, rfl, h2, r2⟩ := trodAll_cons r1
  obtain ⟨v3, vs3, d3, ds3, p3, q3, rfl, rfl, rfl, h3, r3⟩ := trodAll_cons r2
  obtain ⟨v4, vs4, d4, ds4, p4, q4, rfl, rfl, rfl, h4, r4⟩ := trodAll_cons r3
  obtain ⟨rfl, rfl, rfl⟩ := trodAll_nil r4
  obtain rfl : args = #[v0, v1, v2, v3, v4] := by cases args; simp_all
  obtain ⟨rfl, rfl⟩ := trodVars_none hV
  have k0 := h0
  have lt0 : ∀ x ∈ p0, x.block < W.heap.size := by obtain ⟨m, hm⟩ := k0; exact DataW.trod_lt m _ _ _ hm
  obtain ⟨A0, c0, x0, rfl, hc0, hr0, o0⟩ := arg_slice (opens_slice (B := 72) Try.underlying22 (by kernel_rfl) (by kernel_rfl) opens28) Try.underlying22 (hval 0 22 v0 rfl rfl) hsz (j := 0) (t := 22) rfl rfl h0
  have k1 := h1
  have lt1 : ∀ x ∈ p1, x.block < W.heap.size := by obtain ⟨m, hm⟩ := k1; exact DataW.trod_lt m _ _ _ hm
  obtain ⟨cs1, x1, rfl, hk1, o1⟩ := arg_struct opens28 Try.underlying28 (hval 1 28 v1 rfl rfl) hsz (j := 1) (t := 28) rfl rfl h1
  obtain hcs1 := k28_open hk1
  obtain rfl := Array.ext' (ys := (#[.int .i64 x1.f0, .int .i64 x1.f1, .int .i64 x1.f2.f0, .int .i64 x1.f2.f1, .int .i64 x1.f2.f2, .int .i64 x1.f2.f3.f0, .int .i64 x1.f2.f3.f1, .int .i64 x1.f2.f4, .int .i64 x1.f2.f5] : Array Value)) hcs1
  have k2 := h2
  have lt2 : ∀ x ∈ p2, x.block < W.heap.size := by obtain ⟨m, hm⟩ := k2; exact DataW.trod_lt m _ _ _ hm
  obtain ⟨A2, c2, x2, rfl, hc2, hr2, o2⟩ := arg_slice (opens_slice (B := 1) Try.underlying29 (by kernel_rfl) (by kernel_rfl) (opens_int Try.underlying5)) Try.underlying29 (hval 2 29 v2 rfl rfl) hsz (j := 2) (t := 29) rfl rfl h2
  obtain ⟨x3, rfl, rfl, rfl, o3⟩ := open_int Try.underlying3 (hval 3 3 v3 rfl rfl) h3
  obtain ⟨x4, rfl, rfl, rfl, o4⟩ := open_int Try.underlying3 (hval 4 3 v4 rfl rfl) h4
  clear hA0 hval0 hsz0 hsz
  obtain ⟨k, h⟩ := Pure.DeterminantLists x0 x1 x2 x3 x4 o0 o1 o2 o3 o4
  refine (PGL.rollbacknetlaw27_DeterminantLists.calls k _ _ x0 x1.f0 x1.f1 x1.f2.f0 x1.f2.f1 x1.f2.f2 x1.f2.f3.f0 x1.f2.f3.f1 x1.f2.f4 x1.f2.f5 _ _ x2 x3 x4 true W hr0 hc0 hr2 hc2 h).mono fun e W' ⟨he, bel⟩ => ?_
  subst he
  exact ⟨_, rfl, _, _, _, [], _, [], hW', trodAll_mk1 (shut_bool Try.underlying4 _), (trodAll_cons_mk (Below.trod laidOut (by kernel_rfl) (of_decide_eq_true (by kernel_rfl)) k0 bel lt0) (trodAll_cons_mk (Below.trod laidOut (by kernel_rfl) (of_decide_eq_true (by kernel_rfl)) k1 bel lt1) (trodAll_cons_mk (Below.trod laidOut (by kernel_rfl) (of_decide_eq_true (by kernel_rfl)) k2 bel lt2) (trodAll_cons_mk (shut_int Try.underlying3 o3) (trodAll_cons_mk (shut_int Try.underlying3 o4) trodAll_mk0))))), rfl, bel.frame _, fun h => by cases h⟩
theorem over : Rows.determinantListsRow.holds Try.pinned (OpenSpec.ofChange Rows.determinantListsSpec) :=
  OpenClaim.holds_of_wide 3 Try.f3 rfl rfl rfl rfl rfl rfl rfl ⟨rfl, rfl, rfl, rfl, rfl⟩ rfl rfl rfl rfl rfl (by kernel_rfl) Try.func3 (by kernel_rfl)
    (of_decide_eq_true (by kernel_rfl)) (by unfold Func.isWrapper; first | (rw [if_pos (by decide +kernel)]; kernel_rfl) | (rw [if_neg (by decide +kernel)]; exact ⟨rfl, rfl⟩))
    (fun os started H enc _ => lifted os started H enc)
theorem proved : Rows.DeterminantListsSaid := over
#print axioms proved
end Go.Proofs.Ytdobkcphmpbhlaa.determinantLists
namespace Go.Proofs.Ytdobkcphmpbhlaa
/-- The row, under a short name, for the claim. -/
theorem determinantLists_holds : Rows.DeterminantListsSaid := determinantLists.proved
end Go.Proofs.Ytdobkcphmpbhlaa
