/-
  No cell of these rows narrows 'for every input' (looked for: loops, veiled, ifaces, maps, wideKeys, modest, calm, conditions, laid).
  DERIVED. THE GIVEN ROWS OF THIS SEAT. 3 by the template 'for every input the law returns true; each argument reads behind the call as it read before'; 0 by the template 'total and deterministic' (their statements: YtpklmllikcdacaaTotals.lean).
  GIVEN WITH THE SEED: the statements are not yours to turn. If you find one false, say at which input.
  Laid BY PROGRAM, IN A SANDBOX (cutbox-rows.mjs): the forced cells as the released guide's own fill.sh prints them over the translation 9902af4c16aa2a99… (all of the seat's roots in one cut). By AI agents, Wed Nov 11 2026. No macro, syntax, notation, axiom, sorry.
-/
import Derived.Test.YtpklmllikcdacaaChecked
import GoSem.Claim
import GoSem.ClaimJoined
import GoSem.ClaimMapViews
import Derived.JoinedTies
import Derived.KernelRfl
namespace Go.Proofs.Ytpklmllikcdacaa
/- THE CELL 'sum', in the pinned program and in every row, IS THE sha256 OF THE DUMP (.gsa) THAT YtpklmllikcdacaaProg.lean LOADS. Nothing in Lean hashes anything: it is a label: what it is worth is what the hold of that sum in a sandbox is worth. -/
noncomputable def Try.pinned : Pinned := { name := "ytpklmllikcdacaa", sum := "9902af4c16aa2a99b577e0d843957bb482f12047d035b494b7f907c31d40200e", checked := Try.checked }
namespace Rows
def none {H : Type} : Left H := { results := [], args := [] }

/-- 'rollbacknetlaw04.EvalApplies': WHATEVER THE INPUT: true; the input reads as it did. -/
def evalAppliesSpec : ChangeSpec := { name := "evalApplies", fn := fun _ => fun
  | [d1, d2, d3] => { results := [.lit (.bool true)], args := [d1, d2, d3] }
  | _ => none }
def evalAppliesRow : OpenClaim := { program := "ytpklmllikcdacaa", sum := "9902af4c16aa2a99b577e0d843957bb482f12047d035b494b7f907c31d40200e", func := "rollbacknet/rollbacknetlaw04.EvalApplies", spec := "evalApplies", unfollowed := true, recurses := true, apart := false }
def EvalAppliesSaid : Prop := evalAppliesRow.holds Try.pinned (OpenSpec.ofChange evalAppliesSpec)

/-- ITS FALSE NEIGHBOUR: 'it returns false'. Refute it at one input. -/
def evalAppliesWrong : ChangeSpec := { name := "evalApplies", fn := fun _ => fun
  | [d1, d2, d3] => { results := [.lit (.bool false)], args := [d1, d2, d3] }
  | _ => none }
def EvalAppliesWrongFalsely : Prop := evalAppliesRow.holds Try.pinned (OpenSpec.ofChange evalAppliesWrong)

/-- 'rollbacknetlaw04.EvalLaws': WHATEVER THE INPUT: true; the input reads as it did. -/
def evalLawsSpec : ChangeSpec := { name := "evalLaws", fn := fun _ => fun
  | [d1, d2] => { results := [.lit (.bool true)], args := [d1, d2] }
  | _ => none }
def evalLawsRow : OpenClaim := { program := "ytpklmllikcdacaa", sum := "9902af4c16aa2a99b577e0d843957bb482f12047d035b494b7f907c31d40200e", func := "rollbacknet/rollbacknetlaw04.EvalLaws", spec := "evalLaws", unfollowed := true, recurses := true, apart := false }
def EvalLawsSaid : Prop := evalLawsRow.holds Try.pinned (OpenSpec.ofChange evalLawsSpec)

/-- ITS FALSE NEIGHBOUR: 'it returns false'. Refute it at one input. -/
def evalLawsWrong : ChangeSpec := { name := "evalLaws", fn := fun _ => fun
  | [d1, d2] => { results := [.lit (.bool false)], args := [d1, d2] }
  | _ => none }
def EvalLawsWrongFalsely : Prop := evalLawsRow.holds Try.pinned (OpenSpec.ofChange evalLawsWrong)

/-- 'rollbacknetlaw04.EvalArrays': WHATEVER THE INPUT: true; the input reads as it did. -/
def evalArraysSpec : ChangeSpec := { name := "evalArrays", fn := fun _ => fun
  | [d1, d2, d3, d4] => { results := [.lit (.bool true)], args := [d1, d2, d3, d4] }
  | _ => none }
def evalArraysRow : OpenClaim := { program := "ytpklmllikcdacaa", sum := "9902af4c16aa2a99b577e0d843957bb482f12047d035b494b7f907c31d40200e", func := "rollbacknet/rollbacknetlaw04.EvalArrays", spec := "evalArrays", unfollowed := true, recurses := true, apart := false }
def EvalArraysSaid : Prop := evalArraysRow.holds Try.pinned (OpenSpec.ofChange evalArraysSpec)

/-- ITS FALSE NEIGHBOUR: 'it returns false'. Refute it at one input. -/
def evalArraysWrong : ChangeSpec := { name := "evalArrays", fn := fun _ => fun
  | [d1, d2, d3, d4] => { results := [.lit (.bool false)], args := [d1, d2, d3, d4] }
  | _ => none }
def EvalArraysWrongFalsely : Prop := evalArraysRow.holds Try.pinned (OpenSpec.ofChange evalArraysWrong)

/- THE SECOND FORM. 'bulk': how many values and letters a reading holds, each counted each time it is reached (what is shared counts as often as it is met; a slice's spare places count too). A statement '..UptoSaid' is the law's where the arguments, and the package variables that the reading takes, are together of bulk at most 1048576: NARROWER than '..Said'. Prove '..Said' where nothing that the law and all that it calls make is longer than what came in: it says more and counts as full. Else prove '..UptoSaid'. A law counts once. -/
mutual
def uptoBulk {H : Type} : DataW H → Nat
  | .lit (.string bytes) => bytes.length + 1
  | .lit _ => 1
  | .nil => 1
  | .ptr d => uptoBulk d + 1
  | .slice elems spare => uptoBulkAll elems + uptoBulkAll spare + 1
  | .agg parts => uptoBulkAll parts + 1
  | .iface _ d => uptoBulk d + 1
  | .map entries => uptoBulkEntries entries + 1
  | .held _ => 1
def uptoBulkAll {H : Type} : List (DataW H) → Nat
  | [] => 0
  | d :: r => uptoBulk d + uptoBulkAll r
def uptoBulkEntries {H : Type} : List (Lit × DataW H) → Nat
  | [] => 0
  | x :: r => uptoBulkEntry x + uptoBulkEntries r
def uptoBulkEntry {H : Type} : Lit × DataW H → Nat
  | (.string bytes, d) => bytes.length + uptoBulk d + 1
  | (_, d) => uptoBulk d + 1
 end
def uptoSmall : (H : Type) → List (DataW H) → Bool := fun _ ds => decide (uptoBulkAll ds ≤ 1048576)
def OpenSpec.upto (s : _root_.Go.ChangeSpec) : _root_.Go.OpenSpec := { _root_.Go.OpenSpec.ofChange s with cond := some uptoSmall }

/-- 'rollbacknetlaw04.EvalApplies', WHERE WHAT IT READS IS OF BULK AT MOST 1048576: true; the input reads as it did. -/
def evalAppliesUptoRow : OpenClaim := { program := "ytpklmllikcdacaa", sum := "9902af4c16aa2a99b577e0d843957bb482f12047d035b494b7f907c31d40200e", func := "rollbacknet/rollbacknetlaw04.EvalApplies", spec := "evalApplies", unfollowed := true, recurses := true, apart := false, narrowed := true }
def EvalAppliesUptoSaid : Prop := evalAppliesUptoRow.holds Try.pinned (OpenSpec.upto evalAppliesSpec)

/-- 'rollbacknetlaw04.EvalLaws', WHERE WHAT IT READS IS OF BULK AT MOST 1048576: true; the input reads as it did. -/
def evalLawsUptoRow : OpenClaim := { program := "ytpklmllikcdacaa", sum := "9902af4c16aa2a99b577e0d843957bb482f12047d035b494b7f907c31d40200e", func := "rollbacknet/rollbacknetlaw04.EvalLaws", spec := "evalLaws", unfollowed := true, recurses := true, apart := false, narrowed := true }
def EvalLawsUptoSaid : Prop := evalLawsUptoRow.holds Try.pinned (OpenSpec.upto evalLawsSpec)

/-- 'rollbacknetlaw04.EvalArrays', WHERE WHAT IT READS IS OF BULK AT MOST 1048576: true; the input reads as it did. -/
def evalArraysUptoRow : OpenClaim := { program := "ytpklmllikcdacaa", sum := "9902af4c16aa2a99b577e0d843957bb482f12047d035b494b7f907c31d40200e", func := "rollbacknet/rollbacknetlaw04.EvalArrays", spec := "evalArrays", unfollowed := true, recurses := true, apart := false, narrowed := true }
def EvalArraysUptoSaid : Prop := evalArraysUptoRow.holds Try.pinned (OpenSpec.upto evalArraysSpec)

end Rows
end Go.Proofs.Ytpklmllikcdacaa
