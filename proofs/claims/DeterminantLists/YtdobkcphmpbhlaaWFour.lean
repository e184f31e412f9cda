-- Words that the kit's print lays for a claim, cut by a program of this session (prune.py) to the declarations that this seat's claims lean on. Lean checks it.
import Derived.Test.YtdobkcphmpbhlaaWTab
namespace Go.Proofs.YtdobkcphmpbhlaaW.PrintLast
section
variable {P : Program} {ops : Array Oper} {Q : Exit → Act → World → Prop} {md : Region.Mode} {S : World → Prop} {ds : List Nat} {T : Bool × List (List Nat × List Nat)}
end
end Go.Proofs.YtdobkcphmpbhlaaW.PrintLast
