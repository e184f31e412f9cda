-- Words that the kit's print lays for a claim, cut by a program of this session (prune.py) to the declarations that this seat's claims lean on. Lean checks it.
import Derived.Test.YtdobkcphmpbhlaaWInv
import Derived.Test.YtdobkcphmpbhlaaWFootNe
namespace Go.Proofs.YtdobkcphmpbhlaaW.PrintWords
open Go.RowKit
end Go.Proofs.YtdobkcphmpbhlaaW.PrintWords
namespace Go.Proofs.YtdobkcphmpbhlaaW.PrintLast
section
variable {ops : Array Oper} {a : Act} {o og : Oper} {g : Nat} {t : Tmp} {u : Bool}
theorem wanted_on (hg : o.guard = some (g, u)) (ho : ops[g]? = some og) (hd : og.dst = some t) (hv : a.tmps[t]? = some (.bool u)) : Region.wanted o (yielded ops a.tmps) = true := by
  simp [Region.wanted, hg, yielded, ho, hd, hv]
end
end Go.Proofs.YtdobkcphmpbhlaaW.PrintLast
