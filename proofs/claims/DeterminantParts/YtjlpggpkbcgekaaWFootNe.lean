-- Words that the print of the kit lays for a claim, cut by a program of this session (prune.py) to the declarations that this claim leans on. Lean checks it.
import Derived.Test.YtjlpggpkbcgekaaWN
/-! ### 52. A row that stays read whatever happens to a block (a set of blocks) doesn't lie there -/
namespace Go.Proofs.YtjlpggpkbcgekaaW.PrintWords
open Go.RowKit
namespace Kd
section
variable {α : Type} {d : Kd α} {W : World} {g n : Nat} {S ok : Nat → Prop} {A : Option Addr} {ad : Addr} {xs : List α}
end
end Kd
end Go.Proofs.YtjlpggpkbcgekaaW.PrintWords
