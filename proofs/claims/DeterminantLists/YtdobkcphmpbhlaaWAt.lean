-- Words that the kit's print lays for a claim, cut by a program of this session (prune.py) to the declarations that this seat's claims lean on. Lean checks it.
import Derived.Test.YtdobkcphmpbhlaaWFootNe
namespace Go.Proofs.YtdobkcphmpbhlaaW.PrintWords
open Go.RowKit
section
variable {w w' u : World} {m B g : Nat} {o : Obj} {row : Option Nat} {S : Nat → Prop} {a : Addr} {v : Value}
end
namespace Kd
section
variable {α : Type} {d : Kd α} {e base n m : Nat} {ok : Nat → Prop} {w w' : World} {v : Value} {A : Option Addr} {xs : List α}
end
end Kd
end Go.Proofs.YtdobkcphmpbhlaaW.PrintWords
