-- Words that the kit's print lays for a claim, cut by a program of this session (prune.py) to the declarations that this seat's claims lean on. Lean checks it.
import Derived.Test.YtdobkcphmpbhlaaWN
namespace Go.Proofs.YtdobkcphmpbhlaaW.PrintWords
open Go.RowKit
namespace Kd
section
variable {α : Type} {d : Kd α} {e base n cap g : Nat} {ok ok' okp : Nat → Prop} {w w1 W : World} {v v1 : Value} {xs ys : List α}
end
section
variable {P : Program} {ops : Array Oper} {rest : List Oper} {o : Oper} {a : Act} {Q : Exit → Act → World → Prop} {Kc : Act → World → Prop} {α : Type}
end
end Kd
end Go.Proofs.YtdobkcphmpbhlaaW.PrintWords
