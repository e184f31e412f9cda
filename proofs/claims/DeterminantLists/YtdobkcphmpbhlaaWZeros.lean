-- Words that the kit's print lays for a claim, cut by a program of this session (prune.py) to the declarations that this seat's claims lean on. Lean checks it.
import Derived.Test.YtdobkcphmpbhlaaWApart
import Derived.Test.YtdobkcphmpbhlaaWArr
namespace Go.Proofs.YtdobkcphmpbhlaaW.PrintWords
open Go.RowKit
section
variable {P : Program}
end
namespace Kd
section
variable {P : Program} {ops : Array Oper} {rest : List Oper} {o : Oper} {a : Act} {Q : Exit → Act → World → Prop} {Kc : Act → World → Prop} {α : Type}
end
section
variable {α : Type} {d : Kd α} {e : Nat} {w : World} {base : Nat} {ok : Nat → Prop} {v : Value} {xs : List α}
end
section
variable {P : Program} {ops : Array Oper} {rest : List Oper} {o : Oper} {a : Act} {Q : Exit → Act → World → Prop} {Kc : Act → World → Prop} {α : Type}
end
end Kd
end Go.Proofs.YtdobkcphmpbhlaaW.PrintWords
