-- Cut by a program of this session (wip/shake.py) out of the print's words: what this claim doesn't reach is struck out. Lean checks it.
import Derived.Test.YtkaoojcafefjjaaWTabCo
import Derived.Test.YtkaoojcafefjjaaWAtCo
namespace Go.Proofs.YtkaoojcafefjjaaW.PrintLast
section
variable {P : Program} {ops : Array Oper} {Q : Exit → Act → World → Prop} {md : Region.Mode} {T : Bool × List (List Nat × List Nat)} {B : List Nat} {O : List Nat} {b : Nat → Bool} {i j n : Nat}
end
end Go.Proofs.YtkaoojcafefjjaaW.PrintLast

namespace Go.Proofs.YtkaoojcafefjjaaW.PrintWords
open Go.RowKit
end Go.Proofs.YtkaoojcafefjjaaW.PrintWords
namespace Go.Proofs.YtkaoojcafefjjaaW.PrintLast
section
variable {ops : Array Oper} {a : Act} {o og : Oper} {g : Nat} {t : Tmp} {u : Bool}
end
end Go.Proofs.YtkaoojcafefjjaaW.PrintLast
