-- Cut by a program of this session (wip/shake.py) out of the print's words: what this claim doesn't reach is struck out. Lean checks it.
import Derived.Test.YtjlbfbibamnigaaWInvBp
import Derived.Test.YtjlbfbibamnigaaWFootNeBp
namespace Go.Proofs.YtjlbfbibamnigaaW.PrintWords
open Go.RowKit
end Go.Proofs.YtjlbfbibamnigaaW.PrintWords
namespace Go.Proofs.YtjlbfbibamnigaaW.PrintLast
section
variable {ops : Array Oper} {a : Act} {o og : Oper} {g : Nat} {t : Tmp} {u : Bool}
end
end Go.Proofs.YtjlbfbibamnigaaW.PrintLast
