-- Cut by a program of this session (wip/shake.py) out of the print's words: what this claim doesn't reach is struck out. Lean checks it.
import Derived.Test.YtghfofjlafeliaaDoorWInvCb
import Derived.Test.YtghfofjlafeliaaDoorWFootNeCb
namespace Go.Proofs.YtghfofjlafeliaaDoorW.PrintWords
open Go.RowKit
end Go.Proofs.YtghfofjlafeliaaDoorW.PrintWords
namespace Go.Proofs.YtghfofjlafeliaaDoorW.PrintLast
section
variable {ops : Array Oper} {a : Act} {o og : Oper} {g : Nat} {t : Tmp} {u : Bool}
end
end Go.Proofs.YtghfofjlafeliaaDoorW.PrintLast
