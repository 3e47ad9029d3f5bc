-- Cut by a program of this session (wip/shake.py) out of a text of this seat: what this claim doesn't reach is struck out. Lean checks it.
import Derived.Test.YtpbbgbikebcnbaaMsgRCs
import Derived.Lib.Hide
import Derived.BigRegion
import Derived.Test.YtpbbgbikebcnbaaMsgR3Cs
namespace Go.Proofs.Ytpbbgbikebcnbaa.MsgL
open Go.RowKit Go.Proofs.Ytpbbgbikebcnbaa.Mw Go.Proofs.YtpbbgbikebcnbaaW.PrintWords Go.Proofs.YtpbbgbikebcnbaaW.PrintLast Go.Proofs.YtpbbgbikebcnbaaW.PrintMore
set_option linter.unusedVariables false
set_option linter.unusedSimpArgs false
end Go.Proofs.Ytpbbgbikebcnbaa.MsgL

namespace Go.Proofs.Ytpbbgbikebcnbaa.MsgL
open Go.RowKit Go.Proofs.Ytpbbgbikebcnbaa.Mw Go.Proofs.YtpbbgbikebcnbaaW.PrintWords Go.Proofs.YtpbbgbikebcnbaaW.PrintLast Go.Proofs.YtpbbgbikebcnbaaW.PrintMore
set_option linter.unusedVariables false
set_option linter.unusedSimpArgs false
end Go.Proofs.Ytpbbgbikebcnbaa.MsgL
