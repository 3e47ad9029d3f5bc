-- Cut by a program of this session (wip/shake.py) out of a text of this seat: what this claim doesn't reach is struck out. Lean checks it.
import Derived.Test.YtpbbgbikebcnbaaMwx0Cx
import Derived.Test.YtpbbgbikebcnbaaMwx1Cx
import Derived.Test.YtpbbgbikebcnbaaMwx2Cx
import Derived.Test.YtpbbgbikebcnbaaMwx3Cx
namespace Go.Proofs.Ytpbbgbikebcnbaa.Mw
open Go.RowKit Go.Proofs.YtpbbgbikebcnbaaW.PrintWords Go.Proofs.YtpbbgbikebcnbaaW.PrintLast Go.Proofs.YtpbbgbikebcnbaaW.PrintMore
attribute [local go_sem] max2_int min2_int max_two min_two max_three min_three max_four min_four   -- for this text's walks alone
set_option linter.unusedVariables false
set_option linter.unusedSimpArgs false
attribute [local go_sem] eqlErr neqErr eqlErrNil neqErrNil
end Go.Proofs.Ytpbbgbikebcnbaa.Mw
