-- Cut by a program of this session (wip/shake.py) out of a text of this seat: what this claim doesn't reach is struck out. Lean checks it.
import Derived.Test.YtpbbgbikebcnbaaMsx0Cw
import Derived.Test.YtpbbgbikebcnbaaMsx1Cw
import Derived.Test.YtpbbgbikebcnbaaMsx2Cw
import Derived.Test.YtpbbgbikebcnbaaMsx5Cw
import Derived.Test.YtpbbgbikebcnbaaMsx6Cw
import Derived.Test.YtpbbgbikebcnbaaMsx7Cw
import Derived.Test.YtpbbgbikebcnbaaMsx10Cw
import Derived.Test.YtpbbgbikebcnbaaMsx13Cw
import Derived.Test.YtpbbgbikebcnbaaMsx14Cw
import Derived.Test.YtpbbgbikebcnbaaMsx19Cw
import Derived.Test.YtpbbgbikebcnbaaMsx20Cw
import Derived.Test.YtpbbgbikebcnbaaMsx21Cw
import Derived.Test.YtpbbgbikebcnbaaMsx22Cw
import Derived.Test.YtpbbgbikebcnbaaMsx23Cw
import Derived.Test.YtpbbgbikebcnbaaMsx24Cw
import Derived.Test.YtpbbgbikebcnbaaMsx25Cw
namespace Go.Proofs.Ytpbbgbikebcnbaa.Ms
open Go.RowKit Go.Proofs.YtpbbgbikebcnbaaW.PrintWords Go.Proofs.YtpbbgbikebcnbaaW.PrintLast Go.Proofs.YtpbbgbikebcnbaaW.PrintMore
attribute [local go_sem] max2_int min2_int max_two min_two max_three min_three max_four min_four   -- for this text's walks alone
set_option linter.unusedVariables false
set_option linter.unusedSimpArgs false
attribute [local go_sem] eqlErr neqErr eqlErrNil neqErrNil
open Go.Proofs.Ytpbbgbikebcnbaa.Mw
end Go.Proofs.Ytpbbgbikebcnbaa.Ms
