-- Out of the translation, by a program of this session (wip/myprint.py, over the kit's printer). Lean checks it.
import Derived.Test.YtbnhoacchibbnaaLwx0
import Derived.Test.YtbnhoacchibbnaaLwx1
import Derived.Test.YtbnhoacchibbnaaLwx2
import Derived.Test.YtbnhoacchibbnaaLwx3
namespace Go.Proofs.Ytbnhoacchibbnaa.Lw
open Go.RowKit Go.Proofs.YtbnhoacchibbnaaW.PrintWords Go.Proofs.YtbnhoacchibbnaaW.PrintLast Go.Proofs.YtbnhoacchibbnaaW.PrintMore
attribute [local go_sem] max2_int min2_int max_two min_two max_three min_three max_four min_four   -- for this text's walks alone
set_option linter.unusedVariables false
set_option linter.unusedSimpArgs false

attribute [local go_sem] eqlErr neqErr eqlErrNil neqErrNil
end Go.Proofs.Ytbnhoacchibbnaa.Lw
