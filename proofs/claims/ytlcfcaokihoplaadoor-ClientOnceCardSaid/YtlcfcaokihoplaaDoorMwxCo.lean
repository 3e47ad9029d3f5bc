-- Cut by a program of this session (wip/shake.py) out of a text of this seat: what this claim doesn't reach is struck out. Lean checks it.
import Derived.Test.YtlcfcaokihoplaaDoorMwx0Co
import Derived.Test.YtlcfcaokihoplaaDoorMwx1Co
import Derived.Test.YtlcfcaokihoplaaDoorMwx2Co
namespace Go.Proofs.YtlcfcaokihoplaaDoor.Mw
open Go.RowKit Go.Proofs.YtlcfcaokihoplaaDoorW.PrintWords Go.Proofs.YtlcfcaokihoplaaDoorW.PrintLast Go.Proofs.YtlcfcaokihoplaaDoorW.PrintMore
attribute [local go_sem] max2_int min2_int max_two min_two max_three min_three max_four min_four   -- for this text's walks alone
set_option linter.unusedVariables false
set_option linter.unusedSimpArgs false
attribute [local go_sem] eqlErr neqErr eqlErrNil neqErrNil
end Go.Proofs.YtlcfcaokihoplaaDoor.Mw
