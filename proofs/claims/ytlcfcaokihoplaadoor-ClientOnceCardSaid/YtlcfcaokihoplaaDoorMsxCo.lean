-- Cut by a program of this session (wip/shake.py) out of a text of this seat: what this claim doesn't reach is struck out. Lean checks it.
import Derived.Test.YtlcfcaokihoplaaDoorMsx0Co
import Derived.Test.YtlcfcaokihoplaaDoorMsx1Co
import Derived.Test.YtlcfcaokihoplaaDoorMsx2Co
import Derived.Test.YtlcfcaokihoplaaDoorMsx3Co
import Derived.Test.YtlcfcaokihoplaaDoorMsx4Co
import Derived.Test.YtlcfcaokihoplaaDoorMsx5Co
import Derived.Test.YtlcfcaokihoplaaDoorMsx6Co
import Derived.Test.YtlcfcaokihoplaaDoorMsx7Co
namespace Go.Proofs.YtlcfcaokihoplaaDoor.Ms
open Go.RowKit Go.Proofs.YtlcfcaokihoplaaDoorW.PrintWords Go.Proofs.YtlcfcaokihoplaaDoorW.PrintLast Go.Proofs.YtlcfcaokihoplaaDoorW.PrintMore
attribute [local go_sem] max2_int min2_int max_two min_two max_three min_three max_four min_four   -- for this text's walks alone
set_option linter.unusedVariables false
set_option linter.unusedSimpArgs false
attribute [local go_sem] eqlErr neqErr eqlErrNil neqErrNil
open Go.Proofs.YtlcfcaokihoplaaDoor.Mw
end Go.Proofs.YtlcfcaokihoplaaDoor.Ms
