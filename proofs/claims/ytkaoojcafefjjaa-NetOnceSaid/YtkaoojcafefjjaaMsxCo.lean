-- Cut by a program of this session (wip/shake.py) out of a text of this seat: what this claim doesn't reach is struck out. Lean checks it.
import Derived.Test.YtkaoojcafefjjaaMsx0Co
import Derived.Test.YtkaoojcafefjjaaMsx1Co
import Derived.Test.YtkaoojcafefjjaaMsx2Co
import Derived.Test.YtkaoojcafefjjaaMsx3Co
import Derived.Test.YtkaoojcafefjjaaMsx4Co
import Derived.Test.YtkaoojcafefjjaaMsx5Co
import Derived.Test.YtkaoojcafefjjaaMsx6Co
import Derived.Test.YtkaoojcafefjjaaMsx8Co
import Derived.Test.YtkaoojcafefjjaaMsx9Co
import Derived.Test.YtkaoojcafefjjaaMsx10Co
import Derived.Test.YtkaoojcafefjjaaMsx11Co
import Derived.Test.YtkaoojcafefjjaaMsx12Co
import Derived.Test.YtkaoojcafefjjaaMsx13Co
import Derived.Test.YtkaoojcafefjjaaMsx14Co
namespace Go.Proofs.Ytkaoojcafefjjaa.Ms
open Go.RowKit Go.Proofs.YtkaoojcafefjjaaW.PrintWords Go.Proofs.YtkaoojcafefjjaaW.PrintLast Go.Proofs.YtkaoojcafefjjaaW.PrintMore
attribute [local go_sem] max2_int min2_int max_two min_two max_three min_three max_four min_four   -- for this text's walks alone
set_option linter.unusedVariables false
set_option linter.unusedSimpArgs false
attribute [local go_sem] eqlErr neqErr eqlErrNil neqErrNil
open Go.Proofs.Ytkaoojcafefjjaa.Mw
end Go.Proofs.Ytkaoojcafefjjaa.Ms
