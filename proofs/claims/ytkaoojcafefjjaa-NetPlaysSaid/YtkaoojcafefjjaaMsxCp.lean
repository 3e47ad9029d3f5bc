-- Cut by a program of this session (wip/shake.py) out of a text of this seat: what this claim doesn't reach is struck out. Lean checks it.
import Derived.Test.YtkaoojcafefjjaaMsx0Cp
import Derived.Test.YtkaoojcafefjjaaMsx1Cp
import Derived.Test.YtkaoojcafefjjaaMsx2Cp
import Derived.Test.YtkaoojcafefjjaaMsx3Cp
import Derived.Test.YtkaoojcafefjjaaMsx4Cp
import Derived.Test.YtkaoojcafefjjaaMsx5Cp
import Derived.Test.YtkaoojcafefjjaaMsx6Cp
import Derived.Test.YtkaoojcafefjjaaMsx7Cp
import Derived.Test.YtkaoojcafefjjaaMsx8Cp
import Derived.Test.YtkaoojcafefjjaaMsx9Cp
import Derived.Test.YtkaoojcafefjjaaMsx10Cp
import Derived.Test.YtkaoojcafefjjaaMsx11Cp
import Derived.Test.YtkaoojcafefjjaaMsx12Cp
import Derived.Test.YtkaoojcafefjjaaMsx13Cp
import Derived.Test.YtkaoojcafefjjaaMsx14Cp
namespace Go.Proofs.Ytkaoojcafefjjaa.Ms
open Go.RowKit Go.Proofs.YtkaoojcafefjjaaW.PrintWords Go.Proofs.YtkaoojcafefjjaaW.PrintLast Go.Proofs.YtkaoojcafefjjaaW.PrintMore
attribute [local go_sem] max2_int min2_int max_two min_two max_three min_three max_four min_four   -- for this text's walks alone
set_option linter.unusedVariables false
set_option linter.unusedSimpArgs false
attribute [local go_sem] eqlErr neqErr eqlErrNil neqErrNil
open Go.Proofs.Ytkaoojcafefjjaa.Mw
end Go.Proofs.Ytkaoojcafefjjaa.Ms
