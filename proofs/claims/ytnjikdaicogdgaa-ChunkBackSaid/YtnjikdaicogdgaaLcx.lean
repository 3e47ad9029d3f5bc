-- Out of the translation, by a program of this session (wip/myprint.py, over the kit's printer). Lean checks it.
import Derived.Test.YtnjikdaicogdgaaLcx0
import Derived.Test.YtnjikdaicogdgaaLcx1
import Derived.Test.YtnjikdaicogdgaaLcx2
import Derived.Test.YtnjikdaicogdgaaLcx3
import Derived.Test.YtnjikdaicogdgaaLcx4
import Derived.Test.YtnjikdaicogdgaaLcx5
import Derived.Test.YtnjikdaicogdgaaLcx6
namespace Go.Proofs.Ytnjikdaicogdgaa.Lc
open Go.RowKit Go.Proofs.YtnjikdaicogdgaaW.PrintWords Go.Proofs.YtnjikdaicogdgaaW.PrintLast Go.Proofs.YtnjikdaicogdgaaW.PrintMore
attribute [local go_sem] max2_int min2_int max_two min_two max_three min_three max_four min_four   -- for this text's walks alone
set_option linter.unusedVariables false
set_option linter.unusedSimpArgs false

attribute [local go_sem] eqlErr neqErr eqlErrNil neqErrNil
end Go.Proofs.Ytnjikdaicogdgaa.Lc
