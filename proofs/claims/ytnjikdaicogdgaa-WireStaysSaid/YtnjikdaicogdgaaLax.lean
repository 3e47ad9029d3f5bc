-- Out of the translation, by a program of this session (wip/myprint.py, over the kit's printer). Lean checks it.
import Derived.Test.YtnjikdaicogdgaaLax0
import Derived.Test.YtnjikdaicogdgaaLax1
import Derived.Test.YtnjikdaicogdgaaLax2
import Derived.Test.YtnjikdaicogdgaaLax3
import Derived.Test.YtnjikdaicogdgaaLax4
import Derived.Test.YtnjikdaicogdgaaLax5
namespace Go.Proofs.Ytnjikdaicogdgaa.La
open Go.RowKit Go.Proofs.YtnjikdaicogdgaaW.PrintWords Go.Proofs.YtnjikdaicogdgaaW.PrintLast Go.Proofs.YtnjikdaicogdgaaW.PrintMore
attribute [local go_sem] max2_int min2_int max_two min_two max_three min_three max_four min_four   -- for this text's walks alone
set_option linter.unusedVariables false
set_option linter.unusedSimpArgs false

attribute [local go_sem] eqlErr neqErr eqlErrNil neqErrNil
end Go.Proofs.Ytnjikdaicogdgaa.La
