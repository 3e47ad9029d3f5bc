-- Cut by a program of this session (wip/shake.py) out of a text of this seat: what this claim doesn't reach is struck out. Lean checks it.
import Derived.Test.YtjlbfbibamnigaaBsx0Bp
import Derived.Test.YtjlbfbibamnigaaBsx1Bp
import Derived.Test.YtjlbfbibamnigaaBsx2Bp
namespace Go.Proofs.Ytjlbfbibamnigaa.Bs
open Go.RowKit Go.Proofs.YtjlbfbibamnigaaW.PrintWords Go.Proofs.YtjlbfbibamnigaaW.PrintLast Go.Proofs.YtjlbfbibamnigaaW.PrintMore
attribute [local go_sem] max2_int min2_int max_two min_two max_three min_three max_four min_four   -- for this text's walks alone
set_option linter.unusedVariables false
set_option linter.unusedSimpArgs false
attribute [local go_sem] eqlErr neqErr eqlErrNil neqErrNil
end Go.Proofs.Ytjlbfbibamnigaa.Bs
