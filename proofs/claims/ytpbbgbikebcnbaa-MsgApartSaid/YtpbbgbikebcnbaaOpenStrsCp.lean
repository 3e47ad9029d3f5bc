-- Cut by a program of this session (wip/shake.py) out of a text of this seat: what this claim doesn't reach is struck out. Lean checks it.
import Derived.Test.YtpbbgbikebcnbaaOpenRows
import Derived.Test.YtpbbgbikebcnbaaProg
import Derived.Test.YtpbbgbikebcnbaaWMoreCp
namespace Go.Proofs.Ytpbbgbikebcnbaa.Opening
open Go.RowKit Go.Proofs.YtpbbgbikebcnbaaW.PrintWords
end Go.Proofs.Ytpbbgbikebcnbaa.Opening
