-- Cut by a program of this session (wip/shake.py) out of the print's words: what this claim doesn't reach is struck out. Lean checks it.
import Derived.SizedLaws
import Derived.ChangeSlices
namespace Go.Proofs.YtlcfcaokihoplaaDoorW.PrintWords
open Go.ChangeShapes Go.WideShapes
end Go.Proofs.YtlcfcaokihoplaaDoorW.PrintWords
