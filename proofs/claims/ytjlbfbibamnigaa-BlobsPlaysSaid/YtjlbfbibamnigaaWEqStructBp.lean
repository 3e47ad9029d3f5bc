-- Cut by a program of this session (wip/shake.py) out of the print's words: what this claim doesn't reach is struck out. Lean checks it.
import Derived.Test.YtjlbfbibamnigaaWWordsBp
import Derived.Laws.StructEq
namespace Go.Proofs.YtjlbfbibamnigaaW.PrintWords
open Go.RowKit
section
variable {P : Program} {d : Nat} {xs ys : Array Value} {f : Field} {fs : List Field} {a b : Value} {r s : Bool} {w : World}
end
end Go.Proofs.YtjlbfbibamnigaaW.PrintWords
