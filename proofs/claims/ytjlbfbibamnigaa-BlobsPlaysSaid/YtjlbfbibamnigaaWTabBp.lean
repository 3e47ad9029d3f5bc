-- Cut by a program of this session (wip/shake.py) out of the print's words: what this claim doesn't reach is struck out. Lean checks it.
import Derived.Test.YtjlbfbibamnigaaWLastBp
import Derived.Test.YtjlbfbibamnigaaWWordsBp
namespace Go.Proofs.YtjlbfbibamnigaaW.PrintLast
open Go.Proofs.YtjlbfbibamnigaaW.PrintWords (Aside0)
section
variable {md : Region.Mode} {ops : Array Oper} {T : Bool × List (List Nat × List Nat)} {l l' li lj lk : Array Bool} {ds : List Nat} {i j k : Nat}
end
end Go.Proofs.YtjlbfbibamnigaaW.PrintLast
