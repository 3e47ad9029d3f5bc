-- Cut by a program of this session (wip/shake.py) out of the print's words: what this claim doesn't reach is struck out. Lean checks it.
import Derived.Test.YtjlbfbibamnigaaWNBp
namespace Go.Proofs.YtjlbfbibamnigaaW.PrintWords
open Go.RowKit
namespace Kd
section
variable {α : Type} {d : Kd α} {W : World} {g n : Nat} {S ok : Nat → Prop} {A : Option Addr} {ad : Addr} {xs : List α}
end
end Kd
end Go.Proofs.YtjlbfbibamnigaaW.PrintWords
