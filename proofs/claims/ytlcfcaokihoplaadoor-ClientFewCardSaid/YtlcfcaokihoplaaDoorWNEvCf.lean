-- Cut by a program of this session (wip/shake.py) out of the print's words: what this claim doesn't reach is struck out. Lean checks it.
import Derived.Test.YtlcfcaokihoplaaDoorWTabCf
import Derived.Test.YtlcfcaokihoplaaDoorWEqStructCf
import Derived.Test.YtlcfcaokihoplaaDoorWWordsCf
namespace Go.Proofs.YtlcfcaokihoplaaDoorW.PrintLast
section
variable {P : Program} {ops : Array Oper} {Q : Exit → Act → World → Prop} {md : Region.Mode} {T : Bool × List (List Nat × List Nat)} {B : List Nat} {O : List Nat} {b : Nat → Bool} {i j n : Nat}
end
end Go.Proofs.YtlcfcaokihoplaaDoorW.PrintLast

namespace Go.Proofs.YtlcfcaokihoplaaDoorW.PrintWords
open Go.RowKit
end Go.Proofs.YtlcfcaokihoplaaDoorW.PrintWords
namespace Go.Proofs.YtlcfcaokihoplaaDoorW.PrintLast
section
variable {ops : Array Oper} {a : Act} {o og : Oper} {g : Nat} {t : Tmp} {u : Bool}
end
end Go.Proofs.YtlcfcaokihoplaaDoorW.PrintLast

namespace Go.Proofs.YtlcfcaokihoplaaDoorW.PrintWords
open Go.RowKit
section
variable {P : Program} {ops : Array Oper} {rest : List Oper} {o : Oper} {a : Act} {Q : Exit → Act → World → Prop} {W : World}
theorem gate_guard (hw : Region.wanted o (yielded ops a.tmps) = true) (h : wpList P ops Q ({ o with guard := none } :: rest) a W) : wpList P ops Q (o :: rest) a W := by
  have h1 : Region.wanted { o with guard := none } (yielded ops a.tmps) = true := rfl
  unfold wpList at h ⊢
  rw [if_pos h1] at h
  rw [if_pos hw]
  exact h
end
end Go.Proofs.YtlcfcaokihoplaaDoorW.PrintWords

namespace Go.Proofs.YtlcfcaokihoplaaDoorW.PrintWords
open Go.RowKit
namespace Kd
section
variable {α : Type} {d : Kd α} {e base n cap g : Nat} {ok ok' okp : Nat → Prop} {w w1 W : World} {v v1 : Value} {xs ys : List α}
end
section
variable {P : Program} {ops : Array Oper} {rest : List Oper} {o : Oper} {a : Act} {Q : Exit → Act → World → Prop} {Kc : Act → World → Prop} {α : Type}
end
end Kd
end Go.Proofs.YtlcfcaokihoplaaDoorW.PrintWords
