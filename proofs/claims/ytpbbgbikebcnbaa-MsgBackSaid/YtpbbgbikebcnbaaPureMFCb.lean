-- Cut by a program of this session (wip/shake.py) out of a text of this seat: what this claim doesn't reach is struck out. Lean checks it.
import Derived.Test.YtpbbgbikebcnbaaPureMDCb
import Derived.Test.YtpbbgbikebcnbaaPureMCCb
namespace Go.Proofs.Ytpbbgbikebcnbaa.MsgP
open Go.RowKit Go.Proofs.Ytpbbgbikebcnbaa.Ms Go.Proofs.Ytpbbgbikebcnbaa.Mw Go.Proofs.Ytpbbgbikebcnbaa.MsgL Go.Proofs.YtpbbgbikebcnbaaW.PrintWords Go.Proofs.YtpbbgbikebcnbaaW.PrintLast Go.Proofs.YtpbbgbikebcnbaaW.PrintMore
set_option linter.unusedVariables false
set_option linter.unusedSimpArgs false
end Go.Proofs.Ytpbbgbikebcnbaa.MsgP

namespace Go.Proofs.Ytpbbgbikebcnbaa.MsgP
open Go.RowKit Go.Proofs.Ytpbbgbikebcnbaa.Ms Go.Proofs.Ytpbbgbikebcnbaa.Mw Go.Proofs.Ytpbbgbikebcnbaa.MsgL Go.Proofs.YtpbbgbikebcnbaaW.PrintWords Go.Proofs.YtpbbgbikebcnbaaW.PrintLast Go.Proofs.YtpbbgbikebcnbaaW.PrintMore
set_option linter.unusedVariables false
set_option linter.unusedSimpArgs false
def Ag {α : Type} (x y : α × Nat × Bool) : Prop := x.2.2 = y.2.2 ∧ (x.2.2 = false → x = y)
theorem Ag.refl {α : Type} (x : α × Nat × Bool) : Ag x x := ⟨rfl, fun _ => rfl⟩
theorem Ag.or {α : Type} {x y : α × Nat × Bool} (h : Ag x y) : (x.2.2 = true ∧ y.2.2 = true) ∨ x = y := by
  cases hb : x.2.2 with
  | true => exact .inl ⟨rfl, by rw [← h.1, hb]⟩
  | false => exact .inr (h.2 hb)
end Go.Proofs.Ytpbbgbikebcnbaa.MsgP
