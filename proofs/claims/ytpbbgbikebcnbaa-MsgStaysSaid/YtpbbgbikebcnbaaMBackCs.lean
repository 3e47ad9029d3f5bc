-- Cut by a program of this session (wip/shake.py) out of a text of this seat: what this claim doesn't reach is struck out. Lean checks it.
import Derived.Test.YtpbbgbikebcnbaaPureMICs
import Derived.Lib.Hide
import Derived.BigRegion
namespace Go.Proofs.Ytpbbgbikebcnbaa.MsgP
open Go.RowKit Go.Proofs.Ytpbbgbikebcnbaa.Ms Go.Proofs.Ytpbbgbikebcnbaa.Mw Go.Proofs.Ytpbbgbikebcnbaa.MsgL Go.Proofs.YtpbbgbikebcnbaaW.PrintWords Go.Proofs.YtpbbgbikebcnbaaW.PrintLast Go.Proofs.YtpbbgbikebcnbaaW.PrintMore
set_option linter.unusedVariables false
set_option linter.unusedSimpArgs false
end Go.Proofs.Ytpbbgbikebcnbaa.MsgP

namespace Go.Proofs.Ytpbbgbikebcnbaa.MsgP
open Go.RowKit Go.Proofs.Ytpbbgbikebcnbaa.Ms Go.Proofs.Ytpbbgbikebcnbaa.MsgL Go.Proofs.YtpbbgbikebcnbaaW.PrintWords Go.Proofs.YtpbbgbikebcnbaaW.PrintLast Go.Proofs.YtpbbgbikebcnbaaW.PrintMore
attribute [local go_sem] Go.Proofs.Ytpbbgbikebcnbaa.Ms.eqlErr Go.Proofs.Ytpbbgbikebcnbaa.Ms.neqErr Go.Proofs.Ytpbbgbikebcnbaa.Ms.eqlErrNil Go.Proofs.Ytpbbgbikebcnbaa.Ms.neqErrNil
set_option linter.unusedVariables false
set_option linter.unusedSimpArgs false
theorem nil_R (W : World) : Kd.R (Kd.int .u8) 5 (W.alloc (.cells #[] 5)) W.heap.size (fun k => k = W.heap.size) (.slice (some ⟨W.heap.size, 0, none⟩) 0 0) [] := by
  refine ⟨fun k hk => ?_, [], ?_, Reps.none _ _⟩
  · have : W.heap.size = k := by simpa [Value.ownBlock] using hk
    exact this.symm
  · exact World.ownsRow_lit (base := W.heap.size) (e := 5) (size := 1) W #[] 0 (Nat.le_refl _) (by simp [maxLen]) (by simp)
structure KOk (k : Nat) : Prop where
  up : becketlaw12_up.f k = some true
  big : 1010010 + 2010 ≤ k
theorem KOk.at : ∃ k, KOk k := ⟨KZ, upZ, KZ_big⟩
theorem KOk.get {k : Nat} (hk : KOk k) {l : List Int} (h : LOk l) : msg_Get.f k l = some (getM (tp l h)) := get_f h _ KB_ok k hk.big
theorem KOk.put {k : Nat} (hk : KOk k) (a b c d : Int) (s : ByteArray) (ps : List S95) (cs : List S61) : msg_Put.f k a b c d s ps cs = some (if mayM a b c d s ps cs = true then (msgE a b c d s ps cs, none) else ([], some 1)) := put_any a b c d s ps cs k (Nat.le_trans (by decide) hk.big)
theorem KOk.short {k : Nat} (hk : KOk k) (a b c d : Int) (s : ByteArray) (ps : List S95) (cs : List S61) : becketref12_Short.f k a b c d s ps cs = some (shortM s ps cs) := Short_f a b c d s ps cs k (Nat.le_trans (by decide) hk.big)
end Go.Proofs.Ytpbbgbikebcnbaa.MsgP
