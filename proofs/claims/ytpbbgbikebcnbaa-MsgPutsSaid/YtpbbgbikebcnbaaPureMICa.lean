-- Cut by a program of this session (wip/shake.py) out of a text of this seat: what this claim doesn't reach is struck out. Lean checks it.
import Derived.Test.YtpbbgbikebcnbaaPureMGCa
namespace Go.Proofs.Ytpbbgbikebcnbaa.MsgP
open Go.RowKit Go.Proofs.Ytpbbgbikebcnbaa.Ms Go.Proofs.Ytpbbgbikebcnbaa.Mw Go.Proofs.Ytpbbgbikebcnbaa.MsgL Go.Proofs.YtpbbgbikebcnbaaW.PrintWords Go.Proofs.YtpbbgbikebcnbaaW.PrintLast Go.Proofs.YtpbbgbikebcnbaaW.PrintMore
set_option linter.unusedVariables false
set_option linter.unusedSimpArgs false
theorem LOk.nil : LOk [] := ⟨fun x hx => (by cases hx), by decide⟩
theorem may_up : mayM 3 2 1 3 (⟨#[97]⟩ : ByteArray) [] [] = true := by decide
theorem up_f (K : Nat) (hK : BigK K) (k : Nat) (hk : K + 2010 ≤ k) : becketlaw12_up.f k = some true := by
  unfold becketlaw12_up.f
  rw [put_any 3 2 1 3 (⟨#[97]⟩ : ByteArray) [] [] k (by omega), if_pos may_up, Option.bind_some, get_f LOk.nil K hK k hk, Option.bind_some]
  have e : msgE 3 2 1 3 (⟨#[97]⟩ : ByteArray) [] [] = [3, 2, 1, 3, 1, 97, 0, 0] := by
    unfold msgE proofsE txt
    rw [show (3 : Int).toNat = 3 from rfl, show (2 : Int).toNat = 2 from rfl, show (1 : Int).toNat = 1 from rfl, show (⟨#[97]⟩ : ByteArray).size = 1 from rfl, show ([] : List S95).length = 0 from rfl, show ([] : List S61).length = 0 from rfl, enc_small (by decide : 3 < 128), enc_small (by decide : 2 < 128), enc_small (by decide : 1 < 128), enc_small (by decide : 0 < 128)]
    rfl
  rw [if_pos ⟨e, rfl, rfl⟩]
theorem KB_ok : BigK 1010010 := by unfold BigK; decide
def KZ : Nat := 1010010 + 2010 + 30000
theorem KZ_big : 1010010 + 2010 ≤ KZ := by unfold KZ; decide
theorem KZ_mid : 30000 ≤ KZ := by unfold KZ; decide
theorem KZ_small : 1500 ≤ KZ := by unfold KZ; decide
theorem upZ : becketlaw12_up.f KZ = some true := up_f 1010010 KB_ok KZ KZ_big
theorem MsgPuts (a b c d : Int) (s : ByteArray) (ps : List S95) (cs : List S61) : becketlaw12_MsgPuts.f KZ a b c d s ps cs = some true := by
  have hz := KZ_small
  have hm := KZ_mid
  generalize hK : KZ = k at hz hm
  have hu : becketlaw12_up.f k = some true := by rw [← hK]; exact upZ
  unfold becketlaw12_MsgPuts.f
  rw [hu, Option.bind_some, Short_f a b c d s ps cs k (by omega), Option.bind_some]
  cases shortM s ps cs with
  | false => rfl
  | true =>
    rw [if_pos rfl, check_f k (by omega), Option.bind_some, put_any a b c d s ps cs k (by omega), Option.bind_some, refmay_f k hz, Option.bind_some]
    by_cases hmay : mayM a b c d s ps cs = true
    · rw [if_pos hmay, if_pos hmay, if_pos hmay, if_pos rfl, if_pos (show (none : Option Int).isNone = true from rfl), if_pos (show (none : Option Int).isNone = true from rfl), refPut_f (may_ok hmay) k (Nat.le_trans (by decide) hm), Option.bind_some]
      simp
    · rw [if_neg hmay, if_neg hmay, if_neg hmay, if_pos rfl]
      rfl
end Go.Proofs.Ytpbbgbikebcnbaa.MsgP
