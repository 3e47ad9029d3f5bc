-- Cut by a program of this session (wip/shake.py) out of a text of this seat: what this claim doesn't reach is struck out. Lean checks it.
import Derived.Test.YtpbbgbikebcnbaaPureMFCb
import Derived.Test.YtpbbgbikebcnbaaPureMGCb
namespace Go.Proofs.Ytpbbgbikebcnbaa.MsgP
open Go.RowKit Go.Proofs.Ytpbbgbikebcnbaa.Ms Go.Proofs.Ytpbbgbikebcnbaa.Mw Go.Proofs.Ytpbbgbikebcnbaa.MsgL Go.Proofs.YtpbbgbikebcnbaaW.PrintWords Go.Proofs.YtpbbgbikebcnbaaW.PrintLast Go.Proofs.YtpbbgbikebcnbaaW.PrintMore
set_option linter.unusedVariables false
set_option linter.unusedSimpArgs false
theorem LOk.nil : LOk [] := ⟨fun x hx => (by cases hx), by decide⟩
theorem may_up : mayM 3 2 1 3 (⟨#[97]⟩ : ByteArray) [] [] = true := by decide
theorem up_f (K : Nat) (hK : BigK K) (k : Nat) (hk : K + 2010 ≤ k) : becketlaw12_up.f k = some true := by
  unfold becketlaw12_up.f
  rw [put_any 3 2 1 3 (⟨#[97]⟩ : ByteArray) [] [] k (by omega), if_pos may_up, Option.bind_some, get_f LOk.nil K hK k hk, Option.bind_some]
  have e : msgE 3 2 1 3 (⟨#[97]⟩ : ByteArray) [] [] = [3, 2, 1, 3, 1, 97, 0, 0] := by
    unfold msgE proofsE txt
    rw [show (3 : Int).toNat = 3 from rfl, show (2 : Int).toNat = 2 from rfl, show (1 : Int).toNat = 1 from rfl, show (⟨#[97]⟩ : ByteArray).size = 1 from rfl, show ([] : List S95).length = 0 from rfl, show ([] : List S61).length = 0 from rfl, enc_small (by decide : 3 < 128), enc_small (by decide : 2 < 128), enc_small (by decide : 1 < 128), enc_small (by decide : 0 < 128)]
    rfl
  rw [if_pos ⟨e, rfl, rfl⟩]
theorem KB_ok : BigK 1010010 := by unfold BigK; decide
theorem sameM_refl (a b c d : Int) (s : ByteArray) (ps : List S95) (cs : List S61) : sameM a b c d s ps cs a b c d s ps cs = true := by
  unfold sameM
  rw [(samePs_iff ps ps).2 rfl, (sameCs_iff cs cs).2 rfl]
  simp
def KZ : Nat := 1010010 + 2010 + 30000
theorem KZ_big : 1010010 + 2010 ≤ KZ := by unfold KZ; decide
theorem upZ : becketlaw12_up.f KZ = some true := up_f 1010010 KB_ok KZ KZ_big
theorem ok_append {a b : List Int} (ha : bytesOk a) (hb : bytesOk b) : bytesOk (a ++ b) := fun x hx => (List.mem_append.1 hx).elim (ha x) (hb x)
theorem ok_enc {n : Nat} (h : n ≤ 1000000) : bytesOk (enc n) := enc_bytes 9 n (Nat.lt_of_le_of_lt h (by decide))
theorem ok_bytesOf (s : ByteArray) : bytesOk (bytesOf s) := fun y hy => by
  unfold bytesOf at hy
  obtain ⟨z, _, rfl⟩ := List.mem_map.1 hy
  exact ⟨by omega, by have := z.toNat_lt; omega⟩
theorem ok_txt {s : ByteArray} (h : s.size ≤ 1000000) : bytesOk (txt s) := ok_append (ok_enc h) (ok_bytesOf s)
theorem ok_flat {α : Type} (f : α → List Int) : ∀ l : List α, (∀ x ∈ l, bytesOk (f x)) → bytesOk (l.flatMap f)
  | [], _ => fun x hx => by simp at hx
  | x :: r, h => by
    rw [List.flatMap_cons]
    exact ok_append (h x (by simp)) (ok_flat f r (fun y hy => h y (by simp [hy])))
theorem ok_sm {n : Int} (h : sm n) : bytesOk (enc n.toNat) := ok_enc (by have := h.2; omega)
theorem ok_proofE {p : S95} (h : okP p) : bytesOk (proofE p) := by
  obtain ⟨h1, h2, h3, h4, h5⟩ := h
  unfold proofE
  exact ok_append (ok_append (ok_append (ok_append (ok_sm h1) (ok_sm h2)) (ok_txt (by omega))) (ok_enc (by omega))) (ok_flat _ _ (fun x hx => ok_sm (h5 x hx)))
theorem ok_proofsE {l : List S95} (hl : l.length ≤ 200) (h : ∀ p ∈ l, okP p) : bytesOk (proofsE l) := ok_append (ok_enc (by omega)) (ok_flat _ _ (fun x hx => ok_proofE (h x hx)))
theorem ok_msgE {a b c d : Int} {s : ByteArray} {ps : List S95} {cs : List S61} (h : OkM a b c d s ps cs) : bytesOk (msgE a b c d s ps cs) ∧ (msgE a b c d s ps cs).length ≤ 90000000 := by
  obtain ⟨h1, h2, h3, h4, h5, h6, h7, h8, h9⟩ := h
  constructor
  · unfold msgE
    exact ok_append (ok_append (ok_append (ok_append (ok_append (ok_append (ok_sm h1) (ok_sm h2)) (ok_sm h3)) (ok_sm h4)) (ok_txt (by omega))) (ok_proofsE h6 h7)) (ok_append (ok_enc (by omega)) (ok_flat _ _ (fun x hx => ok_append (ok_append (ok_sm (h9 x hx).1) (ok_sm (h9 x hx).2.1)) (ok_proofsE (h9 x hx).2.2.1 (h9 x hx).2.2.2))))
  · have e1 := enc10 (n := a.toNat) (by have := h1.2; omega)
    have e2 := enc10 (n := b.toNat) (by have := h2.2; omega)
    have e3 := enc10 (n := c.toNat) (by have := h3.2; omega)
    have e4 := enc10 (n := d.toNat) (by have := h4.2; omega)
    have e5 := txt_len h5
    have e6 := proofsE_len h6 h7
    have e7 := enc10 (n := cs.length) (by omega)
    have e8 := flat_len changeE 1220030 cs (fun x hx => changeE_len (h9 x hx))
    have e9 : 1220030 * cs.length ≤ 1220030 * 50 := Nat.mul_le_mul_left _ h8
    unfold msgE
    simp only [List.length_append]
    omega
theorem get_msgE {a b c d : Int} {s : ByteArray} {ps : List S95} {cs : List S61} (hm : mayM a b c d s ps cs = true) (h : LOk (msgE a b c d s ps cs)) : getM (tp _ h) = (a, b, c, d, s, ps, cs, none) := by
  obtain ⟨z, e, hz⟩ := msg_fwd h (post := []) (may_ok1 hm) (by rw [List.append_nil])
  unfold getM
  rw [e]
  have hlen : (msgE a b c d s ps cs).length ≤ z := by
    have := congrArg List.length hz.2
    rw [List.length_drop, List.length_nil] at this
    omega
  unfold getR okR
  simp only
  rw [decide_eq_true hlen, hm]
  rfl
theorem LOk_msgE {a b c d : Int} {s : ByteArray} {ps : List S95} {cs : List S61} (hm : mayM a b c d s ps cs = true) : LOk (msgE a b c d s ps cs) := ⟨(ok_msgE (may_ok hm)).1, by have := (ok_msgE (may_ok hm)).2; omega⟩
end Go.Proofs.Ytpbbgbikebcnbaa.MsgP
