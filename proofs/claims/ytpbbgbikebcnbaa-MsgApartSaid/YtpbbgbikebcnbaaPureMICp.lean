-- Cut by a program of this session (wip/shake.py) out of a text of this seat: what this claim doesn't reach is struck out. Lean checks it.
import Derived.Test.YtpbbgbikebcnbaaPureMFCp
import Derived.Test.YtpbbgbikebcnbaaPureMGCp
namespace Go.Proofs.Ytpbbgbikebcnbaa.MsgP
open Go.RowKit Go.Proofs.Ytpbbgbikebcnbaa.Ms Go.Proofs.Ytpbbgbikebcnbaa.Mw Go.Proofs.Ytpbbgbikebcnbaa.MsgL Go.Proofs.YtpbbgbikebcnbaaW.PrintWords Go.Proofs.YtpbbgbikebcnbaaW.PrintLast Go.Proofs.YtpbbgbikebcnbaaW.PrintMore
set_option linter.unusedVariables false
set_option linter.unusedSimpArgs false
theorem LOk.nil : LOk [] := ⟨fun x hx => (by cases hx), by decide⟩
theorem may_up : mayM 3 2 1 3 (⟨#[97]⟩ : ByteArray) [] [] = true := by decide
theorem up_f (K : Nat) (hK : BigK K) (k : Nat) (hk : K + 2010 ≤ k) : becketlaw12_up.f k = some true := by
  unfold becketlaw12_up.f
  rw [put_any 3 2 1 3 (⟨#[97]⟩ : ByteArray) [] [] k (by omega), if_pos may_up, Option.bind_some, get_f LOk.nil K hK k hk, Option.bind_some]
  have e : msgE 3 2 1 3 (⟨#[97]⟩ : ByteArray) [] [] = [3, 2, 1, 3, 1, 97, 0, 0] := by
    unfold msgE proofsE txt
    rw [show (3 : Int).toNat = 3 from rfl, show (2 : Int).toNat = 2 from rfl, show (1 : Int).toNat = 1 from rfl, show (⟨#[97]⟩ : ByteArray).size = 1 from rfl, show ([] : List S95).length = 0 from rfl, show ([] : List S61).length = 0 from rfl, enc_small (by decide : 3 < 128), enc_small (by decide : 2 < 128), enc_small (by decide : 1 < 128), enc_small (by decide : 0 < 128)]
    rfl
  rw [if_pos ⟨e, rfl, rfl⟩]
theorem KB_ok : BigK 1010010 := by unfold BigK; decide
theorem same_f (a b c d : Int) (s : ByteArray) (ps : List S95) (cs : List S61) (a' b' c' d' : Int) (s' : ByteArray) (ps' : List S95) (cs' : List S61) : becketref12_Same.f a b c d s ps cs a' b' c' d' s' ps' cs' = some (sameM a b c d s ps cs a' b' c' d' s' ps' cs') := rfl
theorem sameM_refl (a b c d : Int) (s : ByteArray) (ps : List S95) (cs : List S61) : sameM a b c d s ps cs a b c d s ps cs = true := by
  unfold sameM
  rw [(samePs_iff ps ps).2 rfl, (sameCs_iff cs cs).2 rfl]
  simp
theorem sameM_iff {a b c d : Int} {s : ByteArray} {ps : List S95} {cs : List S61} {a' b' c' d' : Int} {s' : ByteArray} {ps' : List S95} {cs' : List S61} : sameM a b c d s ps cs a' b' c' d' s' ps' cs' = true ↔ a = a' ∧ b = b' ∧ c = c' ∧ d = d' ∧ s = s' ∧ ps = ps' ∧ cs = cs' := by
  constructor
  · intro h
    unfold sameM at h
    simp only [Bool.and_eq_true, beq_iff_eq, samePs_iff, sameCs_iff] at h
    obtain ⟨h1, h2, h3, h4, h5, h6, h7⟩ := h
    exact ⟨h1, h2, h3, h4, str_eq h5, h6, h7⟩
  · rintro ⟨rfl, rfl, rfl, rfl, rfl, rfl, rfl⟩
    exact sameM_refl _ _ _ _ _ _ _
def KZ : Nat := 1010010 + 2010 + 30000
theorem KZ_big : 1010010 + 2010 ≤ KZ := by unfold KZ; decide
theorem KZ_mid : 30000 ≤ KZ := by unfold KZ; decide
theorem KZ_small : 1500 ≤ KZ := by unfold KZ; decide
theorem ok_append {a b : List Int} (ha : bytesOk a) (hb : bytesOk b) : bytesOk (a ++ b) := fun x hx => (List.mem_append.1 hx).elim (ha x) (hb x)
theorem ok_enc {n : Nat} (h : n ≤ 1000000) : bytesOk (enc n) := enc_bytes 9 n (Nat.lt_of_le_of_lt h (by decide))
theorem ok_bytesOf (s : ByteArray) : bytesOk (bytesOf s) := fun y hy => by
  unfold bytesOf at hy
  obtain ⟨z, _, rfl⟩ := List.mem_map.1 hy
  exact ⟨by omega, by have := z.toNat_lt; omega⟩
theorem ok_txt {s : ByteArray} (h : s.size ≤ 1000000) : bytesOk (txt s) := ok_append (ok_enc h) (ok_bytesOf s)
theorem ok_flat {α : Type} (f : α → List Int) : ∀ l : List α, (∀ x ∈ l, bytesOk (f x)) → bytesOk (l.flatMap f)
  | [], _ => fun x hx => by simp at hx
  | x :: r, h => by
    rw [List.flatMap_cons]
    exact ok_append (h x (by simp)) (ok_flat f r (fun y hy => h y (by simp [hy])))
theorem ok_sm {n : Int} (h : sm n) : bytesOk (enc n.toNat) := ok_enc (by have := h.2; omega)
theorem ok_proofE {p : S95} (h : okP p) : bytesOk (proofE p) := by
  obtain ⟨h1, h2, h3, h4, h5⟩ := h
  unfold proofE
  exact ok_append (ok_append (ok_append (ok_append (ok_sm h1) (ok_sm h2)) (ok_txt (by omega))) (ok_enc (by omega))) (ok_flat _ _ (fun x hx => ok_sm (h5 x hx)))
theorem ok_proofsE {l : List S95} (hl : l.length ≤ 200) (h : ∀ p ∈ l, okP p) : bytesOk (proofsE l) := ok_append (ok_enc (by omega)) (ok_flat _ _ (fun x hx => ok_proofE (h x hx)))
theorem ok_msgE {a b c d : Int} {s : ByteArray} {ps : List S95} {cs : List S61} (h : OkM a b c d s ps cs) : bytesOk (msgE a b c d s ps cs) ∧ (msgE a b c d s ps cs).length ≤ 90000000 := by
  obtain ⟨h1, h2, h3, h4, h5, h6, h7, h8, h9⟩ := h
  constructor
  · unfold msgE
    exact ok_append (ok_append (ok_append (ok_append (ok_append (ok_append (ok_sm h1) (ok_sm h2)) (ok_sm h3)) (ok_sm h4)) (ok_txt (by omega))) (ok_proofsE h6 h7)) (ok_append (ok_enc (by omega)) (ok_flat _ _ (fun x hx => ok_append (ok_append (ok_sm (h9 x hx).1) (ok_sm (h9 x hx).2.1)) (ok_proofsE (h9 x hx).2.2.1 (h9 x hx).2.2.2))))
  · have e1 := enc10 (n := a.toNat) (by have := h1.2; omega)
    have e2 := enc10 (n := b.toNat) (by have := h2.2; omega)
    have e3 := enc10 (n := c.toNat) (by have := h3.2; omega)
    have e4 := enc10 (n := d.toNat) (by have := h4.2; omega)
    have e5 := txt_len h5
    have e6 := proofsE_len h6 h7
    have e7 := enc10 (n := cs.length) (by omega)
    have e8 := flat_len changeE 1220030 cs (fun x hx => changeE_len (h9 x hx))
    have e9 : 1220030 * cs.length ≤ 1220030 * 50 := Nat.mul_le_mul_left _ h8
    unfold msgE
    simp only [List.length_append]
    omega
theorem get_msgE {a b c d : Int} {s : ByteArray} {ps : List S95} {cs : List S61} (hm : mayM a b c d s ps cs = true) (h : LOk (msgE a b c d s ps cs)) : getM (tp _ h) = (a, b, c, d, s, ps, cs, none) := by
  obtain ⟨z, e, hz⟩ := msg_fwd h (post := []) (may_ok1 hm) (by rw [List.append_nil])
  unfold getM
  rw [e]
  have hlen : (msgE a b c d s ps cs).length ≤ z := by
    have := congrArg List.length hz.2
    rw [List.length_drop, List.length_nil] at this
    omega
  unfold getR okR
  simp only
  rw [decide_eq_true hlen, hm]
  rfl
theorem LOk_msgE {a b c d : Int} {s : ByteArray} {ps : List S95} {cs : List S61} (hm : mayM a b c d s ps cs = true) : LOk (msgE a b c d s ps cs) := ⟨(ok_msgE (may_ok hm)).1, by have := (ok_msgE (may_ok hm)).2; omega⟩
theorem msgE_inj {a b c d : Int} {s : ByteArray} {ps : List S95} {cs : List S61} {a' b' c' d' : Int} {s' : ByteArray} {ps' : List S95} {cs' : List S61} (hm : mayM a b c d s ps cs = true) (hm' : mayM a' b' c' d' s' ps' cs' = true) (h : msgE a b c d s ps cs = msgE a' b' c' d' s' ps' cs') :
    a = a' ∧ b = b' ∧ c = c' ∧ d = d' ∧ s = s' ∧ ps = ps' ∧ cs = cs' := by
  have h1 := get_msgE hm (LOk_msgE hm)
  have h2 := get_msgE hm' (LOk_msgE hm')
  have h3 : ∀ (l m : List Int) (hl : LOk l) (hm : LOk m), l = m → getM (tp l hl) = getM (tp m hm) := by
    intro l m hl hm e
    subst e
    rfl
  rw [h3 _ _ (LOk_msgE hm) (LOk_msgE hm') h, h2] at h1
  simp only [Prod.mk.injEq, and_true] at h1
  obtain ⟨rfl, rfl, rfl, rfl, rfl, rfl, rfl⟩ := h1
  exact ⟨rfl, rfl, rfl, rfl, rfl, rfl, rfl⟩
theorem MsgApart (a b c d : Int) (s : ByteArray) (ps : List S95) (cs : List S61) (a' b' c' d' : Int) (s' : ByteArray) (ps' : List S95) (cs' : List S61) : becketlaw12_MsgApart.f (KZ + 1) a b c d s ps cs a' b' c' d' s' ps' cs' = some true := by
  have hz := KZ_small
  have hm := KZ_mid
  have hbig := KZ_big
  generalize hK : KZ = k at hz hm hbig
  have hu : becketlaw12_up.f (k + 1) = some true := up_f 1010010 KB_ok (k + 1) (by omega)
  have hj : ∀ x, (x = true → shortM s ps cs = true) → becketlaw12_MsgApart.j0 (k + 1) true x a b c d s ps cs a' b' c' d' s' ps' cs' = some true := by
    intro x hx
    rw [becketlaw12_MsgApart.j0]
    cases x with
    | false => rfl
    | true =>
      have hsh := hx rfl
      unfold shortM at hsh
      simp only [Bool.and_eq_true, decide_eq_true_eq] at hsh
      rw [if_pos rfl, put_any a b c d s ps cs k (by omega), Option.bind_some, put_any a' b' c' d' s' ps' cs' k (by omega), Option.bind_some]
      by_cases h1 : mayM a b c d s ps cs = true
      · by_cases h2 : mayM a' b' c' d' s' ps' cs' = true
        · rw [if_pos h1, if_pos h2]
          simp only
          rw [if_pos (show (none : Option Int).isNone = true from rfl), if_pos (show (none : Option Int).isNone = true from rfl), if_pos trivial, same_f, Option.bind_some]
          congr 1
          rw [beq_iff_eq, Bool.eq_iff_iff, beq_iff_eq, sameM_iff]
          constructor
          · intro h
            exact msgE_inj h1 h2 (str_inj (ok_msgE (may_ok h1)).1 (ok_msgE (may_ok h2)).1 h)
          · rintro ⟨rfl, rfl, rfl, rfl, rfl, rfl, rfl⟩
            rfl
        · rw [if_pos h1, if_neg h2]
          simp only
          rw [if_pos (show (none : Option Int).isNone = true from rfl), if_neg (show ¬ (some (1 : Int)).isNone = true from by decide)]
      · rw [if_neg h1]
        simp only
        rw [if_neg (show ¬ (some (1 : Int)).isNone = true from by decide)]
  unfold becketlaw12_MsgApart.f
  rw [hu, Option.bind_some, Short_f a b c d s ps cs _ (by omega), Option.bind_some, Short_f a' b' c' d' s' ps' cs' _ (by omega), Option.bind_some]
  cases hs : shortM s ps cs with
  | false => exact hj false (fun h => by cases h)
  | true => exact hj _ (fun _ => hs)
end Go.Proofs.Ytpbbgbikebcnbaa.MsgP
