-- Cut by a program of this session (wip/shake.py) out of a text of this seat: what this claim doesn't reach is struck out. Lean checks it.
import Derived.Test.YtpbbgbikebcnbaaPureMFCp
import Derived.Test.YtpbbgbikebcnbaaPureMGCp
namespace Go.Proofs.Ytpbbgbikebcnbaa.MsgP
open Go.RowKit Go.Proofs.Ytpbbgbikebcnbaa.Ms Go.Proofs.Ytpbbgbikebcnbaa.Mw Go.Proofs.Ytpbbgbikebcnbaa.MsgL Go.Proofs.YtpbbgbikebcnbaaW.PrintWords Go.Proofs.YtpbbgbikebcnbaaW.PrintLast Go.Proofs.YtpbbgbikebcnbaaW.PrintMore
set_option linter.unusedVariables false
set_option linter.unusedSimpArgs false
theorem LOk.nil : LOk [] := ⟨fun x hx => (by cases hx), by decide⟩
theorem may_up : mayM 3 2 1 3 (⟨#[97]⟩ : ByteArray) [] [] = true := by decide
theorem up_f (K : Nat) (hK : BigK K) (k : Nat) (hk : K + 2010 ≤ k) : becketlaw12_up.f k = some true := by
  unfold becketlaw12_up.f
  rw [put_any 3 2 1 3 (⟨#[97]⟩ : ByteArray) [] [] k (by omega), if_pos may_up, Option.bind_some, get_f LOk.nil K hK k hk, Option.bind_some]
  have e : msgE 3 2 1 3 (⟨#[97]⟩ : ByteArray) [] [] = [3, 2, 1, 3, 1, 97, 0, 0] := by
    unfold msgE proofsE txt
    rw [show (3 : Int).toNat = 3 from rfl, show (2 : Int).toNat = 2 from rfl, show (1 : Int).toNat = 1 from rfl, show (⟨#[97]⟩ : ByteArray).size = 1 from rfl, show ([] : List S95).length = 0 from rfl, show ([] : List S61).length = 0 from rfl, enc_small (by decide : 3 < 128), enc_small (by decide : 2 < 128), enc_small (by decide : 1 < 128), enc_small (by decide : 0 < 128)]
    rfl
  rw [if_pos ⟨e, rfl, rfl⟩]
theorem KB_ok : BigK 1010010 := by unfold BigK; decide
def sameC (x y : S61) : Bool := (x.f0 == y.f0) && ((x.f1 == y.f1) && samePs x.f2 y.f2)
def sameCs : List S61 → List S61 → Bool
  | [], [] => true
  | x :: xs, y :: ys => sameC x y && sameCs xs ys
  | [], _ :: _ => false
  | _ :: _, [] => false
theorem sameC_iff (x y : S61) : sameC x y = true ↔ x = y := by
  obtain ⟨a, b, c⟩ := x
  obtain ⟨a', b', c'⟩ := y
  unfold sameC
  simp only [Bool.and_eq_true, beq_iff_eq, samePs_iff]
  constructor
  · rintro ⟨rfl, rfl, rfl⟩; rfl
  · intro h
    injection h with h1 h2 h3
    exact ⟨h1, h2, h3⟩
theorem sameCs_iff : ∀ l m, sameCs l m = true ↔ l = m
  | [], [] => by simp [sameCs]
  | x :: xs, y :: ys => by simp [sameCs, sameC_iff, sameCs_iff xs ys]
  | [], _ :: _ => by simp [sameCs]
  | _ :: _, [] => by simp [sameCs]
theorem same_l0 (a b c d : Int) (s : ByteArray) (ps : List S95) (cs : List S61) (a' b' c' d' : Int) (s' : ByteArray) (ps' : List S95) (cs' : List S61) (hl : cs.length = cs'.length) (hb : cs.length ≤ 1000000) : ∀ (q k i : Nat), q = cs.length - i → i ≤ cs.length → q + 1 ≤ k →
    becketref12_Same.l0 k i a b c d s ps cs a' b' c' d' s' ps' cs' = some (sameCs (cs.drop i) (cs'.drop i))
  | 0, k, i, hq, hi, hk => by
    obtain ⟨k, rfl⟩ : ∃ k', k = k' + 1 := ⟨k - 1, by omega⟩
    have : i = cs.length := by omega
    subst this
    rw [becketref12_Same.l0, if_neg (by omega), List.drop_length, hl, List.drop_length]
    rfl
  | q + 1, k, i, hq, hi, hk => by
    obtain ⟨k, rfl⟩ : ∃ k', k = k' + 1 := ⟨k - 1, by omega⟩
    have hlt : i < cs.length := by omega
    have hlt' : i < cs'.length := by omega
    have hd : cs.drop i = cs[i] :: cs.drop (i + 1) := List.drop_eq_getElem_cons hlt
    have hd' : cs'.drop i = cs'[i] :: cs'.drop (i + 1) := List.drop_eq_getElem_cons hlt'
    have ih := same_l0 a b c d s ps cs a' b' c' d' s' ps' cs' hl hb q k (i + 1) (by omega) (by omega) (by omega)
    rw [becketref12_Same.l0, if_pos (by omega), if_pos (by omega), if_pos (by omega), rdC_get cs i hlt, rdC_get cs' i hlt', wz' (z := (i : Int) + 1) (y := ((i + 1 : Nat) : Int)) (by omega) (by omega) (by omega), ih, hd, hd']
    unfold becketref12_SameProofs.f
    rw [Option.bind_some]
    show _ = some (sameC cs[i] cs'[i] && sameCs (cs.drop (i + 1)) (cs'.drop (i + 1)))
    unfold sameC
    by_cases h1 : (cs[i]).f0 = (cs'[i]).f0
    · rw [if_pos h1, beq_iff_eq.2 h1]
      by_cases h2 : (cs[i]).f1 = (cs'[i]).f1
      · rw [if_pos h2, beq_iff_eq.2 h2]
        cases samePs (cs[i]).f2 (cs'[i]).f2 with
        | true => rfl
        | false => rfl
      · rw [if_neg h2, beq_eq_false_iff_ne.2 h2]; rfl
    · rw [if_neg h1, beq_eq_false_iff_ne.2 h1]; rfl
theorem same_j0 (k : Nat) (x : Bool) (a b c d : Int) (s : ByteArray) (ps : List S95) (cs : List S61) (a' b' c' d' : Int) (s' : ByteArray) (ps' : List S95) (cs' : List S61) (hx : x = false → cs.length = cs'.length) (hb : cs.length ≤ 1000000) (hk : cs.length + 1 ≤ k) :
    becketref12_Same.j0 (k + 1) x a b c d s ps cs a' b' c' d' s' ps' cs' = some (!x && sameCs cs cs') := by
  rw [becketref12_Same.j0]
  cases x with
  | true => rfl
  | false =>
    rw [if_neg (by decide)]
    exact same_l0 a b c d s ps cs a' b' c' d' s' ps' cs' (hx rfl) hb cs.length k 0 (by omega) (by omega) (by omega)
def sameM (a b c d : Int) (s : ByteArray) (ps : List S95) (cs : List S61) (a' b' c' d' : Int) (s' : ByteArray) (ps' : List S95) (cs' : List S61) : Bool :=
  decide (a = a') && (decide (b = b') && (decide (c = c') && (decide (d = d') && (decide (s.toList = s'.toList) && (samePs ps ps' && sameCs cs cs')))))
theorem same_f (k : Nat) (a b c d : Int) (s : ByteArray) (ps : List S95) (cs : List S61) (a' b' c' d' : Int) (s' : ByteArray) (ps' : List S95) (cs' : List S61) (hb : cs.length ≤ 1000000) (hk : cs.length + 2 ≤ k) :
    becketref12_Same.f k a b c d s ps cs a' b' c' d' s' ps' cs' = some (sameM a b c d s ps cs a' b' c' d' s' ps' cs') := by
  obtain ⟨k, rfl⟩ : ∃ k', k = k' + 1 := ⟨k - 1, by omega⟩
  have ht := same_j0 k true a b c d s ps cs a' b' c' d' s' ps' cs' (fun h => by cases h) hb (by omega)
  have hne : becketref12_Same.j0 (k + 1) ((cs.length : Int) != (cs'.length : Int)) a b c d s ps cs a' b' c' d' s' ps' cs' = some (sameCs cs cs') := by
    by_cases hl : cs.length = cs'.length
    · rw [show ((cs.length : Int) != (cs'.length : Int)) = false from by simp [hl], same_j0 k false a b c d s ps cs a' b' c' d' s' ps' cs' (fun _ => hl) hb (by omega)]; rfl
    · have hs : sameCs cs cs' = false := by
        rw [← Bool.not_eq_true, sameCs_iff]
        exact fun e => hl (by rw [e])
      rw [show ((cs.length : Int) != (cs'.length : Int)) = true from by rw [bne_iff_ne]; omega, ht, hs]; rfl
  unfold becketref12_Same.f sameM becketref12_SameProofs.f
  rw [hne, ht, Option.bind_some]
  by_cases h1 : a = a'
  · rw [if_pos h1, decide_eq_true h1]
    by_cases h2 : b = b'
    · rw [if_pos h2, decide_eq_true h2]
      by_cases h3 : c = c'
      · rw [if_pos h3, decide_eq_true h3]
        by_cases h4 : d = d'
        · rw [if_pos h4, decide_eq_true h4]
          by_cases h5 : s.toList = s'.toList
          · rw [if_pos h5, decide_eq_true h5]
            cases samePs ps ps' with
            | true => rfl
            | false => rfl
          · rw [if_neg h5, decide_eq_false h5]; rfl
        · rw [if_neg h4, decide_eq_false h4]; rfl
      · rw [if_neg h3, decide_eq_false h3]; rfl
    · rw [if_neg h2, decide_eq_false h2]; rfl
  · rw [if_neg h1, decide_eq_false h1]; rfl
theorem sameM_refl (a b c d : Int) (s : ByteArray) (ps : List S95) (cs : List S61) : sameM a b c d s ps cs a b c d s ps cs = true := by
  unfold sameM
  rw [(samePs_iff ps ps).2 rfl, (sameCs_iff cs cs).2 rfl]
  simp
theorem sameM_iff {a b c d : Int} {s : ByteArray} {ps : List S95} {cs : List S61} {a' b' c' d' : Int} {s' : ByteArray} {ps' : List S95} {cs' : List S61} : sameM a b c d s ps cs a' b' c' d' s' ps' cs' = true ↔ a = a' ∧ b = b' ∧ c = c' ∧ d = d' ∧ s = s' ∧ ps = ps' ∧ cs = cs' := by
  constructor
  · intro h
    unfold sameM at h
    simp only [Bool.and_eq_true, decide_eq_true_eq, samePs_iff, sameCs_iff] at h
    obtain ⟨h1, h2, h3, h4, h5, h6, h7⟩ := h
    exact ⟨h1, h2, h3, h4, str_eq h5, h6, h7⟩
  · rintro ⟨rfl, rfl, rfl, rfl, rfl, rfl, rfl⟩
    exact sameM_refl _ _ _ _ _ _ _
def KZ : Nat := 1010010 + 2010 + 30000
theorem KZ_big : 1010010 + 2010 ≤ KZ := by unfold KZ; decide
theorem KZ_mid : 30000 ≤ KZ := by unfold KZ; decide
theorem KZ_small : 1500 ≤ KZ := by unfold KZ; decide
theorem ok_append {a b : List Int} (ha : bytesOk a) (hb : bytesOk b) : bytesOk (a ++ b) := fun x hx => (List.mem_append.1 hx).elim (ha x) (hb x)
theorem ok_enc {n : Nat} (h : n ≤ 1000000) : bytesOk (enc n) := enc_bytes 9 n (Nat.lt_of_le_of_lt h (by decide))
theorem ok_bytesOf (s : ByteArray) : bytesOk (bytesOf s) := fun y hy => by
  unfold bytesOf at hy
  obtain ⟨z, _, rfl⟩ := List.mem_map.1 hy
  exact ⟨by omega, by have := z.toNat_lt; omega⟩
theorem ok_txt {s : ByteArray} (h : s.size ≤ 1000000) : bytesOk (txt s) := ok_append (ok_enc h) (ok_bytesOf s)
theorem ok_flat {α : Type} (f : α → List Int) : ∀ l : List α, (∀ x ∈ l, bytesOk (f x)) → bytesOk (l.flatMap f)
  | [], _ => fun x hx => by simp at hx
  | x :: r, h => by
    rw [List.flatMap_cons]
    exact ok_append (h x (by simp)) (ok_flat f r (fun y hy => h y (by simp [hy])))
theorem ok_sm {n : Int} (h : sm n) : bytesOk (enc n.toNat) := ok_enc (by have := h.2; omega)
theorem ok_proofE {p : S95} (h : okP p) : bytesOk (proofE p) := by
  obtain ⟨h1, h2, h3, h4, h5⟩ := h
  unfold proofE
  exact ok_append (ok_append (ok_append (ok_append (ok_sm h1) (ok_sm h2)) (ok_txt (by omega))) (ok_enc (by omega))) (ok_flat _ _ (fun x hx => ok_sm (h5 x hx)))
theorem ok_proofsE {l : List S95} (hl : l.length ≤ 200) (h : ∀ p ∈ l, okP p) : bytesOk (proofsE l) := ok_append (ok_enc (by omega)) (ok_flat _ _ (fun x hx => ok_proofE (h x hx)))
theorem ok_msgE {a b c d : Int} {s : ByteArray} {ps : List S95} {cs : List S61} (h : OkM a b c d s ps cs) : bytesOk (msgE a b c d s ps cs) ∧ (msgE a b c d s ps cs).length ≤ 90000000 := by
  obtain ⟨h1, h2, h3, h4, h5, h6, h7, h8, h9⟩ := h
  constructor
  · unfold msgE
    exact ok_append (ok_append (ok_append (ok_append (ok_append (ok_append (ok_sm h1) (ok_sm h2)) (ok_sm h3)) (ok_sm h4)) (ok_txt (by omega))) (ok_proofsE h6 h7)) (ok_append (ok_enc (by omega)) (ok_flat _ _ (fun x hx => ok_append (ok_append (ok_sm (h9 x hx).1) (ok_sm (h9 x hx).2.1)) (ok_proofsE (h9 x hx).2.2.1 (h9 x hx).2.2.2))))
  · have e1 := enc10 (n := a.toNat) (by have := h1.2; omega)
    have e2 := enc10 (n := b.toNat) (by have := h2.2; omega)
    have e3 := enc10 (n := c.toNat) (by have := h3.2; omega)
    have e4 := enc10 (n := d.toNat) (by have := h4.2; omega)
    have e5 := txt_len h5
    have e6 := proofsE_len h6 h7
    have e7 := enc10 (n := cs.length) (by omega)
    have e8 := flat_len changeE 1220030 cs (fun x hx => changeE_len (h9 x hx))
    have e9 : 1220030 * cs.length ≤ 1220030 * 50 := Nat.mul_le_mul_left _ h8
    unfold msgE
    simp only [List.length_append]
    omega
theorem get_msgE {a b c d : Int} {s : ByteArray} {ps : List S95} {cs : List S61} (hm : mayM a b c d s ps cs = true) (h : LOk (msgE a b c d s ps cs)) : getM (tp _ h) = (a, b, c, d, s, ps, cs, none) := by
  obtain ⟨z, e, hz⟩ := msg_fwd h (post := []) (may_ok1 hm) (by rw [List.append_nil])
  unfold getM
  rw [e]
  have hlen : (msgE a b c d s ps cs).length ≤ z := by
    have := congrArg List.length hz.2
    rw [List.length_drop, List.length_nil] at this
    omega
  unfold getR okR
  simp only
  rw [decide_eq_true hlen, hm]
  rfl
theorem LOk_msgE {a b c d : Int} {s : ByteArray} {ps : List S95} {cs : List S61} (hm : mayM a b c d s ps cs = true) : LOk (msgE a b c d s ps cs) := ⟨(ok_msgE (may_ok hm)).1, by have := (ok_msgE (may_ok hm)).2; omega⟩
theorem msgE_inj {a b c d : Int} {s : ByteArray} {ps : List S95} {cs : List S61} {a' b' c' d' : Int} {s' : ByteArray} {ps' : List S95} {cs' : List S61} (hm : mayM a b c d s ps cs = true) (hm' : mayM a' b' c' d' s' ps' cs' = true) (h : msgE a b c d s ps cs = msgE a' b' c' d' s' ps' cs') :
    a = a' ∧ b = b' ∧ c = c' ∧ d = d' ∧ s = s' ∧ ps = ps' ∧ cs = cs' := by
  have h1 := get_msgE hm (LOk_msgE hm)
  have h2 := get_msgE hm' (LOk_msgE hm')
  have h3 : ∀ (l m : List Int) (hl : LOk l) (hm : LOk m), l = m → getM (tp l hl) = getM (tp m hm) := by
    intro l m hl hm e
    subst e
    rfl
  rw [h3 _ _ (LOk_msgE hm) (LOk_msgE hm') h, h2] at h1
  simp only [Prod.mk.injEq, and_true] at h1
  obtain ⟨rfl, rfl, rfl, rfl, rfl, rfl, rfl⟩ := h1
  exact ⟨rfl, rfl, rfl, rfl, rfl, rfl, rfl⟩
theorem MsgApart (a b c d : Int) (s : ByteArray) (ps : List S95) (cs : List S61) (a' b' c' d' : Int) (s' : ByteArray) (ps' : List S95) (cs' : List S61) : becketlaw12_MsgApart.f (KZ + 1) a b c d s ps cs a' b' c' d' s' ps' cs' = some true := by
  have hz := KZ_small
  have hm := KZ_mid
  have hbig := KZ_big
  generalize hK : KZ = k at hz hm hbig
  have hu : becketlaw12_up.f (k + 1) = some true := up_f 1010010 KB_ok (k + 1) (by omega)
  have hj : ∀ x, (x = true → shortM s ps cs = true) → becketlaw12_MsgApart.j0 (k + 1) true x a b c d s ps cs a' b' c' d' s' ps' cs' = some true := by
    intro x hx
    rw [becketlaw12_MsgApart.j0]
    cases x with
    | false => rfl
    | true =>
      have hsh := hx rfl
      unfold shortM at hsh
      simp only [Bool.and_eq_true, decide_eq_true_eq] at hsh
      rw [if_pos rfl, put_any a b c d s ps cs k (by omega), Option.bind_some, put_any a' b' c' d' s' ps' cs' k (by omega), Option.bind_some]
      by_cases h1 : mayM a b c d s ps cs = true
      · by_cases h2 : mayM a' b' c' d' s' ps' cs' = true
        · rw [if_pos h1, if_pos h2]
          simp only
          rw [if_pos (show (none : Option Int).isNone = true from rfl), if_pos (show (none : Option Int).isNone = true from rfl), if_pos trivial, same_f k _ _ _ _ _ _ _ _ _ _ _ _ _ _ (by omega) (by omega), Option.bind_some]
          congr 1
          rw [beq_iff_eq, Bool.eq_iff_iff, beq_iff_eq, sameM_iff]
          constructor
          · intro h
            exact msgE_inj h1 h2 (str_inj (ok_msgE (may_ok h1)).1 (ok_msgE (may_ok h2)).1 h)
          · rintro ⟨rfl, rfl, rfl, rfl, rfl, rfl, rfl⟩
            rfl
        · rw [if_pos h1, if_neg h2]
          simp only
          rw [if_pos (show (none : Option Int).isNone = true from rfl), if_neg (show ¬ (some (1 : Int)).isNone = true from by decide)]
      · rw [if_neg h1]
        simp only
        rw [if_neg (show ¬ (some (1 : Int)).isNone = true from by decide)]
  unfold becketlaw12_MsgApart.f
  rw [hu, Option.bind_some, Short_f a b c d s ps cs _ (by omega), Option.bind_some, Short_f a' b' c' d' s' ps' cs' _ (by omega), Option.bind_some]
  cases hs : shortM s ps cs with
  | false => exact hj false (fun h => by cases h)
  | true => exact hj _ (fun _ => hs)
end Go.Proofs.Ytpbbgbikebcnbaa.MsgP
