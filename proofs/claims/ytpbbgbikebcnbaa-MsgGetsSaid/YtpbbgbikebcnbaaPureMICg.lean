-- Cut by a program of this session (wip/shake.py) out of a text of this seat: what this claim doesn't reach is struck out. Lean checks it.
import Derived.Test.YtpbbgbikebcnbaaPureMECg
import Derived.Test.YtpbbgbikebcnbaaPureMGCg
namespace Go.Proofs.Ytpbbgbikebcnbaa.MsgP
open Go.RowKit Go.Proofs.Ytpbbgbikebcnbaa.Ms Go.Proofs.Ytpbbgbikebcnbaa.Mw Go.Proofs.Ytpbbgbikebcnbaa.MsgL Go.Proofs.YtpbbgbikebcnbaaW.PrintWords Go.Proofs.YtpbbgbikebcnbaaW.PrintLast Go.Proofs.YtpbbgbikebcnbaaW.PrintMore
set_option linter.unusedVariables false
set_option linter.unusedSimpArgs false
theorem LOk.nil : LOk [] := ⟨fun x hx => (by cases hx), by decide⟩
theorem may_up : mayM 3 2 1 3 (⟨#[97]⟩ : ByteArray) [] [] = true := by decide
theorem up_f (K : Nat) (hK : BigK K) (k : Nat) (hk : K + 2010 ≤ k) : becketlaw12_up.f k = some true := by
  unfold becketlaw12_up.f
  rw [put_any 3 2 1 3 (⟨#[97]⟩ : ByteArray) [] [] k (by omega), if_pos may_up, Option.bind_some, get_f LOk.nil K hK k hk, Option.bind_some]
  have e : msgE 3 2 1 3 (⟨#[97]⟩ : ByteArray) [] [] = [3, 2, 1, 3, 1, 97, 0, 0] := by
    unfold msgE proofsE txt
    rw [show (3 : Int).toNat = 3 from rfl, show (2 : Int).toNat = 2 from rfl, show (1 : Int).toNat = 1 from rfl, show (⟨#[97]⟩ : ByteArray).size = 1 from rfl, show ([] : List S95).length = 0 from rfl, show ([] : List S61).length = 0 from rfl, enc_small (by decide : 3 < 128), enc_small (by decide : 2 < 128), enc_small (by decide : 1 < 128), enc_small (by decide : 0 < 128)]
    rfl
  rw [if_pos ⟨e, rfl, rfl⟩]
theorem KB_ok : BigK 1010010 := by unfold BigK; decide
def sameC (x y : S61) : Bool := (x.f0 == y.f0) && ((x.f1 == y.f1) && samePs x.f2 y.f2)
def sameCs : List S61 → List S61 → Bool
  | [], [] => true
  | x :: xs, y :: ys => sameC x y && sameCs xs ys
  | [], _ :: _ => false
  | _ :: _, [] => false
theorem sameC_iff (x y : S61) : sameC x y = true ↔ x = y := by
  obtain ⟨a, b, c⟩ := x
  obtain ⟨a', b', c'⟩ := y
  unfold sameC
  simp only [Bool.and_eq_true, beq_iff_eq, samePs_iff]
  constructor
  · rintro ⟨rfl, rfl, rfl⟩; rfl
  · intro h
    injection h with h1 h2 h3
    exact ⟨h1, h2, h3⟩
theorem sameCs_iff : ∀ l m, sameCs l m = true ↔ l = m
  | [], [] => by simp [sameCs]
  | x :: xs, y :: ys => by simp [sameCs, sameC_iff, sameCs_iff xs ys]
  | [], _ :: _ => by simp [sameCs]
  | _ :: _, [] => by simp [sameCs]
theorem same_l0 (a b c d : Int) (s : ByteArray) (ps : List S95) (cs : List S61) (a' b' c' d' : Int) (s' : ByteArray) (ps' : List S95) (cs' : List S61) (hl : cs.length = cs'.length) (hb : cs.length ≤ 1000000) : ∀ (q k i : Nat), q = cs.length - i → i ≤ cs.length → q + 1 ≤ k →
    becketref12_Same.l0 k i a b c d s ps cs a' b' c' d' s' ps' cs' = some (sameCs (cs.drop i) (cs'.drop i))
  | 0, k, i, hq, hi, hk => by
    obtain ⟨k, rfl⟩ : ∃ k', k = k' + 1 := ⟨k - 1, by omega⟩
    have : i = cs.length := by omega
    subst this
    rw [becketref12_Same.l0, if_neg (by omega), List.drop_length, hl, List.drop_length]
    rfl
  | q + 1, k, i, hq, hi, hk => by
    obtain ⟨k, rfl⟩ : ∃ k', k = k' + 1 := ⟨k - 1, by omega⟩
    have hlt : i < cs.length := by omega
    have hlt' : i < cs'.length := by omega
    have hd : cs.drop i = cs[i] :: cs.drop (i + 1) := List.drop_eq_getElem_cons hlt
    have hd' : cs'.drop i = cs'[i] :: cs'.drop (i + 1) := List.drop_eq_getElem_cons hlt'
    have ih := same_l0 a b c d s ps cs a' b' c' d' s' ps' cs' hl hb q k (i + 1) (by omega) (by omega) (by omega)
    rw [becketref12_Same.l0, if_pos (by omega), if_pos (by omega), if_pos (by omega), rdC_get cs i hlt, rdC_get cs' i hlt', wz' (z := (i : Int) + 1) (y := ((i + 1 : Nat) : Int)) (by omega) (by omega) (by omega), ih, hd, hd']
    unfold becketref12_SameProofs.f
    rw [Option.bind_some]
    show _ = some (sameC cs[i] cs'[i] && sameCs (cs.drop (i + 1)) (cs'.drop (i + 1)))
    unfold sameC
    by_cases h1 : (cs[i]).f0 = (cs'[i]).f0
    · rw [if_pos h1, beq_iff_eq.2 h1]
      by_cases h2 : (cs[i]).f1 = (cs'[i]).f1
      · rw [if_pos h2, beq_iff_eq.2 h2]
        cases samePs (cs[i]).f2 (cs'[i]).f2 with
        | true => rfl
        | false => rfl
      · rw [if_neg h2, beq_eq_false_iff_ne.2 h2]; rfl
    · rw [if_neg h1, beq_eq_false_iff_ne.2 h1]; rfl
theorem same_j0 (k : Nat) (x : Bool) (a b c d : Int) (s : ByteArray) (ps : List S95) (cs : List S61) (a' b' c' d' : Int) (s' : ByteArray) (ps' : List S95) (cs' : List S61) (hx : x = false → cs.length = cs'.length) (hb : cs.length ≤ 1000000) (hk : cs.length + 1 ≤ k) :
    becketref12_Same.j0 (k + 1) x a b c d s ps cs a' b' c' d' s' ps' cs' = some (!x && sameCs cs cs') := by
  rw [becketref12_Same.j0]
  cases x with
  | true => rfl
  | false =>
    rw [if_neg (by decide)]
    exact same_l0 a b c d s ps cs a' b' c' d' s' ps' cs' (hx rfl) hb cs.length k 0 (by omega) (by omega) (by omega)
def sameM (a b c d : Int) (s : ByteArray) (ps : List S95) (cs : List S61) (a' b' c' d' : Int) (s' : ByteArray) (ps' : List S95) (cs' : List S61) : Bool :=
  decide (a = a') && (decide (b = b') && (decide (c = c') && (decide (d = d') && (decide (s.toList = s'.toList) && (samePs ps ps' && sameCs cs cs')))))
theorem same_f (k : Nat) (a b c d : Int) (s : ByteArray) (ps : List S95) (cs : List S61) (a' b' c' d' : Int) (s' : ByteArray) (ps' : List S95) (cs' : List S61) (hb : cs.length ≤ 1000000) (hk : cs.length + 2 ≤ k) :
    becketref12_Same.f k a b c d s ps cs a' b' c' d' s' ps' cs' = some (sameM a b c d s ps cs a' b' c' d' s' ps' cs') := by
  obtain ⟨k, rfl⟩ : ∃ k', k = k' + 1 := ⟨k - 1, by omega⟩
  have ht := same_j0 k true a b c d s ps cs a' b' c' d' s' ps' cs' (fun h => by cases h) hb (by omega)
  have hne : becketref12_Same.j0 (k + 1) ((cs.length : Int) != (cs'.length : Int)) a b c d s ps cs a' b' c' d' s' ps' cs' = some (sameCs cs cs') := by
    by_cases hl : cs.length = cs'.length
    · rw [show ((cs.length : Int) != (cs'.length : Int)) = false from by simp [hl], same_j0 k false a b c d s ps cs a' b' c' d' s' ps' cs' (fun _ => hl) hb (by omega)]; rfl
    · have hs : sameCs cs cs' = false := by
        rw [← Bool.not_eq_true, sameCs_iff]
        exact fun e => hl (by rw [e])
      rw [show ((cs.length : Int) != (cs'.length : Int)) = true from by rw [bne_iff_ne]; omega, ht, hs]; rfl
  unfold becketref12_Same.f sameM becketref12_SameProofs.f
  rw [hne, ht, Option.bind_some]
  by_cases h1 : a = a'
  · rw [if_pos h1, decide_eq_true h1]
    by_cases h2 : b = b'
    · rw [if_pos h2, decide_eq_true h2]
      by_cases h3 : c = c'
      · rw [if_pos h3, decide_eq_true h3]
        by_cases h4 : d = d'
        · rw [if_pos h4, decide_eq_true h4]
          by_cases h5 : s.toList = s'.toList
          · rw [if_pos h5, decide_eq_true h5]
            cases samePs ps ps' with
            | true => rfl
            | false => rfl
          · rw [if_neg h5, decide_eq_false h5]; rfl
        · rw [if_neg h4, decide_eq_false h4]; rfl
      · rw [if_neg h3, decide_eq_false h3]; rfl
    · rw [if_neg h2, decide_eq_false h2]; rfl
  · rw [if_neg h1, decide_eq_false h1]; rfl
theorem sameM_refl (a b c d : Int) (s : ByteArray) (ps : List S95) (cs : List S61) : sameM a b c d s ps cs a b c d s ps cs = true := by
  unfold sameM
  rw [(samePs_iff ps ps).2 rfl, (sameCs_iff cs cs).2 rfl]
  simp
def KZ : Nat := 1010010 + 2010 + 30000
theorem KZ_big : 1010010 + 2010 ≤ KZ := by unfold KZ; decide
theorem KZ_mid : 30000 ≤ KZ := by unfold KZ; decide
theorem KZ_small : 1500 ≤ KZ := by unfold KZ; decide
theorem upZ : becketlaw12_up.f KZ = some true := up_f 1010010 KB_ok KZ KZ_big
theorem MsgGets (l : List Int) (hb : bytesOk l) : becketlaw12_MsgGets.f KZ l = some true := by
  have hz := KZ_small
  have hm := KZ_mid
  have hbig := KZ_big
  generalize hK : KZ = k at hz hm hbig
  have hu : becketlaw12_up.f k = some true := by rw [← hK]; exact upZ
  unfold becketlaw12_MsgGets.f
  rw [hu, Option.bind_some]
  by_cases hl : l.length > 20000
  · rw [if_pos (by omega)]
  · rw [if_neg (by omega)]
    have h : LOk l := ⟨hb, by omega⟩
    rw [get_f h _ KB_ok k hbig, Option.bind_some, refget_f h _ KB_ok k hbig, Option.bind_some]
    unfold getM refM getR refR
    rcases msg_ag h with ⟨e1, e2⟩ | e
    · have f1 : okR l (rdMsg (tp l h)).a (rdMsg (tp l h)).b (rdMsg (tp l h)).c (rdMsg (tp l h)).d (rdMsg (tp l h)).s (rdMsg (tp l h)).ps ((rdMsg (tp l h)).cs, (rdMsg (tp l h)).at_, (rdMsg (tp l h)).bad) = false := by
        unfold okR; rw [e1]; rfl
      have f2 : okR l (rdMsg (tr l h)).a (rdMsg (tr l h)).b (rdMsg (tr l h)).c (rdMsg (tr l h)).d (rdMsg (tr l h)).s (rdMsg (tr l h)).ps ((rdMsg (tr l h)).cs, (rdMsg (tr l h)).at_, (rdMsg (tr l h)).bad) = false := by
        unfold okR; rw [e2]; rfl
      rw [f1, f2, if_neg Bool.false_ne_true, if_neg Bool.false_ne_true]
      simp only
      rw [if_neg Bool.false_ne_true, if_pos trivial, if_neg (show ¬ (some (2 : Int)).isNone = true from by decide), if_pos (show (some (2 : Int)).getD 0 = 2 from rfl), same_f k _ _ _ _ _ _ _ _ _ _ _ _ _ _ (by decide) (by simp only [List.length_nil]; omega), Option.bind_some, sameM_refl]
    · rw [← e]
      generalize rdMsg (tp l h) = m
      by_cases ho : okR l m.a m.b m.c m.d m.s m.ps (m.cs, m.at_, m.bad) = true
      · have hcs : m.cs.length ≤ 50 := by
          unfold okR at ho
          simp only [Bool.and_eq_true] at ho
          exact (may_ok ho.2.2).hcs
        rw [if_pos ho, if_pos ho]
        simp only
        rw [if_pos trivial, if_pos trivial, if_pos (show (none : Option Int).isNone = true from rfl), same_f k _ _ _ _ _ _ _ _ _ _ _ _ _ _ (by omega) (by omega), Option.bind_some, sameM_refl]
      · rw [if_neg ho, if_neg ho]
        simp only
        rw [same_f k _ _ _ _ _ _ _ _ _ _ _ _ _ _ (by decide) (by simp only [List.length_nil]; omega), Option.bind_some, sameM_refl]
        rfl
end Go.Proofs.Ytpbbgbikebcnbaa.MsgP
