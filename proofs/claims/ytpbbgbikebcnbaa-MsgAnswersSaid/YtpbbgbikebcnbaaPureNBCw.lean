-- Cut by a program of this session (wip/shake.py) out of a text of this seat: what this claim doesn't reach is struck out. Lean checks it.
import Derived.Test.YtpbbgbikebcnbaaPureNACw
namespace Go.Proofs.Ytpbbgbikebcnbaa.MsgP
open Go.RowKit Go.Proofs.Ytpbbgbikebcnbaa.Ms Go.Proofs.Ytpbbgbikebcnbaa.Mw Go.Proofs.Ytpbbgbikebcnbaa.MsgL Go.Proofs.YtpbbgbikebcnbaaW.PrintWords Go.Proofs.YtpbbgbikebcnbaaW.PrintLast Go.Proofs.YtpbbgbikebcnbaaW.PrintMore
set_option linter.unusedVariables false
set_option linter.unusedSimpArgs false
theorem few_l0 (l : List ByteArray) (hl : l.length ≤ 100000000) : ∀ (q k i : Nat), q = l.length - i → i ≤ l.length → q + 1 ≤ k → becketref12_few.l0 k l i = some (!((l.drop i).any longB))
 | 0, k, i, hq, hi, hk => by
  obtain ⟨k, rfl⟩ : ∃ k', k = k' + 1 := ⟨k - 1, by omega⟩
  have : i = l.length := by omega
  subst this
  rw [becketref12_few.l0, if_neg (by omega), List.drop_length]
  rfl
 | q + 1, k, i, hq, hi, hk => by
  obtain ⟨k, rfl⟩ : ∃ k', k = k' + 1 := ⟨k - 1, by omega⟩
  have hlt : i < l.length := by omega
  have hd : l.drop i = l[i] :: l.drop (i + 1) := List.drop_eq_getElem_cons hlt
  have ih := few_l0 l hl q k (i + 1) (by omega) (by omega) (by omega)
  rw [becketref12_few.l0, if_pos (by omega), if_pos (by omega), rdS_get l i hlt, wz' (z := (i : Int) + 1) (y := ((i + 1 : Nat) : Int)) (by omega) (by omega) (by omega), hd, List.any_cons]
  by_cases h1 : 4096 < (l[i]).size
  ·rw [if_pos (by omega)]
   have : longB l[i] = true := decide_eq_true h1
   rw [this]; rfl
  ·rw [if_neg (by omega), ih]
   have : longB l[i] = false := decide_eq_false h1
   rw [this, Bool.false_or]
theorem few_f (l : List ByteArray) (hl : l.length ≤ 100000000) (k : Nat) (hk : l.length + 1 ≤ k) : becketref12_few.f k l = some (!(l.any longB)) := few_l0 l hl l.length k 0 (by omega) (by omega) hk
theorem texts_l0 (l : List ByteArray) (hl : l.length ≤ 100000000) : ∀ (q k i : Nat) (acc : List Int), q = l.length - i → i ≤ l.length → acc.length + ((l.drop i).flatMap txt).length ≤ 900000000 → q + 12 ≤ k → becketref12_texts.l0 k l acc i = some (acc ++ (l.drop i).flatMap txt)
 | 0, k, i, acc, hq, hi, ha, hk => by
  obtain ⟨k, rfl⟩ : ∃ k', k = k' + 1 := ⟨k - 1, by omega⟩
  have : i = l.length := by omega
  subst this
  rw [becketref12_texts.l0, if_neg (by omega), List.drop_length]
  simp
 | q + 1, k, i, acc, hq, hi, ha, hk => by
  obtain ⟨k, rfl⟩ : ∃ k', k = k' + 1 := ⟨k - 1, by omega⟩
  have hlt : i < l.length := by omega
  have hd : l.drop i = l[i] :: l.drop (i + 1) := List.drop_eq_getElem_cons hlt
  rw [hd, List.flatMap_cons, List.length_append] at ha
  rw [becketref12_texts.l0, if_pos (by omega), if_pos (by omega), rdS_get l i hlt, rtxt_e _ (by omega) k (by omega), Option.bind_some, if_pos (by omega), wz' (z := (i : Int) + 1) (y := ((i + 1 : Nat) : Int)) (by omega) (by omega) (by omega)]
  rw [texts_l0 l hl q k (i + 1) _ (by omega) (by omega) (by rw [List.length_append]; omega) (by omega), hd, List.flatMap_cons, List.append_assoc]
theorem texts_f (l : List ByteArray) (hl : l.length ≤ 100000000) (ha : (listE l).length ≤ 900000000) (k : Nat) (hk : l.length + 30 ≤ k) : becketref12_texts.f k l = some (listE l) := by
 unfold listE at ha ⊢
 rw [List.length_append] at ha
 unfold becketref12_texts.f
 rw [refnumZ _ k (by omega), Option.bind_some, encZ_nat (by omega)]
 have := texts_l0 l hl l.length k 0 (enc l.length) (by omega) (by omega) (by rw [List.drop_zero]; omega) (by omega)
 rw [List.drop_zero] at this
 exact this
def finA (x : List Int) : ByteArray := if (x.length : Int) > 4096 then ⟨#[7, 0, 0, 0, 0]⟩ else strOfNums x
theorem refput_a1 (a b : Int) (n ks : List ByteArray) (l : List S58) (hl : l.length ≤ 100000000) (M : Nat) (hM : ∀ e ∈ l, e.f2.length ≤ M) (hM2 : M ≤ 100000000) : ∀ (q k i : Nat) (acc : List Int), q = l.length - i → i ≤ l.length → acc.length + ((l.drop i).flatMap entryE).length ≤ 900000000 → q + M + 40 ≤ k → becketref12_PutAnswer.l1 k acc i a b n ks l = some (finA (acc ++ (l.drop i).flatMap entryE))
 | 0, k, i, acc, hq, hi, ha, hk => by
  obtain ⟨k, rfl⟩ : ∃ k', k = k' + 1 := ⟨k - 1, by omega⟩
  have : i = l.length := by omega
  subst this
  rw [becketref12_PutAnswer.l1, if_neg (by omega), List.drop_length, List.flatMap_nil, List.append_nil]
  unfold finA
  split <;> rfl
 | q + 1, k, i, acc, hq, hi, ha, hk => by
  obtain ⟨k, rfl⟩ : ∃ k', k = k' + 1 := ⟨k - 1, by omega⟩
  have hlt : i < l.length := by omega
  have hd : l.drop i = l[i] :: l.drop (i + 1) := List.drop_eq_getElem_cons hlt
  have hm := hM _ (List.getElem_mem hlt)
  have he : (entryE l[i]).length = (txt (l[i]).f0).length + ((encZ (l[i]).f1).length + (listE (l[i]).f2).length) := by unfold entryE; rw [List.length_append, List.length_append]
  rw [hd, List.flatMap_cons, List.length_append] at ha
  rw [becketref12_PutAnswer.l1, if_pos (by omega), if_pos (by omega), rdE_get l i hlt, rtxt_e _ (by omega) k (by omega), Option.bind_some, if_pos (by omega), Option.bind_some, refnumZ _ k (by omega), Option.bind_some, if_pos (by rw [List.length_append]; omega), Option.bind_some, texts_f _ (by omega) (by omega) k (by omega), Option.bind_some, if_pos (by rw [List.length_append, List.length_append]; omega), wz' (z := (i : Int) + 1) (y := ((i + 1 : Nat) : Int)) (by omega) (by omega) (by omega)]
  rw [refput_a1 a b n ks l hl M hM hM2 q k (i + 1) _ (by omega) (by omega) (by rw [List.length_append, List.length_append, List.length_append]; omega) (by omega), hd, List.flatMap_cons]
  unfold entryE
  simp only [List.append_assoc]
theorem refput_a0 (a b : Int) (n ks : List ByteArray) (l : List S58) (hl : l.length ≤ 100000000) (M : Nat) (hM : ∀ e ∈ l, e.f2.length ≤ M) (hM2 : M ≤ 100000000) (K : Nat) (R : Option ByteArray) : ∀ (q k i : Nat) (x : Bool), q = l.length - i → i ≤ l.length → q + K + M + 40 ≤ k → (∀ k', K + M + 40 ≤ k' → becketref12_PutAnswer.l0 k' (x && !((l.drop i).any entryBad)) l.length a b n ks l = R) → becketref12_PutAnswer.l0 k x i a b n ks l = R
 | 0, k, i, x, hq, hi, hk, H => by
  have : i = l.length := by omega
  subst this
  have := H k (by omega)
  rw [List.drop_length] at this
  simpa using this
 | q + 1, k, i, x, hq, hi, hk, H => by
  obtain ⟨k, rfl⟩ : ∃ k', k = k' + 1 := ⟨k - 1, by omega⟩
  have hlt : i < l.length := by omega
  have hd : l.drop i = l[i] :: l.drop (i + 1) := List.drop_eq_getElem_cons hlt
  have hm := hM _ (List.getElem_mem hlt)
  have key : ∀ y : Bool, y = (x && !(entryBad l[i])) → becketref12_PutAnswer.l0 k y ((i + 1 : Nat) : Int) a b n ks l = R := fun y hy => by
   refine refput_a0 a b n ks l hl M hM hM2 K R q k (i + 1) y (by omega) (by omega) (by omega) (fun k' hk' => ?_)
   have := H k' hk'
   rw [hd, List.any_cons] at this
   rw [hy]
   have e : (x && !(entryBad l[i]) && !((l.drop (i + 1)).any entryBad)) = (x && !(entryBad l[i] || (l.drop (i + 1)).any entryBad)) := by
    cases x <;> cases entryBad l[i] <;> simp
   rw [e]
   exact this
  rw [becketref12_PutAnswer.l0, if_pos (by omega), if_pos (by omega), rdE_get l i hlt, few_f _ (by omega) k (by omega), Option.bind_some, wz' (z := (i : Int) + 1) (y := ((i + 1 : Nat) : Int)) (by omega) (by omega) (by omega)]
  cases x with
  | false =>
   rw [if_neg (by decide)]
   exact key false rfl
  | true =>
   rw [if_pos rfl]
   by_cases h1 : (l[i]).f2.any longB = true
   ·rw [h1, if_neg (by decide)]
    exact key false (by unfold entryBad; rw [h1]; simp)
   ·rw [Bool.not_eq_true] at h1
    rw [h1, if_pos (by decide)]
    by_cases h2 : (l[i]).f1 ≥ 0
    ·rw [if_pos h2]
     refine key _ ?_
     unfold entryBad
     rw [h1, decide_eq_false (by omega : ¬ (l[i]).f1 < 0)]
     by_cases h3 : 4096 < (l[i]).f0.size
     ·have : longB (l[i]).f0 = true := decide_eq_true h3
      rw [this, decide_eq_false (by omega)]; rfl
     ·have : longB (l[i]).f0 = false := decide_eq_false h3
      rw [this, decide_eq_true (by omega)]; rfl
    ·rw [if_neg h2]
     refine key _ ?_
     unfold entryBad
     rw [decide_eq_true (by omega : (l[i]).f1 < 0)]; rfl
theorem refput_end (a b : Int) (n ks : List ByteArray) (es : List S58) (M : Nat) (hn : n.length ≤ M) (hk' : ks.length ≤ M) (he : es.length ≤ M) (hM : ∀ e ∈ es, e.f2.length ≤ M) (hM2 : M ≤ 100000000) (ha : (ansE a b n ks es).length ≤ 900000000) (k : Nat) (hk : 2 * M + 60 ≤ k) : becketref12_PutAnswer.l0 k true es.length a b n ks es = some (finA (ansE a b n ks es)) := by
 obtain ⟨k, rfl⟩ : ∃ k', k = k' + 1 := ⟨k - 1, by omega⟩
 unfold ansE at ha ⊢
 rw [List.length_append, List.length_append, List.length_append, List.length_append, List.length_append] at ha
 rw [becketref12_PutAnswer.l0, if_neg (by omega), if_pos rfl, refnumZ a k (by omega), Option.bind_some, refnumZ b k (by omega), Option.bind_some, if_pos (by omega), Option.bind_some, texts_f n (by omega) (by omega) k (by omega), Option.bind_some, if_pos (by rw [List.length_append]; omega), Option.bind_some, texts_f ks (by omega) (by omega) k (by omega), Option.bind_some, if_pos (by rw [List.length_append, List.length_append]; omega), Option.bind_some, refnumZ _ k (by omega), Option.bind_some, encZ_nat (by omega), if_pos (by rw [List.length_append, List.length_append, List.length_append]; omega)]
 have := refput_a1 a b n ks es (by omega) M hM hM2 es.length k 0 (encZ a ++ encZ b ++ listE n ++ listE ks ++ enc es.length) (by omega) (by omega) (by rw [List.drop_zero, List.length_append, List.length_append, List.length_append, List.length_append]; omega) (by omega)
 rw [List.drop_zero] at this
 exact this
theorem refput_no (a b : Int) (n ks : List ByteArray) (es : List S58) (k : Nat) (hk : 1 ≤ k) : becketref12_PutAnswer.l0 k false es.length a b n ks es = some ⟨#[7, 0, 0, 0, 0]⟩ := by
 obtain ⟨k, rfl⟩ : ∃ k', k = k' + 1 := ⟨k - 1, by omega⟩
 rw [becketref12_PutAnswer.l0, if_neg (by omega), if_neg (by decide)]
theorem refput_j0 (x : Bool) (a b : Int) (n ks : List ByteArray) (es : List S58) (M : Nat) (hn : n.length ≤ M) (hk' : ks.length ≤ M) (he : es.length ≤ M) (hM : ∀ e ∈ es, e.f2.length ≤ M) (hM2 : M ≤ 100000000) (ha : (x && !(es.any entryBad)) = true → (ansE a b n ks es).length ≤ 900000000) (k : Nat) (hk : 4 * M + 200 ≤ k) : becketref12_PutAnswer.j0 k x a b n ks es = some (if (x && !(es.any entryBad)) = true then finA (ansE a b n ks es) else ⟨#[7, 0, 0, 0, 0]⟩) := by
 obtain ⟨k, rfl⟩ : ∃ k', k = k' + 1 := ⟨k - 1, by omega⟩
 rw [becketref12_PutAnswer.j0]
 refine refput_a0 a b n ks es (by omega) M hM hM2 (M + 20) _ es.length k 0 x (by omega) (by omega) (by omega) (fun k' hk' => ?_)
 rw [List.drop_zero]
 cases hx : (x && !(es.any entryBad)) with
 | false => rw [refput_no a b n ks es k' (by omega)]; rfl
 | true => rw [refput_end a b n ks es M hn ‹_› he hM hM2 (ha hx) k' (by omega)]; rfl
theorem refputans_f (a b : Int) (n ks : List ByteArray) (es : List S58) (M : Nat) (hn : n.length ≤ M) (hk' : ks.length ≤ M) (he : es.length ≤ M) (hM : ∀ e ∈ es, e.f2.length ≤ M) (hM2 : M ≤ 100000000) (ha : fitsB a b n ks es = true → (ansE a b n ks es).length ≤ 900000000) (k : Nat) (hk : 4 * M + 300 ≤ k) : becketref12_PutAnswer.f k a b n ks es = some (putA a b n ks es) := by
 have hfit : ∀ x : Bool, x = (decide (0 ≤ a) && (decide (0 ≤ b) && (!(n.any longB) && !(ks.any longB)))) → becketref12_PutAnswer.j0 k x a b n ks es = some (putA a b n ks es) := fun x hx => by
  have e : fitsB a b n ks es = (x && !(es.any entryBad)) := by
   rw [hx]; unfold fitsB
   cases decide (0 ≤ a) <;> cases decide (0 ≤ b) <;> cases n.any longB <;> cases ks.any longB <;> rfl
  rw [refput_j0 x a b n ks es M hn hk' he hM hM2 (by rw [← e]; exact ha) k (by omega), ← e]
  unfold putA finA
  by_cases hf : fitsB a b n ks es = true
  ·rw [if_pos hf]
   by_cases hl : (ansE a b n ks es).length ≤ 4096
   ·rw [if_neg (by omega), if_pos ⟨hf, hl⟩]
   ·rw [if_pos (by omega), if_neg (fun h => hl h.2)]
  ·rw [if_neg hf, if_neg (fun h => hf h.1)]
 unfold becketref12_PutAnswer.f
 rw [few_f n (by omega) k (by omega), Option.bind_some, few_f ks (by omega) k (by omega), Option.bind_some]
 by_cases h1 : a ≥ 0
 ·rw [if_pos h1]
  by_cases h2 : b ≥ 0
  ·rw [if_pos h2]
   cases h3 : n.any longB with
   | true =>
    rw [if_neg (by decide)]
    exact hfit false (by rw [h3]; simp)
   | false =>
    rw [if_pos (by decide)]
    exact hfit _ (by rw [h3, decide_eq_true h1, decide_eq_true h2]; rfl)
  ·rw [if_neg h2]
   exact hfit false (by rw [decide_eq_false h2]; simp)
 ·rw [if_neg h1]
  exact hfit false (by rw [decide_eq_false h1]; simp)
def shortE1 (e : S58) : Bool := decide (e.f0.size ≤ 2000) && (decide (e.f2.length ≤ 1200) && e.f2.all fun s => decide (s.size ≤ 2000))
def shortE (es : List S58) : Bool := decide (es.length ≤ 100) && es.all shortE1
theorem she_l1 (l : List S58) (i : Nat) (hi : i < l.length) (hl : l.length ≤ 100) (h2 : (l[i]).f2.length ≤ 1200) (R : Bool) (K : Nat) : ∀ (q k j : Nat), q = (l[i]).f2.length - j → j ≤ (l[i]).f2.length → K + q + 1 ≤ k → (∀ k', K ≤ k' → becketref04_Short.l0 k' l ((i + 1 : Nat) : Int) = some R) → becketref04_Short.l1 k l i j = some (((l[i]).f2.drop j).all (fun s => decide (s.size ≤ 2000)) && R)
 | 0, k, j, hq, hj, hk, H => by
  obtain ⟨k, rfl⟩ : ∃ k', k = k' + 1 := ⟨k - 1, by omega⟩
  have : j = (l[i]).f2.length := by omega
  subst this
  rw [becketref04_Short.l1, if_pos (by omega), if_pos (by omega), rdE_get l i hi, if_neg (by omega), wz' (z := (i : Int) + 1) (y := ((i + 1 : Nat) : Int)) (by omega) (by omega) (by omega), H k (by omega), List.drop_length]
  rfl
 | q + 1, k, j, hq, hj, hk, H => by
  obtain ⟨k, rfl⟩ : ∃ k', k = k' + 1 := ⟨k - 1, by omega⟩
  have hlt : j < (l[i]).f2.length := by omega
  have hd : (l[i]).f2.drop j = (l[i]).f2[j] :: (l[i]).f2.drop (j + 1) := List.drop_eq_getElem_cons hlt
  have ih := she_l1 l i hi hl h2 R K q k (j + 1) (by omega) (by omega) (by omega) H
  rw [becketref04_Short.l1, if_pos (by omega), if_pos (by omega), rdE_get l i hi, if_pos (by omega), if_pos (by omega), rdS_get _ j hlt, wz' (z := (j : Int) + 1) (y := ((j + 1 : Nat) : Int)) (by omega) (by omega) (by omega), hd, List.all_cons]
  by_cases h : ((l[i]).f2[j]).size ≤ 2000
  ·rw [if_neg (by omega), decide_eq_true h, ih]; rfl
  ·rw [if_pos (by omega), decide_eq_false h]; rfl
theorem she_l0 (l : List S58) (hl : l.length ≤ 100) : ∀ (q k i : Nat), q = l.length - i → i ≤ l.length → 1210 * q + 10 ≤ k → becketref04_Short.l0 k l i = some ((l.drop i).all shortE1)
 | 0, k, i, hq, hi, hk => by
  obtain ⟨k, rfl⟩ : ∃ k', k = k' + 1 := ⟨k - 1, by omega⟩
  have : i = l.length := by omega
  subst this
  rw [becketref04_Short.l0, if_neg (by omega), List.drop_length]
  rfl
 | q + 1, k, i, hq, hi, hk => by
  obtain ⟨k, rfl⟩ : ∃ k', k = k' + 2 := ⟨k - 2, by omega⟩
  have hlt : i < l.length := by omega
  have hd : l.drop i = l[i] :: l.drop (i + 1) := List.drop_eq_getElem_cons hlt
  rw [becketref04_Short.l0, if_pos (by omega), if_pos (by omega), rdE_get l i hlt, hd, List.all_cons]
  have hun : shortE1 l[i] = (decide ((l[i]).f0.size ≤ 2000) && (decide ((l[i]).f2.length ≤ 1200) && (l[i]).f2.all fun s => decide (s.size ≤ 2000))) := rfl
  by_cases h1 : (l[i]).f0.size ≤ 2000
  ·rw [if_neg (by omega)]
   by_cases h2 : (l[i]).f2.length ≤ 1200
   ·rw [decide_eq_false (by omega : ¬ (((l[i]).f2.length : Int) > 1200)), becketref04_Short.j1, if_neg (by decide), hun, decide_eq_true h1, decide_eq_true h2]
    have := she_l1 l i hlt hl h2 ((l.drop (i + 1)).all shortE1) (1210 * q + 10) (l[i]).f2.length k 0 (by omega) (by omega) (by omega) (fun k' hk' => she_l0 l hl q k' (i + 1) (by omega) (by omega) hk')
    rw [List.drop_zero] at this
    exact this
   ·rw [decide_eq_true (by omega : (((l[i]).f2.length : Int) > 1200)), becketref04_Short.j1, if_pos rfl, hun, decide_eq_false h2, Bool.false_and, Bool.and_false, Bool.false_and]
  ·rw [if_pos (by omega), becketref04_Short.j1, if_pos rfl, hun, decide_eq_false h1, Bool.false_and, Bool.false_and]
theorem she_f (l : List S58) (k : Nat) (hk : 130000 ≤ k) : becketref04_Short.f k l = some (shortE l) := by
 unfold becketref04_Short.f shortE
 by_cases h : l.length ≤ 100
 ·rw [if_neg (by omega), decide_eq_true h]
  have := she_l0 l h l.length k 0 (by omega) (by omega) (by omega)
  rw [List.drop_zero] at this
  exact this
 ·rw [if_pos (by omega), decide_eq_false h]; rfl
end Go.Proofs.Ytpbbgbikebcnbaa.MsgP
