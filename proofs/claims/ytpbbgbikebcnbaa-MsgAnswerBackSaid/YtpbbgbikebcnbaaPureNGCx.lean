-- Cut by a program of this session (wip/shake.py) out of a text of this seat: what this claim doesn't reach is struck out. Lean checks it.
import Derived.Test.YtpbbgbikebcnbaaPureNFCx
import Derived.Test.YtpbbgbikebcnbaaAnsBackLawCx
namespace Go.Proofs.Ytpbbgbikebcnbaa.MsgP
open Go.RowKit Go.Proofs.Ytpbbgbikebcnbaa.Ms Go.Proofs.Ytpbbgbikebcnbaa.Mw Go.Proofs.Ytpbbgbikebcnbaa.MsgL Go.Proofs.YtpbbgbikebcnbaaW.PrintWords Go.Proofs.YtpbbgbikebcnbaaW.PrintLast Go.Proofs.YtpbbgbikebcnbaaW.PrintMore
set_option linter.unusedVariables false
set_option linter.unusedSimpArgs false
theorem back_j2 (s : ByteArray) (hs : s.size ≤ 100000000) (k : Nat) (hk : 300001 ≤ k) : becketlaw12_MsgAnswerBack.j2 k s true false = some true := by
 obtain ⟨k, rfl⟩ : ∃ k', k = k' + 1 := ⟨k - 1, by omega⟩
 rw [becketlaw12_MsgAnswerBack.j2, if_neg (by decide)]
 rcases getans s hs k (by omega) with ⟨e1, _⟩ | ⟨c, m, ns, ks, es, e1, _, g1, g2, g3, g4⟩
 ·rw [e1, Option.bind_some]
  rfl
 ·obtain ⟨h1, h2, h3⟩ := getput s hs k (by omega) e1
  rw [e1, Option.bind_some]
  dsimp only
  rw [if_pos (by rfl), if_pos rfl, putans_f c m ns ks es 65536 g1 g2 g3 g4 (by decide) (fun _ => by omega) k (by omega), Option.bind_some]
  unfold putA
  rw [if_pos ⟨h1, h2⟩, h3]
  simp
theorem same_nil (a b : Int) (n ks : List ByteArray) (es : List S58) (k : Nat) (hk : 1 ≤ k) : ∃ x, becketlaw12_same.f k a b n ks es 7 0 [] [] [] = some x := by
 obtain ⟨k, rfl⟩ : ∃ k', k = k' + 1 := ⟨k - 1, by omega⟩
 have hS : ∀ l : List ByteArray, ∃ x, becketref03_Same.f (k + 1) l [] = some x := fun l => by
  unfold becketref03_Same.f
  by_cases h : (l.length : Int) = (([] : List ByteArray).length : Int)
  ·have : l = [] := List.eq_nil_of_length_eq_zero (by simpa using h)
   subst this
   rw [if_pos rfl, becketref03_Same.l0, if_neg (by decide)]
   exact ⟨_, rfl⟩
  ·rw [if_neg h]; exact ⟨_, rfl⟩
 have hE : ∃ x, becketref04_SameAll.f (k + 1) es [] = some x := by
  unfold becketref04_SameAll.f
  by_cases h : (es.length : Int) = (([] : List S58).length : Int)
  ·have : es = [] := List.eq_nil_of_length_eq_zero (by simpa using h)
   subst this
   rw [if_pos rfl, becketref04_SameAll.l0, if_neg (by decide)]
   exact ⟨_, rfl⟩
  ·rw [if_neg h]; exact ⟨_, rfl⟩
 obtain ⟨x1, e1⟩ := hS n
 obtain ⟨x2, e2⟩ := hS ks
 obtain ⟨x3, e3⟩ := hE
 unfold becketlaw12_same.f becketref09_Alike.f
 rw [e1, e2, e3]
 simp only [Option.bind_some]
 repeat' split
 all_goals exact ⟨_, rfl⟩
theorem ok7 : OkAns 7 0 [] [] [] := ⟨⟨by decide, by decide⟩, ⟨by decide, by decide⟩, by decide, (fun _ h => by cases h), by decide, (fun _ h => by cases h), by decide, (fun _ h => by cases h)⟩
theorem str7 : strOfNums (ansE 7 0 [] [] []) = ⟨#[7, 0, 0, 0, 0]⟩ := by rw [ansE7]; rfl
theorem len7 : (ansE 7 0 [] [] []).length ≤ 4096 := by rw [ansE7]; decide
theorem ok_fits {a b : Int} {n ks : List ByteArray} {es : List S58} (hf : fitsB a b n ks es = true) (ha : a ≤ 1000000) (hb : b ≤ 1000000) (hn : n.length ≤ 500) (hk : ks.length ≤ 500) (he : es.length ≤ 100) (hx : ∀ e ∈ es, e.f2.length ≤ 1200) (hz : ∀ e ∈ es, e.f1 ≤ 1000000) : OkAns a b n ks es := by
 unfold fitsB at hf
 simp only [Bool.and_eq_true, Bool.not_eq_true', decide_eq_true_eq] at hf
 have hB : ∀ x : Int, x ≤ 1000000 → x ≤ bigA := fun x h => by unfold bigA; omega
 refine ⟨⟨hf.1, hB _ ha⟩, ⟨hf.2.1, hB _ hb⟩, by omega, long_le hf.2.2.1, by omega, long_le hf.2.2.2.1, by omega, fun e h => ?_⟩
 have h1 : entryBad e = false := by have := (List.any_eq_false.1 hf.2.2.2.2) e h; simpa using this
 unfold entryBad at h1
 simp only [Bool.or_eq_false_iff, decide_eq_false_iff_not] at h1
 have h0 : e.f0.size ≤ 4096 := by have := h1.2.1; unfold longB at this; rw [decide_eq_false_iff_not] at this; omega
 exact ⟨h0, ⟨by omega, hB _ (hz e h)⟩, by have := hx e h; omega, long_le h1.2.2⟩
theorem back_end (a b : Int) (n ks : List ByteArray) (es : List S58) (s : ByteArray) (hs : s.size ≤ 100000000) (ha : a ≤ 1000000) (hb : b ≤ 1000000) (hn : n.length ≤ 500) (hkk : ks.length ≤ 500) (he : es.length ≤ 100) (hx : ∀ e ∈ es, e.f2.length ≤ 1200) (hz : ∀ e ∈ es, e.f1 ≤ 1000000) (k : Nat) (hk : 300002 ≤ k) : becketlaw12_MsgAnswerBack.l0 k s true es.length a b n ks es = some true := by
 obtain ⟨k, rfl⟩ : ∃ k', k = k' + 1 := ⟨k - 1, by omega⟩
 have hfl : fitsB a b n ks es = true → (ansE a b n ks es).length ≤ 900000000 := fun hf => ansE_le hf hn hkk he hx
 rw [becketlaw12_MsgAnswerBack.l0, if_neg (by omega), putans_f a b n ks es 1200 (by omega) (by omega) (by omega) hx (by decide) hfl k (by omega), Option.bind_some]
 by_cases hf : fitsB a b n ks es = true ∧ (ansE a b n ks es).length ≤ 4096
 ·have hP : putA a b n ks es = strOfNums (ansE a b n ks es) := by unfold putA; rw [if_pos hf]
  have hZ : (strOfNums (ansE a b n ks es)).size = (ansE a b n ks es).length := strOfNums_size _
  rw [hP, ans_fwd (ok_fits hf.1 ha hb hn hkk he hx hz) hf.2 k (by omega), Option.bind_some]
  dsimp only
  rw [if_pos (by rfl), if_neg (by omega), sameA_f a b n ks es (by omega) (by omega) (by omega) (fun e h => by have := hx e h; omega) k (by omega), Option.bind_some, if_pos rfl]
  exact back_j2 s hs k (by omega)
 ·have hP : putA a b n ks es = strOfNums (ansE 7 0 [] [] []) := by unfold putA; rw [if_neg hf, str7]
  have hZ : (strOfNums (ansE 7 0 [] [] [])).size = (ansE 7 0 [] [] []).length := strOfNums_size _
  have h7 := len7
  obtain ⟨x, hxx⟩ := same_nil a b n ks es k (by omega)
  rw [hP, ans_fwd ok7 len7 k (by omega), Option.bind_some]
  dsimp only
  rw [if_pos (by rfl), if_neg (by omega), hxx, Option.bind_some]
  cases x with
  | true => rw [if_pos rfl]; exact back_j2 s hs k (by omega)
  | false =>
   rw [if_neg (by decide), sameA_f 7 0 [] [] [] (by simp) (by simp) (by simp) (by simp) k (by omega), Option.bind_some]
   exact back_j2 s hs k (by omega)
theorem back_l0 (a b : Int) (n ks : List ByteArray) (es : List S58) (s : ByteArray) (hs : s.size ≤ 100000000) (ha : a ≤ 1000000) (hb : b ≤ 1000000) (hn : n.length ≤ 500) (hkk : ks.length ≤ 500) (he : es.length ≤ 100) (hx : ∀ e ∈ es, e.f2.length ≤ 1200) : ∀ (q k i : Nat), q = es.length - i → i ≤ es.length → 300002 + q ≤ k → (∀ e ∈ es.take i, e.f1 ≤ 1000000) → becketlaw12_MsgAnswerBack.l0 k s true i a b n ks es = some true
 | 0, k, i, hq, hi, hk, H => by
  have : i = es.length := by omega
  subst this
  rw [List.take_length] at H
  exact back_end a b n ks es s hs ha hb hn hkk he hx H k (by omega)
 | q + 1, k, i, hq, hi, hk, H => by
  obtain ⟨k, rfl⟩ : ∃ k', k = k' + 1 := ⟨k - 1, by omega⟩
  have hlt : i < es.length := by omega
  rw [becketlaw12_MsgAnswerBack.l0, if_pos (by omega), if_pos (by omega), rdE_get es i hlt]
  by_cases h : (es[i]).f1 > 1000000
  ·rw [if_pos h]
  ·rw [if_neg h, wz' (z := (i : Int) + 1) (y := ((i + 1 : Nat) : Int)) (by omega) (by omega) (by omega)]
   refine back_l0 a b n ks es s hs ha hb hn hkk he hx q k (i + 1) (by omega) (by omega) (by omega) (fun e he' => ?_)
   rw [← List.take_append_getElem hlt] at he'
   rcases List.mem_append.1 he' with h1 | h1
   ·exact H e h1
   ·rw [List.mem_singleton] at h1
    rw [h1]; omega
theorem MsgAnswerBack (a b : Int) (n ks : List ByteArray) (es : List S58) (s : ByteArray) : ∃ k, becketlaw12_MsgAnswerBack.f k a b n ks es s = some true := by
 obtain ⟨k2, hup2, hk⟩ : ∃ k, becketlaw12_up.f (k + 1) = some true ∧ 301000 ≤ k := ⟨KZ, up_f 1010010 KB_ok (KZ + 1) (Nat.le_succ_of_le KZ_big), Nat.le_trans (by decide) KZ_big⟩
 refine ⟨k2 + 1, ?_⟩
 have hno : becketlaw12_MsgAnswerBack.j0 (k2 + 1) s true true a b n ks es = some true := by rw [becketlaw12_MsgAnswerBack.j0, if_pos rfl]
 unfold becketlaw12_MsgAnswerBack.f
 rw [hup2, Option.bind_some, she_f es (k2 + 1) (by omega), Option.bind_some]
 by_cases hs : shortE es = true
 ·obtain ⟨h1, h2⟩ := shortE_iff hs
  rw [if_pos hs]
  by_cases hn : (n.length : Int) > 500
  ·rw [if_pos hn]; exact hno
  ·rw [if_neg hn]
   by_cases hkk : (ks.length : Int) > 500
   ·rw [if_pos hkk]; exact hno
   ·rw [if_neg hkk]
    by_cases ha : a > 1000000
    ·rw [if_pos ha]; exact hno
    ·rw [if_neg ha]
     by_cases hb : b > 1000000
     ·rw [if_pos hb]; exact hno
     ·rw [if_neg hb]
      by_cases hz : (s.size : Int) > 6000
      ·rw [decide_eq_true hz]; exact hno
      ·rw [decide_eq_false hz, becketlaw12_MsgAnswerBack.j0, if_neg (by decide)]
       exact back_l0 a b n ks es s (by omega) (by omega) (by omega) (by omega) (by omega) (by omega) h2 es.length k2 0 (by omega) (by omega) (by omega) (by simp)
 ·rw [if_neg hs]; exact hno
end Go.Proofs.Ytpbbgbikebcnbaa.MsgP
