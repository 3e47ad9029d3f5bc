-- Cut by a program of this session (wip/shake.py) out of a text of this seat: what this claim doesn't reach is struck out. Lean checks it.
import Derived.Test.YtpbbgbikebcnbaaPureNCCx
namespace Go.Proofs.Ytpbbgbikebcnbaa.MsgP
open Go.RowKit Go.Proofs.Ytpbbgbikebcnbaa.Ms Go.Proofs.Ytpbbgbikebcnbaa.Mw Go.Proofs.Ytpbbgbikebcnbaa.MsgL Go.Proofs.YtpbbgbikebcnbaaW.PrintWords Go.Proofs.YtpbbgbikebcnbaaW.PrintLast Go.Proofs.YtpbbgbikebcnbaaW.PrintMore
set_option linter.unusedVariables false
set_option linter.unusedSimpArgs false
theorem rdTs_bad {l : List Int} (t : TR l) : ∀ (m a : Nat) (acc : List ByteArray), (rdTs t m a true acc).2.2 = true
 | 0, _, _ => rfl
 | _ + 1, _, _ => rfl
theorem rdList_bad {l : List Int} (t : TR l) (a : Nat) : (rdList t a true).2.2 = true := by
 unfold rdList
 rw [numOf_bad]
 exact rdTs_bad t _ _ _
theorem rdEs_bad {l : List Int} (t : TR l) : ∀ (m a : Nat) (acc : List S58), (rdEs t m a true acc).2.2 = true
 | 0, _, _ => rfl
 | _ + 1, _, _ => rfl
theorem ks_bad {l : List Int} (t : TR l) (b0 : Bool) (h : (anKs t b0).2.2 = true) : (anEs t b0).2.2 = true := by
 unfold anEs anM
 rw [h, numOf_bad, rdEs_bad]
theorem ns_bad {l : List Int} (t : TR l) (b0 : Bool) (h : (anNs t b0).2.2 = true) : (anEs t b0).2.2 = true := by
 refine ks_bad t b0 ?_
 unfold anKs
 rw [h, rdList_bad]
theorem an_bad {l : List Int} (t : TR l) : (anEs t true).2.2 = true := by
 refine ns_bad t true ?_
 unfold anNs anN anC
 rw [numOf_bad, numOf_bad, rdList_bad]
theorem ts_ag {l : List Int} (h : LOk l) : ∀ (m a : Nat) (b : Bool) (acc : List ByteArray), a ≤ l.length → Ag (rdTs (tp l h) m a b acc) (rdTs (tr l h) m a b acc)
 | 0, _, _, _, _ => Ag.refl _
 | m + 1, a, b, acc, ha => by
  rw [rdTs, rdTs]
  cases b with
  | true => exact Ag.refl _
  | false =>
   rw [if_neg (by decide), if_neg (by decide)]
   have ht : Ag ((tp l h).T a false) ((tr l h).T a false) := text_ag h ha false
   rcases ht.or with ⟨e1, e2⟩ | e
   ·rw [e1, e2]
    exact Ag.two (rdTs_bad _ _ _ _) (rdTs_bad _ _ _ _)
   ·rw [← e]
    exact ts_ag h m _ _ _ ((tp l h).at_ false ha)
theorem list_ag {l : List Int} (h : LOk l) {a : Nat} (ha : a ≤ l.length) (b : Bool) : Ag (rdList (tp l h) a b) (rdList (tr l h) a b) := ts_ag h _ _ _ _ (numB_le h.b (by decide) ha b)
theorem e_ag {l : List Int} (h : LOk l) {a : Nat} (ha : a ≤ l.length) (b : Bool) : Ag (rdE (tp l h) a b) (rdE (tr l h) a b) := by
 have ht : Ag ((tp l h).T a b) ((tr l h).T a b) := text_ag h ha b
 rcases ht.or with ⟨e1, e2⟩ | e
 ·refine Ag.two ?_ ?_
  ·show (rdList (tp l h) _ (numOf l bigA _ ((tp l h).T a b).2.2).2.2).2.2 = true
   rw [e1, numOf_bad, rdList_bad]
  ·show (rdList (tr l h) _ (numOf l bigA _ ((tr l h).T a b).2.2).2.2).2.2 = true
   rw [e2, numOf_bad, rdList_bad]
 ·have h1 : ((tp l h).T a b).2.1 ≤ l.length := (tp l h).at_ b ha
  have h2 := numB_le h.b (m := bigA) (by decide) h1 ((tp l h).T a b).2.2
  have hl := list_ag h h2 (numOf l bigA ((tp l h).T a b).2.1 ((tp l h).T a b).2.2).2.2
  unfold rdE
  dsimp only
  rw [← e]
  refine ⟨hl.1, fun hb => ?_⟩
  have := hl.2 hb
  rw [this]
theorem es_ag {l : List Int} (h : LOk l) : ∀ (m a : Nat) (b : Bool) (acc : List S58), a ≤ l.length → Ag (rdEs (tp l h) m a b acc) (rdEs (tr l h) m a b acc)
 | 0, _, _, _, _ => Ag.refl _
 | m + 1, a, b, acc, ha => by
  rw [rdEs, rdEs]
  cases b with
  | true => exact Ag.refl _
  | false =>
   rw [if_neg (by decide), if_neg (by decide)]
   rcases (e_ag h ha false).or with ⟨e1, e2⟩ | e
   ·rw [e1, e2]
    exact Ag.two (rdEs_bad _ _ _ _) (rdEs_bad _ _ _ _)
   ·rw [← e]
    exact es_ag h m _ _ _ (rdE_at h.b (tp l h) false ha)
theorem an_ag {l : List Int} (h : LOk l) (b0 : Bool) : ((anEs (tp l h) b0).2.2 = true ∧ (anEs (tr l h) b0).2.2 = true) ∨ (anNs (tp l h) b0 = anNs (tr l h) b0 ∧ anKs (tp l h) b0 = anKs (tr l h) b0 ∧ anEs (tp l h) b0 = anEs (tr l h) b0) := by
 have h1 : Ag (anNs (tp l h) b0) (anNs (tr l h) b0) := list_ag h (anN_at h.b b0) _
 rcases h1.or with ⟨e1, e2⟩ | e
 ·exact .inl ⟨ns_bad _ _ e1, ns_bad _ _ e2⟩
 have h2 : Ag (anKs (tp l h) b0) (anKs (tr l h) b0) := by
  have := list_ag h (anNs_at h.b (tp l h) b0) (anNs (tp l h) b0).2.2
  unfold anKs
  rw [← e]
  exact this
 rcases h2.or with ⟨e1, e2⟩ | e2
 ·exact .inl ⟨ks_bad _ _ e1, ks_bad _ _ e2⟩
 have h3 : Ag (anEs (tp l h) b0) (anEs (tr l h) b0) := by
  have := es_ag h (anM (tp l h) b0).1.toNat (anM (tp l h) b0).2.1 (anM (tp l h) b0).2.2 [] (anM_at h.b (tp l h) b0)
  have em : anM (tr l h) b0 = anM (tp l h) b0 := by unfold anM; rw [e2]
  unfold anEs
  rw [em]
  exact this
 rcases h3.or with ⟨e1, e3⟩ | e3
 ·exact .inl ⟨e1, e3⟩
 ·exact .inr ⟨e, e2, e3⟩
theorem rdTs_len {l : List Int} (t : TR l) : ∀ (m a : Nat) (b : Bool) (acc : List ByteArray), (rdTs t m a b acc).1.length ≤ acc.length + m
 | 0, _, _, acc => by rw [rdTs]; exact Nat.le_refl _
 | m + 1, a, b, acc => by
  rw [rdTs]
  split
  ·simp only; omega
  ·have := rdTs_len t m (t.T a b).2.1 (t.T a b).2.2 (acc ++ [(t.T a b).1])
   rw [List.length_append, List.length_singleton] at this
   omega
theorem rdList_len {l : List Int} (hb : bytesOk l) (t : TR l) {a : Nat} (ha : a ≤ l.length) (b : Bool) : (rdList t a b).1.length ≤ 65536 := by
 have h1 := rdTs_len t (numOf l 65536 a b).1.toNat (numOf l 65536 a b).2.1 (numOf l 65536 a b).2.2 []
 have h2 := cnt_le hb ha b
 rw [List.length_nil] at h1
 unfold rdList
 omega
theorem rdEs_len {l : List Int} (hb : bytesOk l) (t : TR l) : ∀ (m a : Nat) (b : Bool) (acc : List S58), a ≤ l.length → (∀ e ∈ acc, e.f2.length ≤ 65536) → (rdEs t m a b acc).1.length ≤ acc.length + m ∧ ∀ e ∈ (rdEs t m a b acc).1, e.f2.length ≤ 65536
 | 0, _, _, acc, _, hacc => by rw [rdEs]; exact ⟨Nat.le_refl _, hacc⟩
 | m + 1, a, b, acc, ha, hacc => by
  rw [rdEs]
  split
  ·exact ⟨by simp only; omega, hacc⟩
  ·have := rdEs_len hb t m (rdE t a b).2.1 (rdE t a b).2.2 (acc ++ [(rdE t a b).1]) (rdE_at hb t b ha) (fun e he => by
    rcases List.mem_append.1 he with h | h
    ·exact hacc e h
    ·rw [List.mem_singleton] at h
     subst h
     exact rdList_len hb t (numB_le hb (by decide) (t.at_ b ha) _) _)
   rw [List.length_append, List.length_singleton] at this
   exact ⟨by omega, this.2⟩
theorem anEs_len {l : List Int} (hb : bytesOk l) (t : TR l) (b0 : Bool) : (anEs t b0).1.length ≤ 65536 ∧ ∀ e ∈ (anEs t b0).1, e.f2.length ≤ 65536 := by
 have h1 := rdEs_len hb t (anM t b0).1.toNat (anM t b0).2.1 (anM t b0).2.2 [] (anM_at hb t b0) (by simp)
 have h2 : (anM t b0).1.toNat ≤ 65536 := (cnt_le hb (anKs_at hb t b0) _).1
 rw [List.length_nil] at h1
 exact ⟨by unfold anEs; omega, h1.2⟩
theorem sameS_l0 (l : List ByteArray) (hl : l.length ≤ 100000000) : ∀ (q k i : Nat), q = l.length - i → i ≤ l.length → q + 1 ≤ k → becketref03_Same.l0 k l l i = some true
 | 0, k, i, hq, hi, hk => by
  obtain ⟨k, rfl⟩ : ∃ k', k = k' + 1 := ⟨k - 1, by omega⟩
  rw [becketref03_Same.l0, if_neg (by omega)]
 | q + 1, k, i, hq, hi, hk => by
  obtain ⟨k, rfl⟩ : ∃ k', k = k' + 1 := ⟨k - 1, by omega⟩
  rw [becketref03_Same.l0, if_pos (by omega), if_pos (by omega), if_pos (by omega), if_pos rfl, wz' (z := (i : Int) + 1) (y := ((i + 1 : Nat) : Int)) (by omega) (by omega) (by omega)]
  exact sameS_l0 l hl q k (i + 1) (by omega) (by omega) (by omega)
theorem sameS_f (l : List ByteArray) (hl : l.length ≤ 65536) (k : Nat) (hk : 65540 ≤ k) : becketref03_Same.f k l l = some true := by
 unfold becketref03_Same.f
 rw [if_pos rfl]
 exact sameS_l0 l (by omega) l.length k 0 (by omega) (by omega) (by omega)
theorem sameE_l0 (l : List S58) (hl : l.length ≤ 65536) (hx : ∀ e ∈ l, e.f2.length ≤ 65536) : ∀ (q k i : Nat), q = l.length - i → i ≤ l.length → q + 65550 ≤ k → becketref04_SameAll.l0 k l l i = some true
 | 0, k, i, hq, hi, hk => by
  obtain ⟨k, rfl⟩ : ∃ k', k = k' + 1 := ⟨k - 1, by omega⟩
  rw [becketref04_SameAll.l0, if_neg (by omega)]
 | q + 1, k, i, hq, hi, hk => by
  obtain ⟨k, rfl⟩ : ∃ k', k = k' + 1 := ⟨k - 1, by omega⟩
  have hlt : i < l.length := by omega
  have he := hx _ (List.getElem_mem hlt)
  have hs : becketref04_Same.f k (l[i]).f0 (l[i]).f1 (l[i]).f2 (l[i]).f0 (l[i]).f1 (l[i]).f2 = some true := by
   unfold becketref04_Same.f
   rw [if_pos rfl, if_pos rfl, sameS_f _ he k (by omega)]
   rfl
  rw [becketref04_SameAll.l0, if_pos (by omega), if_pos (by omega), if_pos (by omega), rdE_get l i hlt, hs, Option.bind_some, if_pos rfl, wz' (z := (i : Int) + 1) (y := ((i + 1 : Nat) : Int)) (by omega) (by omega) (by omega)]
  exact sameE_l0 l hl hx q k (i + 1) (by omega) (by omega) (by omega)
theorem sameE_f (l : List S58) (hl : l.length ≤ 65536) (hx : ∀ e ∈ l, e.f2.length ≤ 65536) (k : Nat) (hk : 140000 ≤ k) : becketref04_SameAll.f k l l = some true := by
 unfold becketref04_SameAll.f
 rw [if_pos rfl]
 exact sameE_l0 l hl hx l.length k 0 (by omega) (by omega) (by omega)
theorem sameA_f (a b : Int) (n ks : List ByteArray) (es : List S58) (hn : n.length ≤ 65536) (hk' : ks.length ≤ 65536) (he : es.length ≤ 65536) (hx : ∀ e ∈ es, e.f2.length ≤ 65536) (k : Nat) (hk : 140000 ≤ k) : becketlaw12_same.f k a b n ks es a b n ks es = some true := by
 unfold becketlaw12_same.f becketref09_Alike.f
 rw [if_pos rfl, if_pos rfl, sameS_f n hn k (by omega), Option.bind_some, if_pos rfl, sameS_f ks hk' k (by omega), Option.bind_some, if_pos rfl, sameE_f es he hx k hk]
 rfl
theorem LOk_str (s : ByteArray) (hs : s.size ≤ 100000000) : LOk (bytesOf s) := ⟨ok_bytesOf s, by rw [bytesOf_length]; exact hs⟩
theorem getans (s : ByteArray) (hs : s.size ≤ 100000000) (k : Nat) (hk : 300000 ≤ k) :
  (msg_GetAnswer.f k s = some (0, 0, [], [], [], some 2) ∧ becketref12_GetAnswer.f k s = some (0, 0, [], [], [], false)) ∨
  ∃ c n ns ks es, msg_GetAnswer.f k s = some (c, n, ns, ks, es, none) ∧ becketref12_GetAnswer.f k s = some (c, n, ns, ks, es, true) ∧ ns.length ≤ 65536 ∧ ks.length ≤ 65536 ∧ es.length ≤ 65536 ∧ ∀ e ∈ es, e.f2.length ≤ 65536 := by
 have h := LOk_str s hs
 unfold msg_GetAnswer.f becketref12_GetAnswer.f
 rw [if_pos hs, if_pos hs, getans_f h s k hk, rgetans_f h s k hk]
 by_cases hl : longB s = true
 ·left
  rw [hl]
  have h4 : 4096 < s.size := of_decide_eq_true hl
  refine ⟨?_, ?_⟩
  ·unfold endA
   rw [if_pos (an_bad _)]
  ·unfold endR
   split
   ·rfl
   ·split
    ·rfl
    ·rfl
 ·rw [Bool.not_eq_true] at hl
  rw [hl]
  have h4 : ¬ 4096 < s.size := of_decide_eq_false hl
  unfold endA endR
  rcases an_ag h false with ⟨e1, e2⟩ | ⟨e1, e2, e3⟩
  ·left
   rw [if_pos e1, if_pos e2]
   exact ⟨rfl, rfl⟩
  ·rw [← e1, ← e2, ← e3]
   by_cases hb : (anEs (tp (bytesOf s) h) false).2.2 = true
   ·left
    rw [if_pos hb, if_pos hb]
    exact ⟨rfl, rfl⟩
   ·rw [if_neg hb, if_neg hb]
    by_cases ha : (anEs (tp (bytesOf s) h) false).2.1 < s.size
    ·left
     rw [if_pos ha, if_pos ha]
     exact ⟨rfl, rfl⟩
    ·right
     rw [if_neg ha, if_neg ha, if_neg h4]
     exact ⟨_, _, _, _, _, rfl, rfl, rdList_len h.b _ (anN_at h.b false) _, rdList_len h.b _ (anNs_at h.b _ false) _, anEs_len h.b _ false⟩
theorem flat_le {α : Type} (f : α → List Int) (b : Nat) (l : List α) (h : ∀ x ∈ l, (f x).length ≤ b) (m : Nat) (hm : l.length ≤ m) : (l.flatMap f).length ≤ b * m := Nat.le_trans (flat_len f b l h) (Nat.mul_le_mul_left b hm)
theorem long_le {l : List ByteArray} (h : l.any longB = false) : ∀ s ∈ l, s.size ≤ 4096 := fun s hs => by
 have := (List.any_eq_false.1 h) s hs
 unfold longB at this
 rw [decide_eq_true_eq] at this
 omega
theorem listE_le {l : List ByteArray} (hs : ∀ s ∈ l, s.size ≤ 4096) {m : Nat} (hm : l.length ≤ m) (hm2 : m ≤ 2000) : (listE l).length ≤ 10 + 5010 * m := by
 unfold listE
 have h1 := flat_le txt 5010 l (fun s h => txt_len (by have := hs s h; omega)) m hm
 have h2 := len_enc (n := l.length) (by omega)
 rw [List.length_append]
 omega
theorem entryE_le {e : S58} (h : entryBad e = false) (hm : e.f2.length ≤ 1200) : (entryE e).length ≤ 6020030 := by
 unfold entryBad at h
 simp only [Bool.or_eq_false_iff, decide_eq_false_iff_not] at h
 have h0 : e.f0.size ≤ 4096 := by have := h.2.1; unfold longB at this; rw [decide_eq_false_iff_not] at this; omega
 have h1 := txt_len (s := e.f0) (by omega)
 have h2 := encZ_len e.f1
 have h3 := listE_le (long_le h.2.2) hm (by omega)
 unfold entryE
 rw [List.length_append, List.length_append]
 omega
theorem ansE_le {a b : Int} {n ks : List ByteArray} {es : List S58} (hf : fitsB a b n ks es = true) (hn : n.length ≤ 500) (hk : ks.length ≤ 500) (he : es.length ≤ 100) (hx : ∀ e ∈ es, e.f2.length ≤ 1200) : (ansE a b n ks es).length ≤ 900000000 := by
 unfold fitsB at hf
 simp only [Bool.and_eq_true, Bool.not_eq_true'] at hf
 have h1 := encZ_len a
 have h2 := encZ_len b
 have h3 := listE_le (long_le hf.2.2.1) hn (by omega)
 have h4 := listE_le (long_le hf.2.2.2.1) hk (by omega)
 have h5 := len_enc (n := es.length) (by omega)
 have h6 := flat_le entryE 6020030 es (fun e h => entryE_le (by have := (List.any_eq_false.1 hf.2.2.2.2) e h; simpa using this) (hx e h)) 100 he
 unfold ansE
 rw [List.length_append, List.length_append, List.length_append, List.length_append, List.length_append]
 omega
theorem shortE_iff {es : List S58} (h : shortE es = true) : es.length ≤ 100 ∧ ∀ e ∈ es, e.f2.length ≤ 1200 := by
 unfold shortE at h
 simp only [Bool.and_eq_true, decide_eq_true_eq, List.all_eq_true] at h
 refine ⟨h.1, fun e he => ?_⟩
 have := h.2 e he
 unfold shortE1 at this
 simp only [Bool.and_eq_true, decide_eq_true_eq] at this
 exact this.2.1
end Go.Proofs.Ytpbbgbikebcnbaa.MsgP
