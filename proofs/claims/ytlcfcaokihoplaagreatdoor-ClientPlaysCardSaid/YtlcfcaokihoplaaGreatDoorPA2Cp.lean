-- Cut.
import Derived.Test.YtlcfcaokihoplaaGreatDoorPCCp
namespace Go.Proofs.YtlcfcaokihoplaaGreatDoor.MsgP
open Go.RowKit Go.Proofs.YtlcfcaokihoplaaGreatDoor.Mf Go.Proofs.YtlcfcaokihoplaaGreatDoor.MsgL Go.Proofs.YzW.PrintWords Go.Proofs.YzW.PrintLast Go.Proofs.YzW.PrintMore
set_option linter.unusedVariables false
set_option linter.unusedSimpArgs false
theorem rtxt_bad (l : List Int) (a : Nat) : (rtxt l a true).2.2 = true := rfl
def tr (l : List Int) (h : LOk l) : TR l := ⟨fun a b => rtxt l a b, fun b ha => (rtxt_txt h.b ha).2.2.2, fun a => rtxt_bad l a⟩
theorem rtext_r {l : List Int} (h : LOk l) {a : Nat} (ha : a ≤ l.length) (bad : Bool) : bf_.f l (a : Int) bad = some ((rtxt l a bad).1, (((rtxt l a bad).2.1 : Nat) : Int), (rtxt l a bad).2.2) := by
 unfold bf_.f
 rw [if_pos (rdOk_mk h.b h.n ha), Int.toNat_natCast]
def Ag {α : Type} (x y : α × Nat × Bool) : Prop := x.2.2 = y.2.2 ∧ (x.2.2 = false → x = y)
theorem Ag.refl {α : Type} (x : α × Nat × Bool) : Ag x x := ⟨rfl, fun _ => rfl⟩
theorem Ag.two {α : Type} {x y : α × Nat × Bool} (h1 : x.2.2 = true) (h2 : y.2.2 = true) : Ag x y := ⟨h1.trans h2.symm, fun h => by rw [h1] at h; cases h⟩
theorem Ag.or {α : Type} {x y : α × Nat × Bool} (h : Ag x y) : (x.2.2 = true ∧ y.2.2 = true) ∨ x = y := by
 cases hb : x.2.2 with
 | true => exact .inl ⟨rfl, by rw [← h.1, hb]⟩
 | false => exact .inr (h.2 hb)
theorem numOf_bad (l : List Int) (m : Int) (a : Nat) : (numOf l m a true).2.2 = true := rfl
theorem text_ag {l : List Int} (h : LOk l) {a : Nat} (ha : a ≤ l.length) (b : Bool) : Ag (txtOf l a b) (rtxt l a b) := by
 obtain ⟨h1, h2, h3, _⟩ := rtxt_txt h.b (bad := b) ha
 refine ⟨h2.symm, fun hb => ?_⟩
 have h4 := h3 hb
 generalize txtOf l a b = x at *
 generalize rtxt l a b = y at *
 obtain ⟨x1, x2, x3⟩ := x
 obtain ⟨y1, y2, y3⟩ := y
 simp only at h1 h2 h4
 rw [h1, h2, h4]
theorem ok_bytesOf (s : ByteArray) : bytesOk (bk_ s) := fun y hy => by
 unfold bk_ at hy
 obtain ⟨z, _, rfl⟩ := List.mem_map.1 hy
 exact ⟨by omega, by have := z.toNat_lt; omega⟩
theorem rdE_get (xs : List S107) (i : Nat) (h : i < xs.length) : bi_ xs (i : Int) = xs[i] := by
 unfold bi_
 rw [Int.toNat_natCast, List.getD_eq_getElem?_getD, List.getElem?_eq_getElem h]
 rfl
theorem rnumB_r {l : List Int} (h : LOk l) {m : Int} (hm : 0 ≤ m ∧ m ≤ MsgL.big31) {a : Nat} (ha : a ≤ l.length) (bad : Bool) : ae_.f l (a : Int) bad m = some ((numOf l m a bad).1, (((numOf l m a bad).2.1 : Nat) : Int), (numOf l m a bad).2.2) := by
 unfold ae_.f
 rw [if_pos ⟨rdOk_mk h.b h.n ha, hm.1, hm.2⟩, Int.toNat_natCast]
theorem rlist_l0r {l : List Int} (h : LOk l) : ∀ (n k i N a : Nat) (bad : Bool) (acc : List ByteArray), N = i + n → N ≤ 70000 → a ≤ l.length → acc.length + n ≤ 70000 → n + 1 ≤ k →
  al_.l0 k acc N i l a bad = some ((rdTs (tr l h) n a bad acc).1, (((rdTs (tr l h) n a bad acc).2.1 : Nat) : Int), (rdTs (tr l h) n a bad acc).2.2)
 | 0, k, i, N, a, bad, acc, hN, hN2, ha, hn, hk => by
  obtain ⟨k, rfl⟩ : ∃ k', k = k' + 1 := ⟨k - 1, by omega⟩
  rw [al_.l0, if_neg (by omega)]
  rfl
 | n + 1, k, i, N, a, bad, acc, hN, hN2, ha, hn, hk => by
  obtain ⟨k, rfl⟩ : ∃ k', k = k' + 1 := ⟨k - 1, by omega⟩
  rw [al_.l0, if_pos (by omega)]
  cases bad with
  | true => rw [if_pos rfl]; rfl
  | false =>
   rw [if_neg (by decide), rtext_r h ha, Option.bind_some, if_pos (by omega), wz' (z := (i : Int) + 1) (y := ((i + 1 : Nat) : Int)) (by omega) (by omega) (by omega)]
   exact (rlist_l0r h n k (i + 1) N (rtxt l a false).2.1 (rtxt l a false).2.2 (acc ++ [(rtxt l a false).1]) (by omega) hN2 ((tr l h).at_ false ha) (by rw [List.length_append, List.length_singleton]; omega) (by omega)).trans rfl
theorem rlist_r {l : List Int} (h : LOk l) {a : Nat} (ha : a ≤ l.length) (bad : Bool) (k : Nat) (hk : 70000 ≤ k) : al_.f k l a bad = some ((dx_ (tr l h) a bad).1, (((dx_ (tr l h) a bad).2.1 : Nat) : Int), (dx_ (tr l h) a bad).2.2) := by
 have hc := cnt_le h.b ha bad
 unfold al_.f
 rw [rnumB_r h (by decide) ha, Option.bind_some]
 dsimp only
 rw [hc.2]
 exact rlist_l0r h _ k 0 _ _ _ _ (by omega) (by omega) (numB_le h.b (by decide) ha bad) (by simp; omega) (by omega)
def endR (s : ByteArray) (c n : Int) (ns ks : List ByteArray) (q : List S107 × Nat × Bool) : Int × Int × List ByteArray × List ByteArray × List S107 × Bool :=
 if q.2.2 = true then (0, 0, [], [], [], false) else if q.2.1 < s.size then (0, 0, [], [], [], false) else if 4096 < s.size then (0, 0, [], [], [], false) else (c, n, ns, ks, q.1, true)
theorem rans_l0 {l : List Int} (h : LOk l) (s : ByteArray) (c n : Int) (ns ks : List ByteArray) : ∀ (m k i N a : Nat) (bad : Bool) (acc : List S107), N = i + m → N ≤ 70000 → a ≤ l.length → acc.length + m ≤ 70000 → 2 * m + 70010 ≤ k →
  ab_.l0 k s N i l a bad c n ns ks acc = some (endR s c n ns ks (rdEs (tr l h) m a bad acc))
 | 0, k, i, N, a, bad, acc, hN, hN2, ha, hn, hk => by
  obtain ⟨k, rfl⟩ : ∃ k', k = k' + 2 := ⟨k - 2, by omega⟩
  rw [ab_.l0, if_neg (by omega), ab_.j1, if_neg (by decide)]
  unfold endR rdEs
  cases bad with
  | true => rfl
  | false =>
   simp only [Bool.false_eq_true, if_false]
   by_cases hz : a < s.size
   ·rw [if_pos (by omega), if_pos hz]
   ·rw [if_neg (by omega), if_neg hz]
    by_cases h4 : 4096 < s.size
    ·rw [if_pos (by omega), if_pos h4]
    ·rw [if_neg (by omega), if_neg h4]
 | m + 1, k, i, N, a, bad, acc, hN, hN2, ha, hn, hk => by
  obtain ⟨k, rfl⟩ : ∃ k', k = k' + 2 := ⟨k - 2, by omega⟩
  rw [ab_.l0, if_pos (by omega), ab_.j1]
  cases bad with
  | true => rw [if_neg (by decide)]; rfl
  | false =>
   have h1 : (rtxt l a false).2.1 ≤ l.length := (tr l h).at_ false ha
   have h2 := numB_le h.b (m := 2147483647) (by decide) h1 (rtxt l a false).2.2
   rw [if_pos (by decide), rtext_r h ha, Option.bind_some]
   dsimp only
   rw [rnumB_r h big_ok h1, Option.bind_some]
   dsimp only
   rw [rlist_r h h2 _ k (by omega), Option.bind_some, if_pos (by omega), wz' (z := (i : Int) + 1) (y := ((i + 1 : Nat) : Int)) (by omega) (by omega) (by omega)]
   exact rans_l0 h s c n ns ks m k (i + 1) N _ _ _ (by omega) hN2 (rdE_at h.b (tr l h) false ha) (by rw [List.length_append, List.length_singleton]; omega) (by omega)
theorem rgetans_f {l : List Int} (h : LOk l) (s : ByteArray) (k : Nat) (hk : 300000 ≤ k) : ab_.f k s l = some (endR s (anC l false).1 (anN l false).1 (anNs (tr l h) false).1 (anKs (tr l h) false).1 (anEs (tr l h) false)) := by
 have hM : (anM (tr l h) false).1.toNat ≤ 65536 ∧ (anM (tr l h) false).1 = (((anM (tr l h) false).1.toNat : Nat) : Int) := cnt_le h.b (anKs_at h.b (tr l h) false) (anKs (tr l h) false).2.2
 have g0 : ae_.f l 0 false 2147483647 = some ((anC l false).1, (((anC l false).2.1 : Nat) : Int), (anC l false).2.2) := rnumB_r h big_ok (Nat.zero_le _) _
 have g1 := rnumB_r h big_ok (anC_at h.b false) (anC l false).2.2
 have g2 := rlist_r h (anN_at h.b false) (anN l false).2.2 k (by omega)
 have g3 := rlist_r h (anNs_at h.b (tr l h) false) (anNs (tr l h) false).2.2 k (by omega)
 have g4 : ae_.f l (((anKs (tr l h) false).2.1 : Nat) : Int) (anKs (tr l h) false).2.2 65536 = some ((anM (tr l h) false).1, (((anM (tr l h) false).2.1 : Nat) : Int), (anM (tr l h) false).2.2) := rnumB_r h (m := 65536) (by decide) (anKs_at h.b (tr l h) false) (anKs (tr l h) false).2.2
 unfold ab_.f
 rw [g0, Option.bind_some]
 dsimp only
 rw [g1, Option.bind_some]
 dsimp only
 have e1 : numOf l 2147483647 (anC l false).2.1 (anC l false).2.2 = anN l false := rfl
 rw [e1, g2, Option.bind_some]
 dsimp only
 have e2 : dx_ (tr l h) (anN l false).2.1 (anN l false).2.2 = anNs (tr l h) false := rfl
 rw [e2, g3, Option.bind_some]
 dsimp only
 have e3 : dx_ (tr l h) (anNs (tr l h) false).2.1 (anNs (tr l h) false).2.2 = anKs (tr l h) false := rfl
 rw [e3, g4, Option.bind_some]
 dsimp only
 rw [hM.2]
 exact rans_l0 h s _ _ _ _ _ k 0 _ _ _ _ (by omega) (by omega) (anM_at h.b (tr l h) false) (by simp; omega) (by omega)
theorem rdTs_bad {l : List Int} (t : TR l) : ∀ (m a : Nat) (acc : List ByteArray), (rdTs t m a true acc).2.2 = true
 | 0, _, _ => rfl
 | _ + 1, _, _ => rfl
theorem rdList_bad {l : List Int} (t : TR l) (a : Nat) : (dx_ t a true).2.2 = true := by
 unfold dx_
 rw [numOf_bad]
 exact rdTs_bad t _ _ _
theorem rdEs_bad {l : List Int} (t : TR l) : ∀ (m a : Nat) (acc : List S107), (rdEs t m a true acc).2.2 = true
 | 0, _, _ => rfl
 | _ + 1, _, _ => rfl
theorem ks_bad {l : List Int} (t : TR l) (b0 : Bool) (h : (anKs t b0).2.2 = true) : (anEs t b0).2.2 = true := by
 unfold anEs anM
 rw [h, numOf_bad, rdEs_bad]
theorem ns_bad {l : List Int} (t : TR l) (b0 : Bool) (h : (anNs t b0).2.2 = true) : (anEs t b0).2.2 = true := by
 refine ks_bad t b0 ?_
 unfold anKs
 rw [h, rdList_bad]
theorem an_bad {l : List Int} (t : TR l) : (anEs t true).2.2 = true := by
 refine ns_bad t true ?_
 unfold anNs anN anC
 rw [numOf_bad, numOf_bad, rdList_bad]
theorem ts_ag {l : List Int} (h : LOk l) : ∀ (m a : Nat) (b : Bool) (acc : List ByteArray), a ≤ l.length → Ag (rdTs (tp l h) m a b acc) (rdTs (tr l h) m a b acc)
 | 0, _, _, _, _ => Ag.refl _
 | m + 1, a, b, acc, ha => by
  rw [rdTs, rdTs]
  cases b with
  | true => exact Ag.refl _
  | false =>
   rw [if_neg (by decide), if_neg (by decide)]
   have ht : Ag ((tp l h).T a false) ((tr l h).T a false) := text_ag h ha false
   rcases ht.or with ⟨e1, e2⟩ | e
   ·rw [e1, e2]
    exact Ag.two (rdTs_bad _ _ _ _) (rdTs_bad _ _ _ _)
   ·rw [← e]
    exact ts_ag h m _ _ _ ((tp l h).at_ false ha)
theorem list_ag {l : List Int} (h : LOk l) {a : Nat} (ha : a ≤ l.length) (b : Bool) : Ag (dx_ (tp l h) a b) (dx_ (tr l h) a b) := ts_ag h _ _ _ _ (numB_le h.b (by decide) ha b)
theorem e_ag {l : List Int} (h : LOk l) {a : Nat} (ha : a ≤ l.length) (b : Bool) : Ag (rdE (tp l h) a b) (rdE (tr l h) a b) := by
 have ht : Ag ((tp l h).T a b) ((tr l h).T a b) := text_ag h ha b
 rcases ht.or with ⟨e1, e2⟩ | e
 ·refine Ag.two ?_ ?_
  ·show (dx_ (tp l h) _ (numOf l bigA _ ((tp l h).T a b).2.2).2.2).2.2 = true
   rw [e1, numOf_bad, rdList_bad]
  ·show (dx_ (tr l h) _ (numOf l bigA _ ((tr l h).T a b).2.2).2.2).2.2 = true
   rw [e2, numOf_bad, rdList_bad]
 ·have h1 : ((tp l h).T a b).2.1 ≤ l.length := (tp l h).at_ b ha
  have h2 := numB_le h.b (m := bigA) (by decide) h1 ((tp l h).T a b).2.2
  have hl := list_ag h h2 (numOf l bigA ((tp l h).T a b).2.1 ((tp l h).T a b).2.2).2.2
  unfold rdE
  dsimp only
  rw [← e]
  refine ⟨hl.1, fun hb => ?_⟩
  have := hl.2 hb
  rw [this]
theorem es_ag {l : List Int} (h : LOk l) : ∀ (m a : Nat) (b : Bool) (acc : List S107), a ≤ l.length → Ag (rdEs (tp l h) m a b acc) (rdEs (tr l h) m a b acc)
 | 0, _, _, _, _ => Ag.refl _
 | m + 1, a, b, acc, ha => by
  rw [rdEs, rdEs]
  cases b with
  | true => exact Ag.refl _
  | false =>
   rw [if_neg (by decide), if_neg (by decide)]
   rcases (e_ag h ha false).or with ⟨e1, e2⟩ | e
   ·rw [e1, e2]
    exact Ag.two (rdEs_bad _ _ _ _) (rdEs_bad _ _ _ _)
   ·rw [← e]
    exact es_ag h m _ _ _ (rdE_at h.b (tp l h) false ha)
theorem an_ag {l : List Int} (h : LOk l) (b0 : Bool) : ((anEs (tp l h) b0).2.2 = true ∧ (anEs (tr l h) b0).2.2 = true) ∨ (anNs (tp l h) b0 = anNs (tr l h) b0 ∧ anKs (tp l h) b0 = anKs (tr l h) b0 ∧ anEs (tp l h) b0 = anEs (tr l h) b0) := by
 have h1 : Ag (anNs (tp l h) b0) (anNs (tr l h) b0) := list_ag h (anN_at h.b b0) _
 rcases h1.or with ⟨e1, e2⟩ | e
 ·exact .inl ⟨ns_bad _ _ e1, ns_bad _ _ e2⟩
 have h2 : Ag (anKs (tp l h) b0) (anKs (tr l h) b0) := by
  have := list_ag h (anNs_at h.b (tp l h) b0) (anNs (tp l h) b0).2.2
  unfold anKs
  rw [← e]
  exact this
 rcases h2.or with ⟨e1, e2⟩ | e2
 ·exact .inl ⟨ks_bad _ _ e1, ks_bad _ _ e2⟩
 have h3 : Ag (anEs (tp l h) b0) (anEs (tr l h) b0) := by
  have := es_ag h (anM (tp l h) b0).1.toNat (anM (tp l h) b0).2.1 (anM (tp l h) b0).2.2 [] (anM_at h.b (tp l h) b0)
  have em : anM (tr l h) b0 = anM (tp l h) b0 := by unfold anM; rw [e2]
  unfold anEs
  rw [em]
  exact this
 rcases h3.or with ⟨e1, e3⟩ | e3
 ·exact .inl ⟨e1, e3⟩
 ·exact .inr ⟨e, e2, e3⟩
theorem rdTs_len {l : List Int} (t : TR l) : ∀ (m a : Nat) (b : Bool) (acc : List ByteArray), (rdTs t m a b acc).1.length ≤ acc.length + m
 | 0, _, _, acc => by rw [rdTs]; exact Nat.le_refl _
 | m + 1, a, b, acc => by
  rw [rdTs]
  split
  ·simp only; omega
  ·have := rdTs_len t m (t.T a b).2.1 (t.T a b).2.2 (acc ++ [(t.T a b).1])
   rw [List.length_append, List.length_singleton] at this
   omega
theorem rdList_len {l : List Int} (hb : bytesOk l) (t : TR l) {a : Nat} (ha : a ≤ l.length) (b : Bool) : (dx_ t a b).1.length ≤ 65536 := by
 have h1 := rdTs_len t (numOf l 65536 a b).1.toNat (numOf l 65536 a b).2.1 (numOf l 65536 a b).2.2 []
 have h2 := cnt_le hb ha b
 rw [List.length_nil] at h1
 unfold dx_
 omega
theorem rdEs_len {l : List Int} (hb : bytesOk l) (t : TR l) : ∀ (m a : Nat) (b : Bool) (acc : List S107), a ≤ l.length → (∀ e ∈ acc, e.f2.length ≤ 65536) → (rdEs t m a b acc).1.length ≤ acc.length + m ∧ ∀ e ∈ (rdEs t m a b acc).1, e.f2.length ≤ 65536
 | 0, _, _, acc, _, hacc => by rw [rdEs]; exact ⟨Nat.le_refl _, hacc⟩
 | m + 1, a, b, acc, ha, hacc => by
  rw [rdEs]
  split
  ·exact ⟨by simp only; omega, hacc⟩
  ·have := rdEs_len hb t m (rdE t a b).2.1 (rdE t a b).2.2 (acc ++ [(rdE t a b).1]) (rdE_at hb t b ha) (fun e he => by
    rcases List.mem_append.1 he with h | h
    ·exact hacc e h
    ·rw [List.mem_singleton] at h
     subst h
     exact rdList_len hb t (numB_le hb (by decide) (t.at_ b ha) _) _)
   rw [List.length_append, List.length_singleton] at this
   exact ⟨by omega, this.2⟩
theorem anEs_len {l : List Int} (hb : bytesOk l) (t : TR l) (b0 : Bool) : (anEs t b0).1.length ≤ 65536 ∧ ∀ e ∈ (anEs t b0).1, e.f2.length ≤ 65536 := by
 have h1 := rdEs_len hb t (anM t b0).1.toNat (anM t b0).2.1 (anM t b0).2.2 [] (anM_at hb t b0) (by simp)
 have h2 : (anM t b0).1.toNat ≤ 65536 := (cnt_le hb (anKs_at hb t b0) _).1
 rw [List.length_nil] at h1
 exact ⟨by unfold anEs; omega, h1.2⟩
theorem sameS_l0 (l : List ByteArray) (hl : l.length ≤ 100000000) : ∀ (q k i : Nat), q = l.length - i → i ≤ l.length → q + 1 ≤ k → as_.l0 k l l i = some true
 | 0, k, i, hq, hi, hk => by
  obtain ⟨k, rfl⟩ : ∃ k', k = k' + 1 := ⟨k - 1, by omega⟩
  rw [as_.l0, if_neg (by omega)]
 | q + 1, k, i, hq, hi, hk => by
  obtain ⟨k, rfl⟩ : ∃ k', k = k' + 1 := ⟨k - 1, by omega⟩
  rw [as_.l0, if_pos (by omega), if_pos (by omega), if_pos (by omega), if_pos rfl, wz' (z := (i : Int) + 1) (y := ((i + 1 : Nat) : Int)) (by omega) (by omega) (by omega)]
  exact sameS_l0 l hl q k (i + 1) (by omega) (by omega) (by omega)
theorem sameS_f (l : List ByteArray) (hl : l.length ≤ 65536) (k : Nat) (hk : 65540 ≤ k) : as_.f k l l = some true := by
 unfold as_.f
 rw [if_pos rfl]
 exact sameS_l0 l (by omega) l.length k 0 (by omega) (by omega) (by omega)
theorem sameE_l0 (l : List S107) (hl : l.length ≤ 65536) (hx : ∀ e ∈ l, e.f2.length ≤ 65536) : ∀ (q k i : Nat), q = l.length - i → i ≤ l.length → q + 65550 ≤ k → ad_.l0 k l l i = some true
 | 0, k, i, hq, hi, hk => by
  obtain ⟨k, rfl⟩ : ∃ k', k = k' + 1 := ⟨k - 1, by omega⟩
  rw [ad_.l0, if_neg (by omega)]
 | q + 1, k, i, hq, hi, hk => by
  obtain ⟨k, rfl⟩ : ∃ k', k = k' + 1 := ⟨k - 1, by omega⟩
  have hlt : i < l.length := by omega
  have he := hx _ (List.getElem_mem hlt)
  have hs : cs_.f k (l[i]).f0 (l[i]).f1 (l[i]).f2 (l[i]).f0 (l[i]).f1 (l[i]).f2 = some true := by
   unfold cs_.f
   rw [if_pos rfl, if_pos rfl, sameS_f _ he k (by omega)]
   rfl
  rw [ad_.l0, if_pos (by omega), if_pos (by omega), if_pos (by omega), rdE_get l i hlt, hs, Option.bind_some, if_pos rfl, wz' (z := (i : Int) + 1) (y := ((i + 1 : Nat) : Int)) (by omega) (by omega) (by omega)]
  exact sameE_l0 l hl hx q k (i + 1) (by omega) (by omega) (by omega)
theorem sameE_f (l : List S107) (hl : l.length ≤ 65536) (hx : ∀ e ∈ l, e.f2.length ≤ 65536) (k : Nat) (hk : 140000 ≤ k) : ad_.f k l l = some true := by
 unfold ad_.f
 rw [if_pos rfl]
 exact sameE_l0 l hl hx l.length k 0 (by omega) (by omega) (by omega)
theorem LOk_str (s : ByteArray) (hs : s.size ≤ 100000000) : LOk (bk_ s) := ⟨ok_bytesOf s, by rw [bytesOf_length]; exact hs⟩
theorem getans (s : ByteArray) (hs : s.size ≤ 100000000) (k : Nat) (hk : 300000 ≤ k) :
  (msg_GetAnswer.f k s = some (0, 0, [], [], [], some 2) ∧ becketref12_GetAnswer.f k s = some (0, 0, [], [], [], false)) ∨
  ∃ c n ns ks es, msg_GetAnswer.f k s = some (c, n, ns, ks, es, none) ∧ becketref12_GetAnswer.f k s = some (c, n, ns, ks, es, true) ∧ ns.length ≤ 65536 ∧ ks.length ≤ 65536 ∧ es.length ≤ 65536 ∧ ∀ e ∈ es, e.f2.length ≤ 65536 := by
 have h := LOk_str s hs
 unfold msg_GetAnswer.f becketref12_GetAnswer.f
 rw [if_pos hs, if_pos hs, getans_f h s k hk, rgetans_f h s k hk]
 by_cases hl : longB s = true
 ·left
  rw [hl]
  have h4 : 4096 < s.size := of_decide_eq_true hl
  refine ⟨?_, ?_⟩
  ·unfold endA
   rw [if_pos (an_bad _)]
  ·unfold endR
   split
   ·rfl
   ·split
    ·rfl
    ·rfl
 ·rw [Bool.not_eq_true] at hl
  rw [hl]
  have h4 : ¬ 4096 < s.size := of_decide_eq_false hl
  unfold endA endR
  rcases an_ag h false with ⟨e1, e2⟩ | ⟨e1, e2, e3⟩
  ·left
   rw [if_pos e1, if_pos e2]
   exact ⟨rfl, rfl⟩
  ·rw [← e1, ← e2, ← e3]
   by_cases hb : (anEs (tp (bk_ s) h) false).2.2 = true
   ·left
    rw [if_pos hb, if_pos hb]
    exact ⟨rfl, rfl⟩
   ·rw [if_neg hb, if_neg hb]
    by_cases ha : (anEs (tp (bk_ s) h) false).2.1 < s.size
    ·left
     rw [if_pos ha, if_pos ha]
     exact ⟨rfl, rfl⟩
    ·right
     rw [if_neg ha, if_neg ha, if_neg h4]
     exact ⟨_, _, _, _, _, rfl, rfl, rdList_len h.b _ (anN_at h.b false) _, rdList_len h.b _ (anNs_at h.b _ false) _, anEs_len h.b _ false⟩
theorem alike_f (a b : Int) (n ks : List ByteArray) (es : List S107) (hn : n.length ≤ 65536) (hk' : ks.length ≤ 65536) (he : es.length ≤ 65536) (hx : ∀ e ∈ es, e.f2.length ≤ 65536) (k : Nat) (hk : 140000 ≤ k) : becketref09_Alike.f k a b n ks es a b n ks es = some true := by
 unfold becketref09_Alike.f
 rw [if_pos rfl, if_pos rfl, sameS_f n hn k (by omega), Option.bind_some, if_pos rfl, sameS_f ks hk' k (by omega), Option.bind_some, if_pos rfl, sameE_f es he hx k hk]
 rfl
end Go.Proofs.YtlcfcaokihoplaaGreatDoor.MsgP
