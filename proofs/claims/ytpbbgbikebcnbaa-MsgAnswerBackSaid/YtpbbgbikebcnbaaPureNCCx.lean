-- Cut by a program of this session (wip/shake.py) out of a text of this seat: what this claim doesn't reach is struck out. Lean checks it.
import Derived.Test.YtpbbgbikebcnbaaPureNBCx
import Derived.Test.YtpbbgbikebcnbaaPureMICx
namespace Go.Proofs.Ytpbbgbikebcnbaa.MsgP
open Go.RowKit Go.Proofs.Ytpbbgbikebcnbaa.Ms Go.Proofs.Ytpbbgbikebcnbaa.Mw Go.Proofs.Ytpbbgbikebcnbaa.MsgL Go.Proofs.YtpbbgbikebcnbaaW.PrintWords Go.Proofs.YtpbbgbikebcnbaaW.PrintLast Go.Proofs.YtpbbgbikebcnbaaW.PrintMore
set_option linter.unusedVariables false
set_option linter.unusedSimpArgs false
def bigA : Int := 2147483647
def rdTs {l : List Int} (t : TR l) : Nat → Nat → Bool → List ByteArray → List ByteArray × Nat × Bool
 | 0, a, bad, acc => (acc, a, bad)
 | m + 1, a, bad, acc => if bad = true then (acc, a, true) else rdTs t m (t.T a bad).2.1 (t.T a bad).2.2 (acc ++ [(t.T a bad).1])
def rdList {l : List Int} (t : TR l) (a : Nat) (bad : Bool) : List ByteArray × Nat × Bool :=
 rdTs t (numOf l 65536 a bad).1.toNat (numOf l 65536 a bad).2.1 (numOf l 65536 a bad).2.2 []
def rdE {l : List Int} (t : TR l) (a : Nat) (bad : Bool) : S58 × Nat × Bool :=
 let p := t.T a bad
 let s := numOf l bigA p.2.1 p.2.2
 let q := rdList t s.2.1 s.2.2
 (⟨p.1, s.1, q.1⟩, q.2.1, q.2.2)
def rdEs {l : List Int} (t : TR l) : Nat → Nat → Bool → List S58 → List S58 × Nat × Bool
 | 0, a, bad, acc => (acc, a, bad)
 | m + 1, a, bad, acc => if bad = true then (acc, a, true) else rdEs t m (rdE t a bad).2.1 (rdE t a bad).2.2 (acc ++ [(rdE t a bad).1])
structure An where
 c : Int
 n : Int
 ns : List ByteArray
 ks : List ByteArray
 es : List S58
 at_ : Nat
 bad : Bool
def anC (l : List Int) (b0 : Bool) : Int × Nat × Bool := numOf l bigA 0 b0
def anN (l : List Int) (b0 : Bool) : Int × Nat × Bool := numOf l bigA (anC l b0).2.1 (anC l b0).2.2
def anNs {l : List Int} (t : TR l) (b0 : Bool) : List ByteArray × Nat × Bool := rdList t (anN l b0).2.1 (anN l b0).2.2
def anKs {l : List Int} (t : TR l) (b0 : Bool) : List ByteArray × Nat × Bool := rdList t (anNs t b0).2.1 (anNs t b0).2.2
def anM {l : List Int} (t : TR l) (b0 : Bool) : Int × Nat × Bool := numOf l 65536 (anKs t b0).2.1 (anKs t b0).2.2
def anEs {l : List Int} (t : TR l) (b0 : Bool) : List S58 × Nat × Bool := rdEs t (anM t b0).1.toNat (anM t b0).2.1 (anM t b0).2.2 []
theorem numB_le {l : List Int} (hb : bytesOk l) {m : Int} (hm : 0 ≤ m) {a : Nat} (ha : a ≤ l.length) (bad : Bool) : (numOf l m a bad).2.1 ≤ l.length := (numOf_at hb m hm ha bad).1
theorem numB_lo {l : List Int} (hb : bytesOk l) {m : Int} (hm : 0 ≤ m) {a : Nat} (ha : a ≤ l.length) (bad : Bool) : 0 ≤ (numOf l m a bad).1 ∧ (numOf l m a bad).1 ≤ m := (numOf_at hb m hm ha bad).2
theorem rdTs_at {l : List Int} (hb : bytesOk l) (t : TR l) : ∀ (m a : Nat) (bad : Bool) (acc : List ByteArray), a ≤ l.length → (rdTs t m a bad acc).2.1 ≤ l.length
 | 0, _, _, _, ha => ha
 | m + 1, a, bad, acc, ha => by
  rw [rdTs]
  split
  ·exact ha
  ·exact rdTs_at hb t m _ _ _ (t.at_ bad ha)
theorem rdList_at {l : List Int} (hb : bytesOk l) (t : TR l) {a : Nat} (bad : Bool) (ha : a ≤ l.length) : (rdList t a bad).2.1 ≤ l.length := rdTs_at hb t _ _ _ _ (numB_le hb (by decide) ha bad)
theorem rdE_at {l : List Int} (hb : bytesOk l) (t : TR l) {a : Nat} (bad : Bool) (ha : a ≤ l.length) : (rdE t a bad).2.1 ≤ l.length := rdList_at hb t _ (numB_le hb (by decide) (t.at_ bad ha) _)
theorem anC_at {l : List Int} (hb : bytesOk l) (b0 : Bool) : (anC l b0).2.1 ≤ l.length := numB_le hb (by decide) (Nat.zero_le _) _
theorem anN_at {l : List Int} (hb : bytesOk l) (b0 : Bool) : (anN l b0).2.1 ≤ l.length := numB_le hb (by decide) (anC_at hb b0) _
theorem anNs_at {l : List Int} (hb : bytesOk l) (t : TR l) (b0 : Bool) : (anNs t b0).2.1 ≤ l.length := rdList_at hb t _ (anN_at hb b0)
theorem anKs_at {l : List Int} (hb : bytesOk l) (t : TR l) (b0 : Bool) : (anKs t b0).2.1 ≤ l.length := rdList_at hb t _ (anNs_at hb t b0)
theorem anM_at {l : List Int} (hb : bytesOk l) (t : TR l) (b0 : Bool) : (anM t b0).2.1 ≤ l.length := numB_le hb (by decide) (anKs_at hb t b0) _
theorem great_r {l : List Int} (h : LOk l) {m : Int} (hm : 0 ≤ m ∧ m ≤ MsgL.big31) {a : Nat} (ha : a ≤ l.length) (bad : Bool) : msg_reader_great.f l (a : Int) bad m = some ((numOf l m a bad).1, (((numOf l m a bad).2.1 : Nat) : Int), (numOf l m a bad).2.2) := by
 unfold msg_reader_great.f
 rw [if_pos ⟨rdOk_mk h.b h.n ha, hm.1, hm.2⟩, Int.toNat_natCast]
theorem rnumB_r {l : List Int} (h : LOk l) {m : Int} (hm : 0 ≤ m ∧ m ≤ MsgL.big31) {a : Nat} (ha : a ≤ l.length) (bad : Bool) : becketref01_Reader_Num.f l (a : Int) bad m = some ((numOf l m a bad).1, (((numOf l m a bad).2.1 : Nat) : Int), (numOf l m a bad).2.2) := by
 unfold becketref01_Reader_Num.f
 rw [if_pos ⟨rdOk_mk h.b h.n ha, hm.1, hm.2⟩, Int.toNat_natCast]
theorem list_l0r {l : List Int} (h : LOk l) : ∀ (n k a : Nat) (bad : Bool) (acc : List ByteArray), a ≤ l.length → acc.length + n ≤ 70000 → n + 1 ≤ k →
  msg_reader_list.l0 k acc n l a bad = some ((rdTs (tp l h) n a bad acc).1, (((rdTs (tp l h) n a bad acc).2.1 : Nat) : Int), (rdTs (tp l h) n a bad acc).2.2)
 | 0, k, a, bad, acc, ha, hn, hk => by
  obtain ⟨k, rfl⟩ : ∃ k', k = k' + 1 := ⟨k - 1, by omega⟩
  rw [msg_reader_list.l0, if_neg (by omega)]
  rfl
 | n + 1, k, a, bad, acc, ha, hn, hk => by
  obtain ⟨k, rfl⟩ : ∃ k', k = k' + 1 := ⟨k - 1, by omega⟩
  rw [msg_reader_list.l0, if_pos (by omega)]
  cases bad with
  | true => rw [if_pos rfl]; rfl
  | false =>
   rw [if_neg (by decide), text_r h ha, Option.bind_some, if_pos (by omega), wz' (z := ((n + 1 : Nat) : Int) - 1) (y := (n : Int)) (by omega) (by omega) (by omega)]
   rw [list_l0r h n k _ _ _ (txtOf_at h.b ha false) (by rw [List.length_append, List.length_singleton]; omega) (by omega)]
   rfl
theorem rlist_l0r {l : List Int} (h : LOk l) : ∀ (n k i N a : Nat) (bad : Bool) (acc : List ByteArray), N = i + n → N ≤ 70000 → a ≤ l.length → acc.length + n ≤ 70000 → n + 1 ≤ k →
  becketref12_list.l0 k acc N i l a bad = some ((rdTs (tr l h) n a bad acc).1, (((rdTs (tr l h) n a bad acc).2.1 : Nat) : Int), (rdTs (tr l h) n a bad acc).2.2)
 | 0, k, i, N, a, bad, acc, hN, hN2, ha, hn, hk => by
  obtain ⟨k, rfl⟩ : ∃ k', k = k' + 1 := ⟨k - 1, by omega⟩
  rw [becketref12_list.l0, if_neg (by omega)]
  rfl
 | n + 1, k, i, N, a, bad, acc, hN, hN2, ha, hn, hk => by
  obtain ⟨k, rfl⟩ : ∃ k', k = k' + 1 := ⟨k - 1, by omega⟩
  rw [becketref12_list.l0, if_pos (by omega)]
  cases bad with
  | true => rw [if_pos rfl]; rfl
  | false =>
   rw [if_neg (by decide), rtext_r h ha, Option.bind_some, if_pos (by omega), wz' (z := (i : Int) + 1) (y := ((i + 1 : Nat) : Int)) (by omega) (by omega) (by omega)]
   exact (rlist_l0r h n k (i + 1) N (rtxt l a false).2.1 (rtxt l a false).2.2 (acc ++ [(rtxt l a false).1]) (by omega) hN2 ((tr l h).at_ false ha) (by rw [List.length_append, List.length_singleton]; omega) (by omega)).trans rfl
theorem cnt_le {l : List Int} (hb : bytesOk l) {a : Nat} (ha : a ≤ l.length) (bad : Bool) : (numOf l 65536 a bad).1.toNat ≤ 65536 ∧ (numOf l 65536 a bad).1 = (((numOf l 65536 a bad).1.toNat : Nat) : Int) := by
 have := numB_lo hb (m := 65536) (by decide) ha bad
 omega
theorem list_r {l : List Int} (h : LOk l) {a : Nat} (ha : a ≤ l.length) (bad : Bool) (k : Nat) (hk : 70000 ≤ k) : msg_reader_list.f k l a bad = some ((rdList (tp l h) a bad).1, (((rdList (tp l h) a bad).2.1 : Nat) : Int), (rdList (tp l h) a bad).2.2) := by
 have hc := cnt_le h.b ha bad
 unfold msg_reader_list.f
 rw [great_r h (by decide) ha, Option.bind_some]
 dsimp only
 rw [hc.2]
 exact list_l0r h _ k _ _ _ (numB_le h.b (by decide) ha bad) (by simp; omega) (by omega)
theorem rlist_r {l : List Int} (h : LOk l) {a : Nat} (ha : a ≤ l.length) (bad : Bool) (k : Nat) (hk : 70000 ≤ k) : becketref12_list.f k l a bad = some ((rdList (tr l h) a bad).1, (((rdList (tr l h) a bad).2.1 : Nat) : Int), (rdList (tr l h) a bad).2.2) := by
 have hc := cnt_le h.b ha bad
 unfold becketref12_list.f
 rw [rnumB_r h (by decide) ha, Option.bind_some]
 dsimp only
 rw [hc.2]
 exact rlist_l0r h _ k 0 _ _ _ _ (by omega) (by omega) (numB_le h.b (by decide) ha bad) (by simp; omega) (by omega)
theorem big_ok : 0 ≤ (2147483647 : Int) ∧ (2147483647 : Int) ≤ MsgL.big31 := by decide
def endA (s : ByteArray) (c n : Int) (ns ks : List ByteArray) (q : List S58 × Nat × Bool) : Int × Int × List ByteArray × List ByteArray × List S58 × Option Int :=
 if q.2.2 = true then (0, 0, [], [], [], some 2) else if q.2.1 < s.size then (0, 0, [], [], [], some 2) else (c, n, ns, ks, q.1, none)
def endR (s : ByteArray) (c n : Int) (ns ks : List ByteArray) (q : List S58 × Nat × Bool) : Int × Int × List ByteArray × List ByteArray × List S58 × Bool :=
 if q.2.2 = true then (0, 0, [], [], [], false) else if q.2.1 < s.size then (0, 0, [], [], [], false) else if 4096 < s.size then (0, 0, [], [], [], false) else (c, n, ns, ks, q.1, true)
theorem ans_l0 {l : List Int} (h : LOk l) (s : ByteArray) (c n : Int) (ns ks : List ByteArray) : ∀ (m k a : Nat) (bad : Bool) (acc : List S58), a ≤ l.length → acc.length + m ≤ 70000 → 2 * m + 70010 ≤ k →
  msg_GetAnswerL.l0 k s m l a bad c n ns ks acc = some (endA s c n ns ks (rdEs (tp l h) m a bad acc))
 | 0, k, a, bad, acc, ha, hn, hk => by
  obtain ⟨k, rfl⟩ : ∃ k', k = k' + 2 := ⟨k - 2, by omega⟩
  rw [msg_GetAnswerL.l0, if_neg (by omega), msg_GetAnswerL.j1, if_neg (by decide)]
  unfold endA rdEs
  cases bad with
  | true => rfl
  | false =>
   simp only [Bool.false_eq_true, if_false]
   by_cases hz : a < s.size
   ·rw [if_pos (by omega), if_pos hz]
   ·rw [if_neg (by omega), if_neg hz]
 | m + 1, k, a, bad, acc, ha, hn, hk => by
  obtain ⟨k, rfl⟩ : ∃ k', k = k' + 2 := ⟨k - 2, by omega⟩
  rw [msg_GetAnswerL.l0, if_pos (by omega), msg_GetAnswerL.j1]
  cases bad with
  | true => rw [if_neg (by decide)]; rfl
  | false =>
   have h1 := txtOf_at h.b ha false
   have h2 := numB_le h.b (m := 2147483647) (by decide) h1 (txtOf l a false).2.2
   rw [if_pos (by decide), text_r h ha, Option.bind_some, great_r h big_ok h1, Option.bind_some, list_r h h2 _ k (by omega), Option.bind_some, if_pos (by omega), wz' (z := ((m + 1 : Nat) : Int) - 1) (y := (m : Int)) (by omega) (by omega) (by omega)]
   exact ans_l0 h s c n ns ks m k _ _ _ (rdE_at h.b (tp l h) false ha) (by rw [List.length_append, List.length_singleton]; omega) (by omega)
theorem rans_l0 {l : List Int} (h : LOk l) (s : ByteArray) (c n : Int) (ns ks : List ByteArray) : ∀ (m k i N a : Nat) (bad : Bool) (acc : List S58), N = i + m → N ≤ 70000 → a ≤ l.length → acc.length + m ≤ 70000 → 2 * m + 70010 ≤ k →
  becketref12_GetAnswerL.l0 k s N i l a bad c n ns ks acc = some (endR s c n ns ks (rdEs (tr l h) m a bad acc))
 | 0, k, i, N, a, bad, acc, hN, hN2, ha, hn, hk => by
  obtain ⟨k, rfl⟩ : ∃ k', k = k' + 2 := ⟨k - 2, by omega⟩
  rw [becketref12_GetAnswerL.l0, if_neg (by omega), becketref12_GetAnswerL.j1, if_neg (by decide)]
  unfold endR rdEs
  cases bad with
  | true => rfl
  | false =>
   simp only [Bool.false_eq_true, if_false]
   by_cases hz : a < s.size
   ·rw [if_pos (by omega), if_pos hz]
   ·rw [if_neg (by omega), if_neg hz]
    by_cases h4 : 4096 < s.size
    ·rw [if_pos (by omega), if_pos h4]
    ·rw [if_neg (by omega), if_neg h4]
 | m + 1, k, i, N, a, bad, acc, hN, hN2, ha, hn, hk => by
  obtain ⟨k, rfl⟩ : ∃ k', k = k' + 2 := ⟨k - 2, by omega⟩
  rw [becketref12_GetAnswerL.l0, if_pos (by omega), becketref12_GetAnswerL.j1]
  cases bad with
  | true => rw [if_neg (by decide)]; rfl
  | false =>
   have h1 : (rtxt l a false).2.1 ≤ l.length := (tr l h).at_ false ha
   have h2 := numB_le h.b (m := 2147483647) (by decide) h1 (rtxt l a false).2.2
   rw [if_pos (by decide), rtext_r h ha, Option.bind_some]
   dsimp only
   rw [rnumB_r h big_ok h1, Option.bind_some]
   dsimp only
   rw [rlist_r h h2 _ k (by omega), Option.bind_some, if_pos (by omega), wz' (z := (i : Int) + 1) (y := ((i + 1 : Nat) : Int)) (by omega) (by omega) (by omega)]
   exact rans_l0 h s c n ns ks m k (i + 1) N _ _ _ (by omega) hN2 (rdE_at h.b (tr l h) false ha) (by rw [List.length_append, List.length_singleton]; omega) (by omega)
theorem getans_f {l : List Int} (h : LOk l) (s : ByteArray) (k : Nat) (hk : 300000 ≤ k) : msg_GetAnswerL.f k s l = some (endA s (anC l (longB s)).1 (anN l (longB s)).1 (anNs (tp l h) (longB s)).1 (anKs (tp l h) (longB s)).1 (anEs (tp l h) (longB s))) := by
 have hl : msg_long.f s = some (longB s) := by
  unfold msg_long.f longB
  congr 1
  by_cases h4 : 4096 < s.size
  ·rw [decide_eq_true h4, decide_eq_true (by omega)]
  ·rw [decide_eq_false h4, decide_eq_false (by omega)]
 have hM : (anM (tp l h) (longB s)).1.toNat ≤ 65536 ∧ (anM (tp l h) (longB s)).1 = (((anM (tp l h) (longB s)).1.toNat : Nat) : Int) := cnt_le h.b (anKs_at h.b (tp l h) (longB s)) (anKs (tp l h) (longB s)).2.2
 have g0 : msg_reader_great.f l 0 (longB s) 2147483647 = some ((anC l (longB s)).1, (((anC l (longB s)).2.1 : Nat) : Int), (anC l (longB s)).2.2) := great_r h big_ok (Nat.zero_le _) _
 have g1 := great_r h big_ok (anC_at h.b (longB s)) (anC l (longB s)).2.2
 have g2 := list_r h (anN_at h.b (longB s)) (anN l (longB s)).2.2 k (by omega)
 have g3 := list_r h (anNs_at h.b (tp l h) (longB s)) (anNs (tp l h) (longB s)).2.2 k (by omega)
 have g4 : msg_reader_great.f l (((anKs (tp l h) (longB s)).2.1 : Nat) : Int) (anKs (tp l h) (longB s)).2.2 65536 = some ((anM (tp l h) (longB s)).1, (((anM (tp l h) (longB s)).2.1 : Nat) : Int), (anM (tp l h) (longB s)).2.2) := great_r h (m := 65536) (by decide) (anKs_at h.b (tp l h) (longB s)) (anKs (tp l h) (longB s)).2.2
 unfold msg_GetAnswerL.f
 rw [hl, Option.bind_some, g0, Option.bind_some]
 dsimp only
 rw [g1, Option.bind_some]
 dsimp only
 have e1 : numOf l 2147483647 (anC l (longB s)).2.1 (anC l (longB s)).2.2 = anN l (longB s) := rfl
 rw [e1, g2, Option.bind_some]
 dsimp only
 have e2 : rdList (tp l h) (anN l (longB s)).2.1 (anN l (longB s)).2.2 = anNs (tp l h) (longB s) := rfl
 rw [e2, g3, Option.bind_some]
 dsimp only
 have e3 : rdList (tp l h) (anNs (tp l h) (longB s)).2.1 (anNs (tp l h) (longB s)).2.2 = anKs (tp l h) (longB s) := rfl
 rw [e3, g4, Option.bind_some]
 dsimp only
 rw [hM.2]
 exact ans_l0 h s _ _ _ _ _ k _ _ _ (anM_at h.b (tp l h) (longB s)) (by simp; omega) (by omega)
theorem rgetans_f {l : List Int} (h : LOk l) (s : ByteArray) (k : Nat) (hk : 300000 ≤ k) : becketref12_GetAnswerL.f k s l = some (endR s (anC l false).1 (anN l false).1 (anNs (tr l h) false).1 (anKs (tr l h) false).1 (anEs (tr l h) false)) := by
 have hM : (anM (tr l h) false).1.toNat ≤ 65536 ∧ (anM (tr l h) false).1 = (((anM (tr l h) false).1.toNat : Nat) : Int) := cnt_le h.b (anKs_at h.b (tr l h) false) (anKs (tr l h) false).2.2
 have g0 : becketref01_Reader_Num.f l 0 false 2147483647 = some ((anC l false).1, (((anC l false).2.1 : Nat) : Int), (anC l false).2.2) := rnumB_r h big_ok (Nat.zero_le _) _
 have g1 := rnumB_r h big_ok (anC_at h.b false) (anC l false).2.2
 have g2 := rlist_r h (anN_at h.b false) (anN l false).2.2 k (by omega)
 have g3 := rlist_r h (anNs_at h.b (tr l h) false) (anNs (tr l h) false).2.2 k (by omega)
 have g4 : becketref01_Reader_Num.f l (((anKs (tr l h) false).2.1 : Nat) : Int) (anKs (tr l h) false).2.2 65536 = some ((anM (tr l h) false).1, (((anM (tr l h) false).2.1 : Nat) : Int), (anM (tr l h) false).2.2) := rnumB_r h (m := 65536) (by decide) (anKs_at h.b (tr l h) false) (anKs (tr l h) false).2.2
 unfold becketref12_GetAnswerL.f
 rw [g0, Option.bind_some]
 dsimp only
 rw [g1, Option.bind_some]
 dsimp only
 have e1 : numOf l 2147483647 (anC l false).2.1 (anC l false).2.2 = anN l false := rfl
 rw [e1, g2, Option.bind_some]
 dsimp only
 have e2 : rdList (tr l h) (anN l false).2.1 (anN l false).2.2 = anNs (tr l h) false := rfl
 rw [e2, g3, Option.bind_some]
 dsimp only
 have e3 : rdList (tr l h) (anNs (tr l h) false).2.1 (anNs (tr l h) false).2.2 = anKs (tr l h) false := rfl
 rw [e3, g4, Option.bind_some]
 dsimp only
 rw [hM.2]
 exact rans_l0 h s _ _ _ _ _ k 0 _ _ _ _ (by omega) (by omega) (anM_at h.b (tr l h) false) (by simp; omega) (by omega)
end Go.Proofs.Ytpbbgbikebcnbaa.MsgP
