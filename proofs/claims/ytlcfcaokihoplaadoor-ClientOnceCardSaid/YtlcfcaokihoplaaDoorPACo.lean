-- Cut by a program of this session (wip/shake.py) out of a text of this seat: what this claim doesn't reach is struck out. Lean checks it.
import Derived.Test.YtlcfcaokihoplaaDoorMsgAXCo
namespace Go.Proofs.YtlcfcaokihoplaaDoor.MsgP
open Go.RowKit Go.Proofs.YtlcfcaokihoplaaDoor.Mf Go.Proofs.YtlcfcaokihoplaaDoor.MsgL Go.Proofs.YtlcfcaokihoplaaDoorW.PrintWords Go.Proofs.YtlcfcaokihoplaaDoorW.PrintLast Go.Proofs.YtlcfcaokihoplaaDoorW.PrintMore
set_option linter.unusedVariables false
set_option linter.unusedSimpArgs false
theorem wz' {z : Int} {y : Int} (h : z = y) (h0 : 0 ≤ y) (h1 : y ≤ 1099511627776) : wrap64 z = y := by subst h; unfold wrap64; omega
def longB (s : ByteArray) : Bool := decide (4096 < s.size)
theorem txtOf_at {l : List Int} (hb : bytesOk l) {at_ : Nat} (ha : at_ ≤ l.length) (bad : Bool) : (txtOf l at_ bad).2.1 ≤ l.length := by
  unfold txtOf
  cases bad with
  | true => exact ha
  | false =>
    simp only [Bool.false_eq_true, if_false]
    cases hg : gn 4096 0 0 (l.drop at_) with
    | mk v r =>
      obtain ⟨cc, er⟩ := r
      cases er with
      | none =>
        have hb2 := gn_next 4096 (l.drop at_) v cc (fun x hx => hb x (List.drop_subset _ _ hx)) hg
        simp only
        split
        · exact ha
        · show ((at_ : Int) + cc + v).toNat ≤ l.length
          omega
      | some z => exact ha
structure TR (l : List Int) where
  T : Nat → Bool → ByteArray × Nat × Bool
  at_ : ∀ {a : Nat} (b : Bool), a ≤ l.length → (T a b).2.1 ≤ l.length
  bad : ∀ a, (T a true).2.2 = true
structure LOk (l : List Int) : Prop where
  b : bytesOk l
  n : l.length ≤ 100000000
def tp (l : List Int) (h : LOk l) : TR l := ⟨fun a b => txtOf l a b, fun b ha => txtOf_at h.b ha b, fun a => rfl⟩
theorem text_r {l : List Int} (h : LOk l) {a : Nat} (ha : a ≤ l.length) (bad : Bool) : msg_reader_text.f l (a : Int) bad = some ((txtOf l a bad).1, (((txtOf l a bad).2.1 : Nat) : Int), (txtOf l a bad).2.2) := by
  unfold msg_reader_text.f
  rw [if_pos (rdOk_mk h.b h.n ha), Int.toNat_natCast]
def bigA : Int := 2147483647
def rdTs {l : List Int} (t : TR l) : Nat → Nat → Bool → List ByteArray → List ByteArray × Nat × Bool
  | 0, a, bad, acc => (acc, a, bad)
  | m + 1, a, bad, acc => if bad = true then (acc, a, true) else rdTs t m (t.T a bad).2.1 (t.T a bad).2.2 (acc ++ [(t.T a bad).1])
def rdList {l : List Int} (t : TR l) (a : Nat) (bad : Bool) : List ByteArray × Nat × Bool :=
  rdTs t (numOf l 65536 a bad).1.toNat (numOf l 65536 a bad).2.1 (numOf l 65536 a bad).2.2 []
def rdE {l : List Int} (t : TR l) (a : Nat) (bad : Bool) : S90 × Nat × Bool :=
  let p := t.T a bad
  let s := numOf l bigA p.2.1 p.2.2
  let q := rdList t s.2.1 s.2.2
  (⟨p.1, s.1, q.1⟩, q.2.1, q.2.2)
def rdEs {l : List Int} (t : TR l) : Nat → Nat → Bool → List S90 → List S90 × Nat × Bool
  | 0, a, bad, acc => (acc, a, bad)
  | m + 1, a, bad, acc => if bad = true then (acc, a, true) else rdEs t m (rdE t a bad).2.1 (rdE t a bad).2.2 (acc ++ [(rdE t a bad).1])
def anC (l : List Int) (b0 : Bool) : Int × Nat × Bool := numOf l bigA 0 b0
def anN (l : List Int) (b0 : Bool) : Int × Nat × Bool := numOf l bigA (anC l b0).2.1 (anC l b0).2.2
def anNs {l : List Int} (t : TR l) (b0 : Bool) : List ByteArray × Nat × Bool := rdList t (anN l b0).2.1 (anN l b0).2.2
def anKs {l : List Int} (t : TR l) (b0 : Bool) : List ByteArray × Nat × Bool := rdList t (anNs t b0).2.1 (anNs t b0).2.2
def anM {l : List Int} (t : TR l) (b0 : Bool) : Int × Nat × Bool := numOf l 65536 (anKs t b0).2.1 (anKs t b0).2.2
def anEs {l : List Int} (t : TR l) (b0 : Bool) : List S90 × Nat × Bool := rdEs t (anM t b0).1.toNat (anM t b0).2.1 (anM t b0).2.2 []
theorem numB_le {l : List Int} (hb : bytesOk l) {m : Int} (hm : 0 ≤ m) {a : Nat} (ha : a ≤ l.length) (bad : Bool) : (numOf l m a bad).2.1 ≤ l.length := (numOf_at hb m hm ha bad).1
theorem numB_lo {l : List Int} (hb : bytesOk l) {m : Int} (hm : 0 ≤ m) {a : Nat} (ha : a ≤ l.length) (bad : Bool) : 0 ≤ (numOf l m a bad).1 ∧ (numOf l m a bad).1 ≤ m := (numOf_at hb m hm ha bad).2
theorem rdTs_at {l : List Int} (hb : bytesOk l) (t : TR l) : ∀ (m a : Nat) (bad : Bool) (acc : List ByteArray), a ≤ l.length → (rdTs t m a bad acc).2.1 ≤ l.length
  | 0, _, _, _, ha => ha
  | m + 1, a, bad, acc, ha => by
    rw [rdTs]
    split
    · exact ha
    · exact rdTs_at hb t m _ _ _ (t.at_ bad ha)
theorem rdList_at {l : List Int} (hb : bytesOk l) (t : TR l) {a : Nat} (bad : Bool) (ha : a ≤ l.length) : (rdList t a bad).2.1 ≤ l.length := rdTs_at hb t _ _ _ _ (numB_le hb (by decide) ha bad)
theorem rdE_at {l : List Int} (hb : bytesOk l) (t : TR l) {a : Nat} (bad : Bool) (ha : a ≤ l.length) : (rdE t a bad).2.1 ≤ l.length := rdList_at hb t _ (numB_le hb (by decide) (t.at_ bad ha) _)
theorem anC_at {l : List Int} (hb : bytesOk l) (b0 : Bool) : (anC l b0).2.1 ≤ l.length := numB_le hb (by decide) (Nat.zero_le _) _
theorem anN_at {l : List Int} (hb : bytesOk l) (b0 : Bool) : (anN l b0).2.1 ≤ l.length := numB_le hb (by decide) (anC_at hb b0) _
theorem anNs_at {l : List Int} (hb : bytesOk l) (t : TR l) (b0 : Bool) : (anNs t b0).2.1 ≤ l.length := rdList_at hb t _ (anN_at hb b0)
theorem anKs_at {l : List Int} (hb : bytesOk l) (t : TR l) (b0 : Bool) : (anKs t b0).2.1 ≤ l.length := rdList_at hb t _ (anNs_at hb t b0)
theorem anM_at {l : List Int} (hb : bytesOk l) (t : TR l) (b0 : Bool) : (anM t b0).2.1 ≤ l.length := numB_le hb (by decide) (anKs_at hb t b0) _
theorem great_r {l : List Int} (h : LOk l) {m : Int} (hm : 0 ≤ m ∧ m ≤ MsgL.big31) {a : Nat} (ha : a ≤ l.length) (bad : Bool) : msg_reader_great.f l (a : Int) bad m = some ((numOf l m a bad).1, (((numOf l m a bad).2.1 : Nat) : Int), (numOf l m a bad).2.2) := by
  unfold msg_reader_great.f
  rw [if_pos ⟨rdOk_mk h.b h.n ha, hm.1, hm.2⟩, Int.toNat_natCast]
theorem list_l0r {l : List Int} (h : LOk l) : ∀ (n k a : Nat) (bad : Bool) (acc : List ByteArray), a ≤ l.length → acc.length + n ≤ 70000 → n + 1 ≤ k →
    msg_reader_list.l0 k acc n l a bad = some ((rdTs (tp l h) n a bad acc).1, (((rdTs (tp l h) n a bad acc).2.1 : Nat) : Int), (rdTs (tp l h) n a bad acc).2.2)
  | 0, k, a, bad, acc, ha, hn, hk => by
    obtain ⟨k, rfl⟩ : ∃ k', k = k' + 1 := ⟨k - 1, by omega⟩
    rw [msg_reader_list.l0, if_neg (by omega)]
    rfl
  | n + 1, k, a, bad, acc, ha, hn, hk => by
    obtain ⟨k, rfl⟩ : ∃ k', k = k' + 1 := ⟨k - 1, by omega⟩
    rw [msg_reader_list.l0, if_pos (by omega)]
    cases bad with
    | true => rw [if_pos rfl]; rfl
    | false =>
      rw [if_neg (by decide), text_r h ha, Option.bind_some, if_pos (by omega), wz' (z := ((n + 1 : Nat) : Int) - 1) (y := (n : Int)) (by omega) (by omega) (by omega)]
      rw [list_l0r h n k _ _ _ (txtOf_at h.b ha false) (by rw [List.length_append, List.length_singleton]; omega) (by omega)]
      rfl
theorem cnt_le {l : List Int} (hb : bytesOk l) {a : Nat} (ha : a ≤ l.length) (bad : Bool) : (numOf l 65536 a bad).1.toNat ≤ 65536 ∧ (numOf l 65536 a bad).1 = (((numOf l 65536 a bad).1.toNat : Nat) : Int) := by
  have := numB_lo hb (m := 65536) (by decide) ha bad
  omega
theorem list_r {l : List Int} (h : LOk l) {a : Nat} (ha : a ≤ l.length) (bad : Bool) (k : Nat) (hk : 70000 ≤ k) : msg_reader_list.f k l a bad = some ((rdList (tp l h) a bad).1, (((rdList (tp l h) a bad).2.1 : Nat) : Int), (rdList (tp l h) a bad).2.2) := by
  have hc := cnt_le h.b ha bad
  unfold msg_reader_list.f
  rw [great_r h (by decide) ha, Option.bind_some]
  dsimp only
  rw [hc.2]
  exact list_l0r h _ k _ _ _ (numB_le h.b (by decide) ha bad) (by simp; omega) (by omega)
theorem big_ok : 0 ≤ (2147483647 : Int) ∧ (2147483647 : Int) ≤ MsgL.big31 := by decide
def endA (s : ByteArray) (c n : Int) (ns ks : List ByteArray) (q : List S90 × Nat × Bool) : Int × Int × List ByteArray × List ByteArray × List S90 × Option Int :=
  if q.2.2 = true then (0, 0, [], [], [], some 2) else if q.2.1 < s.size then (0, 0, [], [], [], some 2) else (c, n, ns, ks, q.1, none)
theorem ans_l0 {l : List Int} (h : LOk l) (s : ByteArray) (c n : Int) (ns ks : List ByteArray) : ∀ (m k a : Nat) (bad : Bool) (acc : List S90), a ≤ l.length → acc.length + m ≤ 70000 → 2 * m + 70010 ≤ k →
    msg_GetAnswerL.l0 k s m l a bad c n ns ks acc = some (endA s c n ns ks (rdEs (tp l h) m a bad acc))
  | 0, k, a, bad, acc, ha, hn, hk => by
    obtain ⟨k, rfl⟩ : ∃ k', k = k' + 2 := ⟨k - 2, by omega⟩
    rw [msg_GetAnswerL.l0, if_neg (by omega), msg_GetAnswerL.j1, if_neg (by decide)]
    unfold endA rdEs
    cases bad with
    | true => rfl
    | false =>
      simp only [Bool.false_eq_true, if_false]
      by_cases hz : a < s.size
      · rw [if_pos (by omega), if_pos hz]
      · rw [if_neg (by omega), if_neg hz]
  | m + 1, k, a, bad, acc, ha, hn, hk => by
    obtain ⟨k, rfl⟩ : ∃ k', k = k' + 2 := ⟨k - 2, by omega⟩
    rw [msg_GetAnswerL.l0, if_pos (by omega), msg_GetAnswerL.j1]
    cases bad with
    | true => rw [if_neg (by decide)]; rfl
    | false =>
      have h1 := txtOf_at h.b ha false
      have h2 := numB_le h.b (m := 2147483647) (by decide) h1 (txtOf l a false).2.2
      rw [if_pos (by decide), text_r h ha, Option.bind_some, great_r h big_ok h1, Option.bind_some, list_r h h2 _ k (by omega), Option.bind_some, if_pos (by omega), wz' (z := ((m + 1 : Nat) : Int) - 1) (y := (m : Int)) (by omega) (by omega) (by omega)]
      exact ans_l0 h s c n ns ks m k _ _ _ (rdE_at h.b (tp l h) false ha) (by rw [List.length_append, List.length_singleton]; omega) (by omega)
theorem getans_f {l : List Int} (h : LOk l) (s : ByteArray) (k : Nat) (hk : 300000 ≤ k) : msg_GetAnswerL.f k s l = some (endA s (anC l (longB s)).1 (anN l (longB s)).1 (anNs (tp l h) (longB s)).1 (anKs (tp l h) (longB s)).1 (anEs (tp l h) (longB s))) := by
  have hl : msg_long.f s = some (longB s) := by
    unfold msg_long.f longB
    congr 1
    by_cases h4 : 4096 < s.size
    · rw [decide_eq_true h4, decide_eq_true (by omega)]
    · rw [decide_eq_false h4, decide_eq_false (by omega)]
  have hM : (anM (tp l h) (longB s)).1.toNat ≤ 65536 ∧ (anM (tp l h) (longB s)).1 = (((anM (tp l h) (longB s)).1.toNat : Nat) : Int) := cnt_le h.b (anKs_at h.b (tp l h) (longB s)) (anKs (tp l h) (longB s)).2.2
  have g0 : msg_reader_great.f l 0 (longB s) 2147483647 = some ((anC l (longB s)).1, (((anC l (longB s)).2.1 : Nat) : Int), (anC l (longB s)).2.2) := great_r h big_ok (Nat.zero_le _) _
  have g1 := great_r h big_ok (anC_at h.b (longB s)) (anC l (longB s)).2.2
  have g2 := list_r h (anN_at h.b (longB s)) (anN l (longB s)).2.2 k (by omega)
  have g3 := list_r h (anNs_at h.b (tp l h) (longB s)) (anNs (tp l h) (longB s)).2.2 k (by omega)
  have g4 : msg_reader_great.f l (((anKs (tp l h) (longB s)).2.1 : Nat) : Int) (anKs (tp l h) (longB s)).2.2 65536 = some ((anM (tp l h) (longB s)).1, (((anM (tp l h) (longB s)).2.1 : Nat) : Int), (anM (tp l h) (longB s)).2.2) := great_r h (m := 65536) (by decide) (anKs_at h.b (tp l h) (longB s)) (anKs (tp l h) (longB s)).2.2
  unfold msg_GetAnswerL.f
  rw [hl, Option.bind_some, g0, Option.bind_some]
  dsimp only
  rw [g1, Option.bind_some]
  dsimp only
  have e1 : numOf l 2147483647 (anC l (longB s)).2.1 (anC l (longB s)).2.2 = anN l (longB s) := rfl
  rw [e1, g2, Option.bind_some]
  dsimp only
  have e2 : rdList (tp l h) (anN l (longB s)).2.1 (anN l (longB s)).2.2 = anNs (tp l h) (longB s) := rfl
  rw [e2, g3, Option.bind_some]
  dsimp only
  have e3 : rdList (tp l h) (anNs (tp l h) (longB s)).2.1 (anNs (tp l h) (longB s)).2.2 = anKs (tp l h) (longB s) := rfl
  rw [e3, g4, Option.bind_some]
  dsimp only
  rw [hM.2]
  exact ans_l0 h s _ _ _ _ _ k _ _ _ (anM_at h.b (tp l h) (longB s)) (by simp; omega) (by omega)
end Go.Proofs.YtlcfcaokihoplaaDoor.MsgP
