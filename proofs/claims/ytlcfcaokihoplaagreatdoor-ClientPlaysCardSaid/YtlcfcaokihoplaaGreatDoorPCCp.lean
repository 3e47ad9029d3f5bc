-- Cut.
import Derived.Test.YtlcfcaokihoplaaGreatDoorMsgCVCp
import Derived.Test.YtlcfcaokihoplaaGreatDoorMfx1Cp
import Derived.Test.YtlcfcaokihoplaaGreatDoorMfx2Cp
import Derived.Test.YtlcfcaokihoplaaGreatDoorMfx3Cp
import Derived.Test.YtlcfcaokihoplaaGreatDoorMfx4Cp
import Derived.Test.YtlcfcaokihoplaaGreatDoorPOCp
import Derived.DataShut
namespace Go.Proofs.YtlcfcaokihoplaaGreatDoor.Mf
open Go.RowKit Go.Proofs.YzW.PrintWords Go.Proofs.YzW.PrintLast Go.Proofs.YzW.PrintMore
attribute [local go_sem] cg_ ce_ cw_ cv_ by_ bx_ cf_ cd_
set_option linter.unusedVariables false
set_option linter.unusedSimpArgs false
attribute [local go_sem] eqlErr neqErr eqlErrNil neqErrNil
open Go.Proofs.YtlcfcaokihoplaaGreatDoor.Mw
end Go.Proofs.YtlcfcaokihoplaaGreatDoor.Mf



namespace Go.Proofs.YtlcfcaokihoplaaGreatDoor.MsgP
open Go.RowKit Go.Proofs.YtlcfcaokihoplaaGreatDoor.Mf Go.Proofs.YtlcfcaokihoplaaGreatDoor.MsgL Go.Proofs.YzW.PrintWords Go.Proofs.YzW.PrintLast Go.Proofs.YzW.PrintMore
set_option linter.unusedVariables false
set_option linter.unusedSimpArgs false
theorem wz' {z : Int} {y : Int} (h : z = y) (h0 : 0 ≤ y) (h1 : y ≤ 1099511627776) : wrap64 z = y := by subst h; unfold wrap64; omega
def longB (s : ByteArray) : Bool := decide (4096 < s.size)
theorem txtOf_at {l : List Int} (hb : bytesOk l) {at_ : Nat} (ha : at_ ≤ l.length) (bad : Bool) : (txtOf l at_ bad).2.1 ≤ l.length := by
 unfold txtOf
 cases bad with
 | true => exact ha
 | false =>
  simp only [Bool.false_eq_true, if_false]
  cases hg : gn 4096 0 0 (l.drop at_) with
  | mk v r =>
   obtain ⟨cc, er⟩ := r
   cases er with
   | none =>
    have hb2 := gn_next 4096 (l.drop at_) v cc (fun x hx => hb x (List.drop_subset _ _ hx)) hg
    simp only
    split
    ·exact ha
    ·show ((at_ : Int) + cc + v).toNat ≤ l.length
     omega
   | some z => exact ha
structure TR (l : List Int) where
 T : Nat → Bool → ByteArray × Nat × Bool
 at_ : ∀ {a : Nat} (b : Bool), a ≤ l.length → (T a b).2.1 ≤ l.length
 bad : ∀ a, (T a true).2.2 = true
structure LOk (l : List Int) : Prop where
 b : bytesOk l
 n : l.length ≤ 100000000
def tp (l : List Int) (h : LOk l) : TR l := ⟨fun a b => txtOf l a b, fun b ha => txtOf_at h.b ha b, fun a => rfl⟩
theorem text_r {l : List Int} (h : LOk l) {a : Nat} (ha : a ≤ l.length) (bad : Bool) : ca_.f l (a : Int) bad = some ((txtOf l a bad).1, (((txtOf l a bad).2.1 : Nat) : Int), (txtOf l a bad).2.2) := by
 unfold ca_.f
 rw [if_pos (rdOk_mk h.b h.n ha), Int.toNat_natCast]
def bigA : Int := 2147483647
def rdTs {l : List Int} (t : TR l) : Nat → Nat → Bool → List ByteArray → List ByteArray × Nat × Bool
 | 0, a, bad, acc => (acc, a, bad)
 | m + 1, a, bad, acc => if bad = true then (acc, a, true) else rdTs t m (t.T a bad).2.1 (t.T a bad).2.2 (acc ++ [(t.T a bad).1])
def dx_ {l : List Int} (t : TR l) (a : Nat) (bad : Bool) : List ByteArray × Nat × Bool :=
 rdTs t (numOf l 65536 a bad).1.toNat (numOf l 65536 a bad).2.1 (numOf l 65536 a bad).2.2 []
def rdE {l : List Int} (t : TR l) (a : Nat) (bad : Bool) : S107 × Nat × Bool :=
 let p := t.T a bad
 let s := numOf l bigA p.2.1 p.2.2
 let q := dx_ t s.2.1 s.2.2
 (⟨p.1, s.1, q.1⟩, q.2.1, q.2.2)
def rdEs {l : List Int} (t : TR l) : Nat → Nat → Bool → List S107 → List S107 × Nat × Bool
 | 0, a, bad, acc => (acc, a, bad)
 | m + 1, a, bad, acc => if bad = true then (acc, a, true) else rdEs t m (rdE t a bad).2.1 (rdE t a bad).2.2 (acc ++ [(rdE t a bad).1])
def anC (l : List Int) (b0 : Bool) : Int × Nat × Bool := numOf l bigA 0 b0
def anN (l : List Int) (b0 : Bool) : Int × Nat × Bool := numOf l bigA (anC l b0).2.1 (anC l b0).2.2
def anNs {l : List Int} (t : TR l) (b0 : Bool) : List ByteArray × Nat × Bool := dx_ t (anN l b0).2.1 (anN l b0).2.2
def anKs {l : List Int} (t : TR l) (b0 : Bool) : List ByteArray × Nat × Bool := dx_ t (anNs t b0).2.1 (anNs t b0).2.2
def anM {l : List Int} (t : TR l) (b0 : Bool) : Int × Nat × Bool := numOf l 65536 (anKs t b0).2.1 (anKs t b0).2.2
def anEs {l : List Int} (t : TR l) (b0 : Bool) : List S107 × Nat × Bool := rdEs t (anM t b0).1.toNat (anM t b0).2.1 (anM t b0).2.2 []
theorem numB_le {l : List Int} (hb : bytesOk l) {m : Int} (hm : 0 ≤ m) {a : Nat} (ha : a ≤ l.length) (bad : Bool) : (numOf l m a bad).2.1 ≤ l.length := (numOf_at hb m hm ha bad).1
theorem numB_lo {l : List Int} (hb : bytesOk l) {m : Int} (hm : 0 ≤ m) {a : Nat} (ha : a ≤ l.length) (bad : Bool) : 0 ≤ (numOf l m a bad).1 ∧ (numOf l m a bad).1 ≤ m := (numOf_at hb m hm ha bad).2
theorem rdTs_at {l : List Int} (hb : bytesOk l) (t : TR l) : ∀ (m a : Nat) (bad : Bool) (acc : List ByteArray), a ≤ l.length → (rdTs t m a bad acc).2.1 ≤ l.length
 | 0, _, _, _, ha => ha
 | m + 1, a, bad, acc, ha => by
  rw [rdTs]
  split
  ·exact ha
  ·exact rdTs_at hb t m _ _ _ (t.at_ bad ha)
theorem rdList_at {l : List Int} (hb : bytesOk l) (t : TR l) {a : Nat} (bad : Bool) (ha : a ≤ l.length) : (dx_ t a bad).2.1 ≤ l.length := rdTs_at hb t _ _ _ _ (numB_le hb (by decide) ha bad)
theorem rdE_at {l : List Int} (hb : bytesOk l) (t : TR l) {a : Nat} (bad : Bool) (ha : a ≤ l.length) : (rdE t a bad).2.1 ≤ l.length := rdList_at hb t _ (numB_le hb (by decide) (t.at_ bad ha) _)
theorem anC_at {l : List Int} (hb : bytesOk l) (b0 : Bool) : (anC l b0).2.1 ≤ l.length := numB_le hb (by decide) (Nat.zero_le _) _
theorem anN_at {l : List Int} (hb : bytesOk l) (b0 : Bool) : (anN l b0).2.1 ≤ l.length := numB_le hb (by decide) (anC_at hb b0) _
theorem anNs_at {l : List Int} (hb : bytesOk l) (t : TR l) (b0 : Bool) : (anNs t b0).2.1 ≤ l.length := rdList_at hb t _ (anN_at hb b0)
theorem anKs_at {l : List Int} (hb : bytesOk l) (t : TR l) (b0 : Bool) : (anKs t b0).2.1 ≤ l.length := rdList_at hb t _ (anNs_at hb t b0)
theorem anM_at {l : List Int} (hb : bytesOk l) (t : TR l) (b0 : Bool) : (anM t b0).2.1 ≤ l.length := numB_le hb (by decide) (anKs_at hb t b0) _
theorem great_r {l : List Int} (h : LOk l) {m : Int} (hm : 0 ≤ m ∧ m ≤ MsgL.big31) {a : Nat} (ha : a ≤ l.length) (bad : Bool) : ap_.f l (a : Int) bad m = some ((numOf l m a bad).1, (((numOf l m a bad).2.1 : Nat) : Int), (numOf l m a bad).2.2) := by
 unfold ap_.f
 rw [if_pos ⟨rdOk_mk h.b h.n ha, hm.1, hm.2⟩, Int.toNat_natCast]
theorem list_l0r {l : List Int} (h : LOk l) : ∀ (n k a : Nat) (bad : Bool) (acc : List ByteArray), a ≤ l.length → acc.length + n ≤ 70000 → n + 1 ≤ k →
  an_.l0 k acc n l a bad = some ((rdTs (tp l h) n a bad acc).1, (((rdTs (tp l h) n a bad acc).2.1 : Nat) : Int), (rdTs (tp l h) n a bad acc).2.2)
 | 0, k, a, bad, acc, ha, hn, hk => by
  obtain ⟨k, rfl⟩ : ∃ k', k = k' + 1 := ⟨k - 1, by omega⟩
  rw [an_.l0, if_neg (by omega)]
  rfl
 | n + 1, k, a, bad, acc, ha, hn, hk => by
  obtain ⟨k, rfl⟩ : ∃ k', k = k' + 1 := ⟨k - 1, by omega⟩
  rw [an_.l0, if_pos (by omega)]
  cases bad with
  | true => rw [if_pos rfl]; rfl
  | false =>
   rw [if_neg (by decide), text_r h ha, Option.bind_some, if_pos (by omega), wz' (z := ((n + 1 : Nat) : Int) - 1) (y := (n : Int)) (by omega) (by omega) (by omega)]
   rw [list_l0r h n k _ _ _ (txtOf_at h.b ha false) (by rw [List.length_append, List.length_singleton]; omega) (by omega)]
   rfl
theorem cnt_le {l : List Int} (hb : bytesOk l) {a : Nat} (ha : a ≤ l.length) (bad : Bool) : (numOf l 65536 a bad).1.toNat ≤ 65536 ∧ (numOf l 65536 a bad).1 = (((numOf l 65536 a bad).1.toNat : Nat) : Int) := by
 have := numB_lo hb (m := 65536) (by decide) ha bad
 omega
theorem list_r {l : List Int} (h : LOk l) {a : Nat} (ha : a ≤ l.length) (bad : Bool) (k : Nat) (hk : 70000 ≤ k) : an_.f k l a bad = some ((dx_ (tp l h) a bad).1, (((dx_ (tp l h) a bad).2.1 : Nat) : Int), (dx_ (tp l h) a bad).2.2) := by
 have hc := cnt_le h.b ha bad
 unfold an_.f
 rw [great_r h (by decide) ha, Option.bind_some]
 dsimp only
 rw [hc.2]
 exact list_l0r h _ k _ _ _ (numB_le h.b (by decide) ha bad) (by simp; omega) (by omega)
theorem big_ok : 0 ≤ (2147483647 : Int) ∧ (2147483647 : Int) ≤ MsgL.big31 := by decide
def endA (s : ByteArray) (c n : Int) (ns ks : List ByteArray) (q : List S107 × Nat × Bool) : Int × Int × List ByteArray × List ByteArray × List S107 × Option Int :=
 if q.2.2 = true then (0, 0, [], [], [], some 2) else if q.2.1 < s.size then (0, 0, [], [], [], some 2) else (c, n, ns, ks, q.1, none)
theorem ans_l0 {l : List Int} (h : LOk l) (s : ByteArray) (c n : Int) (ns ks : List ByteArray) : ∀ (m k a : Nat) (bad : Bool) (acc : List S107), a ≤ l.length → acc.length + m ≤ 70000 → 2 * m + 70010 ≤ k →
  aq_.l0 k s m l a bad c n ns ks acc = some (endA s c n ns ks (rdEs (tp l h) m a bad acc))
 | 0, k, a, bad, acc, ha, hn, hk => by
  obtain ⟨k, rfl⟩ : ∃ k', k = k' + 2 := ⟨k - 2, by omega⟩
  rw [aq_.l0, if_neg (by omega), aq_.j1, if_neg (by decide)]
  unfold endA rdEs
  cases bad with
  | true => rfl
  | false =>
   simp only [Bool.false_eq_true, if_false]
   by_cases hz : a < s.size
   ·rw [if_pos (by omega), if_pos hz]
   ·rw [if_neg (by omega), if_neg hz]
 | m + 1, k, a, bad, acc, ha, hn, hk => by
  obtain ⟨k, rfl⟩ : ∃ k', k = k' + 2 := ⟨k - 2, by omega⟩
  rw [aq_.l0, if_pos (by omega), aq_.j1]
  cases bad with
  | true => rw [if_neg (by decide)]; rfl
  | false =>
   have h1 := txtOf_at h.b ha false
   have h2 := numB_le h.b (m := 2147483647) (by decide) h1 (txtOf l a false).2.2
   rw [if_pos (by decide), text_r h ha, Option.bind_some, great_r h big_ok h1, Option.bind_some, list_r h h2 _ k (by omega), Option.bind_some, if_pos (by omega), wz' (z := ((m + 1 : Nat) : Int) - 1) (y := (m : Int)) (by omega) (by omega) (by omega)]
   exact ans_l0 h s c n ns ks m k _ _ _ (rdE_at h.b (tp l h) false ha) (by rw [List.length_append, List.length_singleton]; omega) (by omega)
theorem getans_f {l : List Int} (h : LOk l) (s : ByteArray) (k : Nat) (hk : 300000 ≤ k) : aq_.f k s l = some (endA s (anC l (longB s)).1 (anN l (longB s)).1 (anNs (tp l h) (longB s)).1 (anKs (tp l h) (longB s)).1 (anEs (tp l h) (longB s))) := by
 have hl : msg_long.f s = some (longB s) := by
  unfold msg_long.f longB
  congr 1
  by_cases h4 : 4096 < s.size
  ·rw [decide_eq_true h4, decide_eq_true (by omega)]
  ·rw [decide_eq_false h4, decide_eq_false (by omega)]
 have hM : (anM (tp l h) (longB s)).1.toNat ≤ 65536 ∧ (anM (tp l h) (longB s)).1 = (((anM (tp l h) (longB s)).1.toNat : Nat) : Int) := cnt_le h.b (anKs_at h.b (tp l h) (longB s)) (anKs (tp l h) (longB s)).2.2
 have g0 : ap_.f l 0 (longB s) 2147483647 = some ((anC l (longB s)).1, (((anC l (longB s)).2.1 : Nat) : Int), (anC l (longB s)).2.2) := great_r h big_ok (Nat.zero_le _) _
 have g1 := great_r h big_ok (anC_at h.b (longB s)) (anC l (longB s)).2.2
 have g2 := list_r h (anN_at h.b (longB s)) (anN l (longB s)).2.2 k (by omega)
 have g3 := list_r h (anNs_at h.b (tp l h) (longB s)) (anNs (tp l h) (longB s)).2.2 k (by omega)
 have g4 : ap_.f l (((anKs (tp l h) (longB s)).2.1 : Nat) : Int) (anKs (tp l h) (longB s)).2.2 65536 = some ((anM (tp l h) (longB s)).1, (((anM (tp l h) (longB s)).2.1 : Nat) : Int), (anM (tp l h) (longB s)).2.2) := great_r h (m := 65536) (by decide) (anKs_at h.b (tp l h) (longB s)) (anKs (tp l h) (longB s)).2.2
 unfold aq_.f
 rw [hl, Option.bind_some, g0, Option.bind_some]
 dsimp only
 rw [g1, Option.bind_some]
 dsimp only
 have e1 : numOf l 2147483647 (anC l (longB s)).2.1 (anC l (longB s)).2.2 = anN l (longB s) := rfl
 rw [e1, g2, Option.bind_some]
 dsimp only
 have e2 : dx_ (tp l h) (anN l (longB s)).2.1 (anN l (longB s)).2.2 = anNs (tp l h) (longB s) := rfl
 rw [e2, g3, Option.bind_some]
 dsimp only
 have e3 : dx_ (tp l h) (anNs (tp l h) (longB s)).2.1 (anNs (tp l h) (longB s)).2.2 = anKs (tp l h) (longB s) := rfl
 rw [e3, g4, Option.bind_some]
 dsimp only
 rw [hM.2]
 exact ans_l0 h s _ _ _ _ _ k _ _ _ (anM_at h.b (tp l h) (longB s)) (by simp; omega) (by omega)
end Go.Proofs.YtlcfcaokihoplaaGreatDoor.MsgP

namespace Go.Proofs.YtlcfcaokihoplaaGreatDoor.CliP
open Go.RowKit Go.Proofs.YtlcfcaokihoplaaGreatDoor.Ms Go.Proofs.YtlcfcaokihoplaaGreatDoor.Mw Go.Proofs.YzW.PrintWords Go.Proofs.YzW.PrintLast Go.Proofs.YzW.PrintMore
set_option linter.unusedVariables false
set_option linter.unusedSimpArgs false
theorem wz' {z : Int} {y : Int} (h : z = y) (h0 : 0 ≤ y) (h1 : y ≤ 1099511627776) : wrap64 z = y := by subst h; unfold wrap64; omega
theorem rdP_get (xs : List S90) (i : Nat) (h : i < xs.length) : ed_ xs (i : Int) = xs[i] := by
 show xs.getD i _ = xs[i]
 simp [List.getD, h]
theorem rdC_get (xs : List S69) (i : Nat) (h : i < xs.length) : rd_T69 xs (i : Int) = xs[i] := by
 show xs.getD i _ = xs[i]
 simp [List.getD, h]
def shortPs (l : List S90) : Bool := decide (l.length ≤ 200) && l.all (fun p => decide (p.f2.size ≤ 5000) && decide (p.f3.length ≤ 100))
def shortM (s : ByteArray) (ps : List S90) (cs : List S69) : Bool := shortPs ps && (decide (s.size ≤ 5000) && (decide (cs.length ≤ 50) && cs.all fun c => shortPs c.f2))
theorem short_l0 (l : List S90) (hl : l.length ≤ 200) : ∀ (q k i : Nat), q = l.length - i → i ≤ l.length → q + 1 ≤ k → ba_.l0 k l i = some ((l.drop i).all (fun p => decide (p.f2.size ≤ 5000) && decide (p.f3.length ≤ 100)))
 | 0, k, i, hq, hi, hk => by
  obtain ⟨k, rfl⟩ : ∃ k', k = k' + 1 := ⟨k - 1, by omega⟩
  have : i = l.length := by omega
  subst this
  rw [ba_.l0, if_neg (by omega), List.drop_length]
  rfl
 | q + 1, k, i, hq, hi, hk => by
  obtain ⟨k, rfl⟩ : ∃ k', k = k' + 1 := ⟨k - 1, by omega⟩
  have hlt : i < l.length := by omega
  have hd : l.drop i = l[i] :: l.drop (i + 1) := List.drop_eq_getElem_cons hlt
  have ih := short_l0 l hl q k (i + 1) (by omega) (by omega) (by omega)
  rw [ba_.l0, if_pos (by omega), if_pos (by omega), rdP_get l i hlt, wz' (z := (i : Int) + 1) (y := ((i + 1 : Nat) : Int)) (by omega) (by omega) (by omega), hd, List.all_cons, ih]
  by_cases h1 : (l[i]).f2.size ≤ 5000
  ·rw [if_neg (by omega), decide_eq_true h1]
   by_cases h2 : (l[i]).f3.length ≤ 100
   ·rw [if_neg (by omega), decide_eq_true h2]; rfl
   ·rw [if_pos (by omega), decide_eq_false h2]; rfl
  ·rw [if_pos (by omega), decide_eq_false h1]; rfl
theorem short_f (l : List S90) (k : Nat) (hk : 201 ≤ k) : ba_.f k l = some (shortPs l) := by
 unfold ba_.f shortPs
 by_cases h : l.length ≤ 200
 ·rw [if_neg (by omega), decide_eq_true h]
  have := short_l0 l h l.length k 0 (by omega) (by omega) (by omega)
  rw [List.drop_zero] at this
  exact this
 ·rw [if_pos (by omega), decide_eq_false h]; rfl
theorem Short_l0 (a b c d : Int) (s : ByteArray) (ps : List S90) (cs : List S69) (hl : cs.length ≤ 50) : ∀ (q k i : Nat), q = cs.length - i → i ≤ cs.length → q + 202 ≤ k → ai_.l0 k i a b c d s ps cs = some ((cs.drop i).all fun c => shortPs c.f2)
 | 0, k, i, hq, hi, hk => by
  obtain ⟨k, rfl⟩ : ∃ k', k = k' + 1 := ⟨k - 1, by omega⟩
  have : i = cs.length := by omega
  subst this
  rw [ai_.l0, if_neg (by omega), List.drop_length]
  rfl
 | q + 1, k, i, hq, hi, hk => by
  obtain ⟨k, rfl⟩ : ∃ k', k = k' + 1 := ⟨k - 1, by omega⟩
  have hlt : i < cs.length := by omega
  have hd : cs.drop i = cs[i] :: cs.drop (i + 1) := List.drop_eq_getElem_cons hlt
  have ih := Short_l0 a b c d s ps cs hl q k (i + 1) (by omega) (by omega) (by omega)
  rw [ai_.l0, if_pos (by omega), if_pos (by omega), rdC_get cs i hlt, short_f _ k (by omega), Option.bind_some, wz' (z := (i : Int) + 1) (y := ((i + 1 : Nat) : Int)) (by omega) (by omega) (by omega), hd, List.all_cons, ih]
  cases shortPs (cs[i]).f2 with
  | true => rfl
  | false => rfl
theorem Short_j0 (k : Nat) (hk : 260 ≤ k) (x : Bool) (a b c d : Int) (s : ByteArray) (ps : List S90) (cs : List S69) (hx : x = false → cs.length ≤ 50) : ai_.j0 (k + 1) x a b c d s ps cs = some (!x && cs.all fun c => shortPs c.f2) := by
 rw [ai_.j0]
 cases x with
 | true => rfl
 | false =>
  have := Short_l0 a b c d s ps cs (hx rfl) cs.length k 0 (by omega) (by omega) (by have := hx rfl; omega)
  rw [List.drop_zero] at this
  rw [if_neg (by decide)]
  exact this
theorem Short_f (a b c d : Int) (s : ByteArray) (ps : List S90) (cs : List S69) (k : Nat) (hk : 300 ≤ k) : ai_.f k a b c d s ps cs = some (shortM s ps cs) := by
 obtain ⟨k, rfl⟩ : ∃ q, k = q + 1 := ⟨k - 1, by omega⟩
 unfold ai_.f shortM
 rw [short_f ps _ (by omega), Option.bind_some, Short_j0 k (by omega) true a b c d s ps cs (fun h => by cases h)]
 cases shortPs ps with
 | false => rfl
 | true =>
  rw [if_pos rfl]
  by_cases hs : s.size ≤ 5000
  ·rw [if_neg (by omega), decide_eq_true hs]
   by_cases hc : cs.length ≤ 50
   ·rw [decide_eq_false (by omega : ¬ (cs.length : Int) > 50), decide_eq_true hc, Short_j0 k (by omega) false a b c d s ps cs (fun _ => hc)]; rfl
   ·rw [decide_eq_true (by omega : (cs.length : Int) > 50), decide_eq_false hc, Short_j0 k (by omega) true a b c d s ps cs (fun h => by cases h)]; rfl
  ·rw [if_pos (by omega), decide_eq_false hs]; rfl
theorem index_l0 (acc : List Int) (x : Int) (hl : acc.length ≤ 100000) : ∀ (m k i : Nat), m = acc.length - i → i ≤ acc.length → m + 1 ≤ k → ∃ r, bb_.l0 k acc x (acc.length : Int) (i : Int) = some r ∧ decide (r ≥ 0) = (acc.drop i).contains x
 | 0, k, i, hm, hi, hk => by
  obtain ⟨k, rfl⟩ : ∃ k', k = k' + 1 := ⟨k - 1, by omega⟩
  have : i = acc.length := by omega
  subst this
  refine ⟨-1, ?_, by simp⟩
  unfold bb_.l0
  rw [if_neg (by omega)]
 | m + 1, k, i, hm, hi, hk => by
  obtain ⟨k, rfl⟩ : ∃ k', k = k' + 1 := ⟨k - 1, by omega⟩
  have hlt : i < acc.length := by omega
  have hd : acc.drop i = acc[i] :: acc.drop (i + 1) := List.drop_eq_getElem_cons hlt
  have hr : rd acc (i : Int) = acc[i] := by simp [rd, hlt]
  unfold bb_.l0
  rw [if_pos (by omega), if_pos (by omega), if_pos (by omega), hr]
  by_cases hx : x = acc[i]
  ·rw [if_pos hx]
   refine ⟨_, rfl, ?_⟩
   rw [hd, List.contains_cons]
   have h1 : (x == acc[i]) = true := by simpa using hx
   rw [h1, Bool.true_or]
   simp
  ·rw [if_neg hx]
   have hw : wrap64 ((i : Int) + 1) = ((i + 1 : Nat) : Int) := by unfold wrap64; omega
   rw [hw]
   obtain ⟨r, h1, h2⟩ := index_l0 acc x hl m k (i + 1) (by omega) (by omega) (by omega)
   refine ⟨r, h1, ?_⟩
   rw [h2, hd, List.contains_cons]
   have h3 : (x == acc[i]) = false := by simpa using hx
   rw [h3, Bool.false_or]
theorem contains_f (acc : List Int) (x : Int) (k : Nat) (hl : acc.length ≤ 100000) (hk : acc.length + 1 ≤ k) : bs_.f k acc x = some (acc.contains x) := by
 obtain ⟨r, h1, h2⟩ := index_l0 acc x hl acc.length k 0 (by omega) (by omega) (by omega)
 unfold bs_.f bb_.f
 rw [show ((0 : Nat) : Int) = 0 from rfl] at h1
 rw [h1, Option.bind_some, h2, List.drop_zero]
def whoL (what : ByteArray) : List Int → List S80 → List Int
 | acc, [] => acc
 | acc, v :: l => if v.f1.toList = what.toList then (if acc.contains v.f0 = true then whoL what acc l else whoL what (acc ++ [v.f0]) l) else whoL what acc l
def srt (l : List Int) : List Int := l.mergeSort fun x y => decide (x ≤ y)
theorem who_l0 (what : ByteArray) (l : List S80) (hl : l.length ≤ 10000) : ∀ (m k i : Nat) (acc : List Int), m = l.length - i → i ≤ l.length → acc.length ≤ i → 2 * m + acc.length + 3 ≤ k → ci_.l0 k what acc l (l.length : Int) (i : Int) = some (srt (whoL what acc (l.drop i)))
 | 0, k, i, acc, hm, hi, ha, hk => by
  obtain ⟨k, rfl⟩ : ∃ k', k = k' + 1 := ⟨k - 1, by omega⟩
  have : i = l.length := by omega
  subst this
  unfold ci_.l0
  rw [if_neg (by omega), List.drop_length]
  unfold co_.f
  rw [if_pos (by omega)]
  rfl
 | m + 1, k, i, acc, hm, hi, ha, hk => by
  obtain ⟨k, rfl⟩ : ∃ k', k = k' + 1 := ⟨k - 1, by omega⟩
  have hlt : i < l.length := by omega
  have hd : l.drop i = l[i] :: l.drop (i + 1) := List.drop_eq_getElem_cons hlt
  have hr : cx_ l (i : Int) = l[i] := by simp [cx_, hlt]
  have hw : wrap64 ((i : Int) + 1) = ((i + 1 : Nat) : Int) := by unfold wrap64; omega
  unfold ci_.l0
  rw [if_pos (by omega), if_pos (by omega), if_pos (by omega), hr, hw, hd]
  unfold whoL
  have h1 := who_l0 what l hl m k (i + 1) acc (by omega) (by omega) (by omega) (by omega)
  have h2 := who_l0 what l hl m k (i + 1) (acc ++ [l[i].f0]) (by omega) (by omega) (by simp; omega) (by simp; omega)
  by_cases hx : l[i].f1.toList = what.toList
  ·rw [if_pos hx, if_pos hx, contains_f acc _ k (by omega) (by omega), Option.bind_some]
   by_cases hc : acc.contains l[i].f0 = true
   ·rw [if_pos hc, if_pos hc, h1]
   ·rw [if_neg hc, if_neg hc, if_pos (by omega), h2]
  ·rw [if_neg hx, if_neg hx, h1]
theorem who_f (what : ByteArray) (l : List S80) (k : Nat) (hl : l.length ≤ 10000) (hk : 2 * l.length + 3 ≤ k) : ci_.f k l what = some (srt (whoL what [] l)) := by
 have := who_l0 what l hl l.length k 0 [] (by omega) (by omega) (by simp) (by simpa using hk)
 rw [List.drop_zero] at this
 exact this
theorem count_f (what : ByteArray) (l : List S80) (k : Nat) (hl : l.length ≤ 10000) (hk : 2 * l.length + 3 ≤ k) : vote_Count.f k l what = some ((whoL what [] l).length : Int) := by
 unfold vote_Count.f
 rw [who_f what l k hl hk, Option.bind_some]
 simp [srt, List.length_mergeSort]
theorem pick_f (c : Int) (hc : -9223372036854775808 ≤ c ∧ c ≤ 9223372036854775807) (n : Nat) (hn : 0 < n) : ∃ r : Nat, r < n ∧ dk_.f c n = some (r : Int) := by
 unfold dk_.f
 have key : ∀ x : Int, 0 ≤ x → ∃ r : Nat, r < n ∧ some (Int.tmod x n) = some (r : Int) := fun x hx => by
  refine ⟨(Int.tmod x n).toNat, ?_, ?_⟩
  ·have h1 := Int.tmod_lt_of_pos x (show (0 : Int) < n by omega)
   have h2 := Int.tmod_nonneg n hx
   omega
  ·have h2 := Int.tmod_nonneg n hx
   rw [Int.toNat_of_nonneg h2]
 by_cases h : c < 0
 ·rw [if_pos h, if_neg (by omega)]
  have e : wrap64 (-(wrap64 (c + 1))) = -(c + 1) := by unfold wrap64; omega
  rw [e]
  exact key _ (by omega)
 ·rw [if_neg h, if_neg (by omega)]
  exact key _ (by omega)
end Go.Proofs.YtlcfcaokihoplaaGreatDoor.CliP
