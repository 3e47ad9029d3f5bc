-- Cut by a program of this session (wip/shake.py) out of a text of this seat: what this claim doesn't reach is struck out. Lean checks it.
import Derived.Test.YtpbbgbikebcnbaaPureMCCx
namespace Go.Proofs.Ytpbbgbikebcnbaa.MsgP
open Go.RowKit Go.Proofs.Ytpbbgbikebcnbaa.Ms Go.Proofs.Ytpbbgbikebcnbaa.Mw Go.Proofs.Ytpbbgbikebcnbaa.MsgL Go.Proofs.YtpbbgbikebcnbaaW.PrintWords Go.Proofs.YtpbbgbikebcnbaaW.PrintLast Go.Proofs.YtpbbgbikebcnbaaW.PrintMore
set_option linter.unusedVariables false
set_option linter.unusedSimpArgs false
def BigK (K : Nat) : Prop := 1010 * 1000 + 10 ≤ K
def okR (l : List Int) (A B C D : Int) (s : ByteArray) (ps : List S95) (q : List S61 × Nat × Bool) : Bool := !q.2.2 && (decide (l.length ≤ q.2.1) && mayM A B C D s ps q.1)
def getR (l : List Int) (A B C D : Int) (s : ByteArray) (ps : List S95) (q : List S61 × Nat × Bool) : Int × Int × Int × Int × ByteArray × List S95 × List S61 × Option Int :=
 if okR l A B C D s ps q = true then (A, B, C, D, s, ps, q.1, none) else (0, 0, 0, 0, ⟨#[]⟩, [], [], some 2)
theorem get_end (l : List Int) (k : Nat) (hk : 3 ≤ k) (x6 : Int) (a : Nat) (bad : Bool) (A B C D : Int) (s : ByteArray) (ps : List S95) (acc : List S61) :
  msg_Get.j1 (k + 1) l x6 false l a bad A B C D s ps acc = some (getR l A B C D s ps (acc, a, bad)) := by
 rw [msg_Get.j1, if_neg (by decide), check_f k hk, Option.bind_some]
 unfold getR okR
 cases bad with
 | true => rfl
 | false =>
  rw [if_neg (by decide)]
  by_cases hl : l.length ≤ a
  ·rw [if_neg (by omega)]
   simp only
   rw [decide_eq_true hl]
   cases mayM A B C D s ps acc with
   | true => rfl
   | false => rfl
  ·rw [if_pos (by omega)]
   simp only
   rw [decide_eq_false hl]
   rfl
theorem get_l0 {l : List Int} (h : LOk l) (A B C D : Int) (s : ByteArray) (ps : List S95) (K : Nat) (hK : BigK K) : ∀ (n k a : Nat) (bad : Bool) (acc : List S61), a ≤ l.length → acc.length + n ≤ 2000 → K + 2 * n + 8 ≤ k →
  msg_Get.l0 k l n l a bad A B C D s ps acc = some (getR l A B C D s ps (rdCs (tp l h) n a bad acc))
 | 0, k, a, bad, acc, ha, hn, hk => by
  obtain ⟨k, rfl⟩ : ∃ k', k = k' + 2 := ⟨k - 2, by omega⟩
  rw [msg_Get.l0, if_neg (by omega), get_end l k (by omega)]
  rfl
 | n + 1, k, a, bad, acc, ha, hn, hk => by
  obtain ⟨k, rfl⟩ : ∃ k', k = k' + 2 := ⟨k - 2, by omega⟩
  rw [msg_Get.l0, if_pos (by omega)]
  cases bad with
  | true =>
   rw [show (!true) = false from rfl, get_end l k (by omega)]
   rfl
  | false =>
   have h1 := num_le h.b ha false
   have h2 := num_le h.b h1 (numOf l 1000 a false).2.2
   have hKk : K ≤ k := by omega
   rw [show (!false) = true from rfl, msg_Get.j1, if_pos rfl, num_r h ha, Option.bind_some, num_r h h1, Option.bind_some, proofs_r h h2 _ k (Nat.le_trans hK hKk), Option.bind_some, if_pos (by omega), wz' (z := ((n + 1 : Nat) : Int) - 1) (y := (n : Int)) (by omega) (by omega) (by omega)]
   exact get_l0 h A B C D s ps K hK n k _ _ _ (rdChange_at h.b (tp l h) false ha) (by rw [List.length_append, List.length_singleton]; omega) (by omega)
def getM {l : List Int} (t : TR l) : Int × Int × Int × Int × ByteArray × List S95 × List S61 × Option Int :=
 getR l (rdMsg t).a (rdMsg t).b (rdMsg t).c (rdMsg t).d (rdMsg t).s (rdMsg t).ps ((rdMsg t).cs, (rdMsg t).at_, (rdMsg t).bad)
theorem get_f {l : List Int} (h : LOk l) (K : Nat) (hK : BigK K) (k : Nat) (hk : K + 2010 ≤ k) : msg_Get.f k l = some (getM (tp l h)) := by
 have h0 : 0 ≤ l.length := Nat.zero_le _
 have h1 := num_le h.b h0 false
 have h2 := num_le h.b h1 (numOf l 1000 0 false).2.2
 have h3 := num_le h.b h2 (numOf l 1000 (numOf l 1000 0 false).2.1 (numOf l 1000 0 false).2.2).2.2
 have hKk : K ≤ k := by omega
 unfold msg_Get.f
 rw [show (0 : Int) = ((0 : Nat) : Int) from rfl, num_r h h0, Option.bind_some, num_r h h1, Option.bind_some, num_r h h2, Option.bind_some, num_r h h3, Option.bind_some]
 have key : ∀ (x : Int × Nat × Bool), x.2.1 ≤ l.length → ((msg_reader_text.f l ((x.2.1 : Nat) : Int) x.2.2).bind fun bt212 => ((msg_reader_proofs.f k l bt212.2.1 bt212.2.2).bind fun bt216 => ((msg_reader_num.f l bt216.2.1 bt216.2.2).bind fun bt221 => (msg_Get.l0 k l bt221.1 l bt221.2.1 bt221.2.2 (numOf l 1000 0 false).1 (numOf l 1000 (numOf l 1000 0 false).2.1 (numOf l 1000 0 false).2.2).1 (numOf l 1000 (numOf l 1000 (numOf l 1000 0 false).2.1 (numOf l 1000 0 false).2.2).2.1 (numOf l 1000 (numOf l 1000 0 false).2.1 (numOf l 1000 0 false).2.2).2.2).1 x.1 bt212.1 bt216.1 ([] : List S61))))) =
   some (getR l (numOf l 1000 0 false).1 (numOf l 1000 (numOf l 1000 0 false).2.1 (numOf l 1000 0 false).2.2).1 (numOf l 1000 (numOf l 1000 (numOf l 1000 0 false).2.1 (numOf l 1000 0 false).2.2).2.1 (numOf l 1000 (numOf l 1000 0 false).2.1 (numOf l 1000 0 false).2.2).2.2).1 x.1 (txtOf l x.2.1 x.2.2).1 (rdProofs (tp l h) (txtOf l x.2.1 x.2.2).2.1 (txtOf l x.2.1 x.2.2).2.2).1
    (rdCs (tp l h) (numOf l 1000 (rdProofs (tp l h) (txtOf l x.2.1 x.2.2).2.1 (txtOf l x.2.1 x.2.2).2.2).2.1 (rdProofs (tp l h) (txtOf l x.2.1 x.2.2).2.1 (txtOf l x.2.1 x.2.2).2.2).2.2).1.toNat (numOf l 1000 (rdProofs (tp l h) (txtOf l x.2.1 x.2.2).2.1 (txtOf l x.2.1 x.2.2).2.2).2.1 (rdProofs (tp l h) (txtOf l x.2.1 x.2.2).2.1 (txtOf l x.2.1 x.2.2).2.2).2.2).2.1 (numOf l 1000 (rdProofs (tp l h) (txtOf l x.2.1 x.2.2).2.1 (txtOf l x.2.1 x.2.2).2.2).2.1 (rdProofs (tp l h) (txtOf l x.2.1 x.2.2).2.1 (txtOf l x.2.1 x.2.2).2.2).2.2).2.2 [])) := by
  intro x hx
  rw [text_r h hx, Option.bind_some]
  have h5 := txtOf_at h.b hx x.2.2
  simp only
  generalize txtOf l x.2.1 x.2.2 = y at h5 ⊢
  rw [proofs_r h h5 _ k (Nat.le_trans hK hKk), Option.bind_some]
  have h6 := rdProofs_at h.b (tp l h) y.2.2 h5
  simp only
  generalize rdProofs (tp l h) y.2.1 y.2.2 = z at h6 ⊢
  rw [num_r h h6, Option.bind_some]
  simp only
  rw [toN h h6]
  have h7 := toN_le h h6 z.2.2
  have h8 := num_le h.b h6 z.2.2
  generalize (numOf l 1000 z.2.1 z.2.2).1.toNat = n at h7 ⊢
  rw [get_l0 h _ _ _ _ _ _ K hK n k _ _ [] h8 (by rw [List.length_nil]; omega) (by omega), Int.toNat_natCast]
 exact key (numOf l 1000 (numOf l 1000 (numOf l 1000 (numOf l 1000 0 false).2.1 (numOf l 1000 0 false).2.2).2.1 (numOf l 1000 (numOf l 1000 0 false).2.1 (numOf l 1000 0 false).2.2).2.2).2.1 (numOf l 1000 (numOf l 1000 (numOf l 1000 0 false).2.1 (numOf l 1000 0 false).2.2).2.1 (numOf l 1000 (numOf l 1000 0 false).2.1 (numOf l 1000 0 false).2.2).2.2).2.2) (num_le h.b h3 _)
end Go.Proofs.Ytpbbgbikebcnbaa.MsgP

namespace Go.Proofs.Ytpbbgbikebcnbaa.MsgP
open Go.RowKit Go.Proofs.Ytpbbgbikebcnbaa.Ms Go.Proofs.Ytpbbgbikebcnbaa.Mw Go.Proofs.Ytpbbgbikebcnbaa.MsgL Go.Proofs.YtpbbgbikebcnbaaW.PrintWords Go.Proofs.YtpbbgbikebcnbaaW.PrintLast Go.Proofs.YtpbbgbikebcnbaaW.PrintMore
set_option linter.unusedVariables false
set_option linter.unusedSimpArgs false
def refR (l : List Int) (A B C D : Int) (s : ByteArray) (ps : List S95) (q : List S61 × Nat × Bool) : Int × Int × Int × Int × ByteArray × List S95 × List S61 × Bool :=
 if okR l A B C D s ps q = true then (A, B, C, D, s, ps, q.1, true) else (0, 0, 0, 0, ⟨#[]⟩, [], [], false)
theorem refget_end (l : List Int) (k : Nat) (hk : 1500 ≤ k) (x6 x7 : Int) (a : Nat) (bad : Bool) (A B C D : Int) (s : ByteArray) (ps : List S95) (acc : List S61) :
  becketref12_Get.j1 (k + 2) l x6 x7 false l a bad A B C D s ps acc = some (refR l A B C D s ps (acc, a, bad)) := by
 rw [becketref12_Get.j1, if_neg (by decide)]
 unfold refR okR
 cases bad with
 | true =>
  rw [if_pos rfl, becketref12_Get.j2, if_pos rfl]; rfl
 | false =>
  rw [if_neg (by decide), becketref12_Get.j2, refmay_f k hk, Option.bind_some]
  simp only
  by_cases hl : l.length ≤ a
  ·rw [decide_eq_true hl, decide_eq_false (by omega : ¬ (a : Int) < (l.length : Int)), if_neg (by decide)]
   cases mayM A B C D s ps acc with
   | true => rfl
   | false => rfl
  ·rw [decide_eq_false hl, decide_eq_true (by omega : (a : Int) < (l.length : Int)), if_pos rfl]
   rfl
theorem refget_l0 {l : List Int} (h : LOk l) (A B C D : Int) (s : ByteArray) (ps : List S95) (K : Nat) (hK : BigK K) : ∀ (n k i a : Nat) (bad : Bool) (acc : List S61), a ≤ l.length → acc.length + n ≤ 2000 → i + n ≤ 2000 → K + 2 * n + 8 ≤ k →
  becketref12_Get.l0 k l ((i + n : Nat) : Int) i l a bad A B C D s ps acc = some (refR l A B C D s ps (rdCs (tr l h) n a bad acc))
 | 0, k, i, a, bad, acc, ha, hn, hi, hk => by
  obtain ⟨k, rfl⟩ : ∃ k', k = k' + 3 := ⟨k - 3, by omega⟩
  have hKk : K ≤ k := by omega
  rw [becketref12_Get.l0, if_neg (by omega), refget_end l k (by have := hKk; unfold BigK at hK; exact Nat.le_trans (by decide) (Nat.le_trans hK this))]
  rfl
 | n + 1, k, i, a, bad, acc, ha, hn, hi, hk => by
  obtain ⟨k, rfl⟩ : ∃ k', k = k' + 3 := ⟨k - 3, by omega⟩
  have hKk : K ≤ k := by omega
  rw [becketref12_Get.l0, if_pos (by omega)]
  cases bad with
  | true =>
   rw [show (!true) = false from rfl, refget_end l k (by have := hKk; unfold BigK at hK; exact Nat.le_trans (by decide) (Nat.le_trans hK this))]
   rfl
  | false =>
   have h1 := num_le h.b ha false
   have h2 := num_le h.b h1 (numOf l 1000 a false).2.2
   rw [show (!false) = true from rfl, becketref12_Get.j1, if_pos rfl, rnum_r h ha, Option.bind_some, rnum_r h h1, Option.bind_some, rproofs_r h h2 _ (k + 1) (Nat.le_trans hK (by omega)), Option.bind_some, if_pos (by omega), wz' (z := (i : Int) + 1) (y := ((i + 1 : Nat) : Int)) (by omega) (by omega) (by omega)]
   rw [show i + (n + 1) = i + 1 + n from by omega]
   exact refget_l0 h A B C D s ps K hK n (k + 1) (i + 1) _ _ _ (rdChange_at h.b (tr l h) false ha) (by rw [List.length_append, List.length_singleton]; omega) (by omega) (by omega)
def refM {l : List Int} (t : TR l) : Int × Int × Int × Int × ByteArray × List S95 × List S61 × Bool :=
 refR l (rdMsg t).a (rdMsg t).b (rdMsg t).c (rdMsg t).d (rdMsg t).s (rdMsg t).ps ((rdMsg t).cs, (rdMsg t).at_, (rdMsg t).bad)
theorem refget_f {l : List Int} (h : LOk l) (K : Nat) (hK : BigK K) (k : Nat) (hk : K + 2010 ≤ k) : becketref12_Get.f k l = some (refM (tr l h)) := by
 have h0 : 0 ≤ l.length := Nat.zero_le _
 have h1 := num_le h.b h0 false
 have h2 := num_le h.b h1 (numOf l 1000 0 false).2.2
 have h3 := num_le h.b h2 (numOf l 1000 (numOf l 1000 0 false).2.1 (numOf l 1000 0 false).2.2).2.2
 have hKk : K ≤ k := by omega
 unfold becketref12_Get.f
 rw [show becketref01_Reader_Num.f l 0 false 1000 = becketref01_Reader_Num.f l ((0 : Nat) : Int) false 1000 from rfl, rnum_r h h0, Option.bind_some, rnum_r h h1, Option.bind_some, rnum_r h h2, Option.bind_some, rnum_r h h3, Option.bind_some]
 have key : ∀ (x : Int × Nat × Bool), x.2.1 ≤ l.length → ((becketref01_Reader_Text.f l ((x.2.1 : Nat) : Int) x.2.2).bind fun bt212 => ((becketref12_get.f k l bt212.2.1 bt212.2.2).bind fun bt216 => ((becketref01_Reader_Num.f l bt216.2.1 bt216.2.2 1000).bind fun bt221 => (becketref12_Get.l0 k l bt221.1 0 l bt221.2.1 bt221.2.2 (numOf l 1000 0 false).1 (numOf l 1000 (numOf l 1000 0 false).2.1 (numOf l 1000 0 false).2.2).1 (numOf l 1000 (numOf l 1000 (numOf l 1000 0 false).2.1 (numOf l 1000 0 false).2.2).2.1 (numOf l 1000 (numOf l 1000 0 false).2.1 (numOf l 1000 0 false).2.2).2.2).1 x.1 bt212.1 bt216.1 ([] : List S61))))) =
   some (refR l (numOf l 1000 0 false).1 (numOf l 1000 (numOf l 1000 0 false).2.1 (numOf l 1000 0 false).2.2).1 (numOf l 1000 (numOf l 1000 (numOf l 1000 0 false).2.1 (numOf l 1000 0 false).2.2).2.1 (numOf l 1000 (numOf l 1000 0 false).2.1 (numOf l 1000 0 false).2.2).2.2).1 x.1 (rtxt l x.2.1 x.2.2).1 (rdProofs (tr l h) (rtxt l x.2.1 x.2.2).2.1 (rtxt l x.2.1 x.2.2).2.2).1
    (rdCs (tr l h) (numOf l 1000 (rdProofs (tr l h) (rtxt l x.2.1 x.2.2).2.1 (rtxt l x.2.1 x.2.2).2.2).2.1 (rdProofs (tr l h) (rtxt l x.2.1 x.2.2).2.1 (rtxt l x.2.1 x.2.2).2.2).2.2).1.toNat (numOf l 1000 (rdProofs (tr l h) (rtxt l x.2.1 x.2.2).2.1 (rtxt l x.2.1 x.2.2).2.2).2.1 (rdProofs (tr l h) (rtxt l x.2.1 x.2.2).2.1 (rtxt l x.2.1 x.2.2).2.2).2.2).2.1 (numOf l 1000 (rdProofs (tr l h) (rtxt l x.2.1 x.2.2).2.1 (rtxt l x.2.1 x.2.2).2.2).2.1 (rdProofs (tr l h) (rtxt l x.2.1 x.2.2).2.1 (rtxt l x.2.1 x.2.2).2.2).2.2).2.2 [])) := by
  intro x hx
  rw [rtext_r h hx, Option.bind_some]
  have h5 := (rtxt_txt h.b (bad := x.2.2) hx).2.2.2
  simp only
  generalize rtxt l x.2.1 x.2.2 = y at h5 ⊢
  rw [rproofs_r h h5 _ k (Nat.le_trans hK hKk), Option.bind_some]
  have h6 := rdProofs_at h.b (tr l h) y.2.2 h5
  simp only
  generalize rdProofs (tr l h) y.2.1 y.2.2 = z at h6 ⊢
  rw [rnum_r h h6, Option.bind_some]
  simp only
  rw [toN h h6]
  have h7 := toN_le h h6 z.2.2
  have h8 := num_le h.b h6 z.2.2
  generalize (numOf l 1000 z.2.1 z.2.2).1.toNat = n at h7 ⊢
  have := refget_l0 h (numOf l 1000 0 false).1 (numOf l 1000 (numOf l 1000 0 false).2.1 (numOf l 1000 0 false).2.2).1 (numOf l 1000 (numOf l 1000 (numOf l 1000 0 false).2.1 (numOf l 1000 0 false).2.2).2.1 (numOf l 1000 (numOf l 1000 0 false).2.1 (numOf l 1000 0 false).2.2).2.2).1 x.1 y.1 z.1 K hK n k 0 _ (numOf l 1000 z.2.1 z.2.2).2.2 [] h8 (by rw [List.length_nil]; omega) (by omega) (by omega)
  rw [Nat.zero_add] at this
  rw [Int.toNat_natCast]
  exact this
 exact key (numOf l 1000 (numOf l 1000 (numOf l 1000 (numOf l 1000 0 false).2.1 (numOf l 1000 0 false).2.2).2.1 (numOf l 1000 (numOf l 1000 0 false).2.1 (numOf l 1000 0 false).2.2).2.2).2.1 (numOf l 1000 (numOf l 1000 (numOf l 1000 0 false).2.1 (numOf l 1000 0 false).2.2).2.1 (numOf l 1000 (numOf l 1000 0 false).2.1 (numOf l 1000 0 false).2.2).2.2).2.2) (num_le h.b h3 _)
end Go.Proofs.Ytpbbgbikebcnbaa.MsgP
