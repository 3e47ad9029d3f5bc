-- Cut by a program of this session (wip/shake.py) out of a text of this seat: what this claim doesn't reach is struck out. Lean checks it.
import Derived.Test.YtpbbgbikebcnbaaPureMDCw
import Derived.Test.YtpbbgbikebcnbaaPureMCCw
namespace Go.Proofs.Ytpbbgbikebcnbaa.MsgP
open Go.RowKit Go.Proofs.Ytpbbgbikebcnbaa.Ms Go.Proofs.Ytpbbgbikebcnbaa.Mw Go.Proofs.Ytpbbgbikebcnbaa.MsgL Go.Proofs.YtpbbgbikebcnbaaW.PrintWords Go.Proofs.YtpbbgbikebcnbaaW.PrintLast Go.Proofs.YtpbbgbikebcnbaaW.PrintMore
set_option linter.unusedVariables false
set_option linter.unusedSimpArgs false
def refR (l : List Int) (A B C D : Int) (s : ByteArray) (ps : List S95) (q : List S61 × Nat × Bool) : Int × Int × Int × Int × ByteArray × List S95 × List S61 × Bool :=
 if okR l A B C D s ps q = true then (A, B, C, D, s, ps, q.1, true) else (0, 0, 0, 0, ⟨#[]⟩, [], [], false)
theorem refget_end (l : List Int) (k : Nat) (hk : 1500 ≤ k) (x6 x7 : Int) (a : Nat) (bad : Bool) (A B C D : Int) (s : ByteArray) (ps : List S95) (acc : List S61) :
  becketref12_Get.j1 (k + 2) l x6 x7 false l a bad A B C D s ps acc = some (refR l A B C D s ps (acc, a, bad)) := by
 rw [becketref12_Get.j1, if_neg (by decide)]
 unfold refR okR
 cases bad with
 | true =>
  rw [if_pos rfl, becketref12_Get.j2, if_pos rfl]; rfl
 | false =>
  rw [if_neg (by decide), becketref12_Get.j2, refmay_f k hk, Option.bind_some]
  simp only
  by_cases hl : l.length ≤ a
  ·rw [decide_eq_true hl, decide_eq_false (by omega : ¬ (a : Int) < (l.length : Int)), if_neg (by decide)]
   cases mayM A B C D s ps acc with
   | true => rfl
   | false => rfl
  ·rw [decide_eq_false hl, decide_eq_true (by omega : (a : Int) < (l.length : Int)), if_pos rfl]
   rfl
theorem refget_l0 {l : List Int} (h : LOk l) (A B C D : Int) (s : ByteArray) (ps : List S95) (K : Nat) (hK : BigK K) : ∀ (n k i a : Nat) (bad : Bool) (acc : List S61), a ≤ l.length → acc.length + n ≤ 2000 → i + n ≤ 2000 → K + 2 * n + 8 ≤ k →
  becketref12_Get.l0 k l ((i + n : Nat) : Int) i l a bad A B C D s ps acc = some (refR l A B C D s ps (rdCs (tr l h) n a bad acc))
 | 0, k, i, a, bad, acc, ha, hn, hi, hk => by
  obtain ⟨k, rfl⟩ : ∃ k', k = k' + 3 := ⟨k - 3, by omega⟩
  have hKk : K ≤ k := by omega
  rw [becketref12_Get.l0, if_neg (by omega), refget_end l k (by have := hKk; unfold BigK at hK; exact Nat.le_trans (by decide) (Nat.le_trans hK this))]
  rfl
 | n + 1, k, i, a, bad, acc, ha, hn, hi, hk => by
  obtain ⟨k, rfl⟩ : ∃ k', k = k' + 3 := ⟨k - 3, by omega⟩
  have hKk : K ≤ k := by omega
  rw [becketref12_Get.l0, if_pos (by omega)]
  cases bad with
  | true =>
   rw [show (!true) = false from rfl, refget_end l k (by have := hKk; unfold BigK at hK; exact Nat.le_trans (by decide) (Nat.le_trans hK this))]
   rfl
  | false =>
   have h1 := num_le h.b ha false
   have h2 := num_le h.b h1 (numOf l 1000 a false).2.2
   rw [show (!false) = true from rfl, becketref12_Get.j1, if_pos rfl, rnum_r h ha, Option.bind_some, rnum_r h h1, Option.bind_some, rproofs_r h h2 _ (k + 1) (Nat.le_trans hK (by omega)), Option.bind_some, if_pos (by omega), wz' (z := (i : Int) + 1) (y := ((i + 1 : Nat) : Int)) (by omega) (by omega) (by omega)]
   rw [show i + (n + 1) = i + 1 + n from by omega]
   exact refget_l0 h A B C D s ps K hK n (k + 1) (i + 1) _ _ _ (rdChange_at h.b (tr l h) false ha) (by rw [List.length_append, List.length_singleton]; omega) (by omega) (by omega)
def refM {l : List Int} (t : TR l) : Int × Int × Int × Int × ByteArray × List S95 × List S61 × Bool :=
 refR l (rdMsg t).a (rdMsg t).b (rdMsg t).c (rdMsg t).d (rdMsg t).s (rdMsg t).ps ((rdMsg t).cs, (rdMsg t).at_, (rdMsg t).bad)
theorem refget_f {l : List Int} (h : LOk l) (K : Nat) (hK : BigK K) (k : Nat) (hk : K + 2010 ≤ k) : becketref12_Get.f k l = some (refM (tr l h)) := by
 have h0 : 0 ≤ l.length := Nat.zero_le _
 have h1 := num_le h.b h0 false
 have h2 := num_le h.b h1 (numOf l 1000 0 false).2.2
 have h3 := num_le h.b h2 (numOf l 1000 (numOf l 1000 0 false).2.1 (numOf l 1000 0 false).2.2).2.2
 have hKk : K ≤ k := by omega
 unfold becketref12_Get.f
 rw [show becketref01_Reader_Num.f l 0 false 1000 = becketref01_Reader_Num.f l ((0 : Nat) : Int) false 1000 from rfl, rnum_r h h0, Option.bind_some, rnum_r h h1, Option.bind_some, rnum_r h h2, Option.bind_some, rnum_r h h3, Option.bind_some]
 have key : ∀ (x : Int × Nat × Bool), x.2.1 ≤ l.length → ((becketref01_Reader_Text.f l ((x.2.1 : Nat) : Int) x.2.2).bind fun bt212 => ((becketref12_get.f k l bt212.2.1 bt212.2.2).bind fun bt216 => ((becketref01_Reader_Num.f l bt216.2.1 bt216.2.2 1000).bind fun bt221 => (becketref12_Get.l0 k l bt221.1 0 l bt221.2.1 bt221.2.2 (numOf l 1000 0 false).1 (numOf l 1000 (numOf l 1000 0 false).2.1 (numOf l 1000 0 false).2.2).1 (numOf l 1000 (numOf l 1000 (numOf l 1000 0 false).2.1 (numOf l 1000 0 false).2.2).2.1 (numOf l 1000 (numOf l 1000 0 false).2.1 (numOf l 1000 0 false).2.2).2.2).1 x.1 bt212.1 bt216.1 ([] : List S61))))) =
   some (refR l (numOf l 1000 0 false).1 (numOf l 1000 (numOf l 1000 0 false).2.1 (numOf l 1000 0 false).2.2).1 (numOf l 1000 (numOf l 1000 (numOf l 1000 0 false).2.1 (numOf l 1000 0 false).2.2).2.1 (numOf l 1000 (numOf l 1000 0 false).2.1 (numOf l 1000 0 false).2.2).2.2).1 x.1 (rtxt l x.2.1 x.2.2).1 (rdProofs (tr l h) (rtxt l x.2.1 x.2.2).2.1 (rtxt l x.2.1 x.2.2).2.2).1
    (rdCs (tr l h) (numOf l 1000 (rdProofs (tr l h) (rtxt l x.2.1 x.2.2).2.1 (rtxt l x.2.1 x.2.2).2.2).2.1 (rdProofs (tr l h) (rtxt l x.2.1 x.2.2).2.1 (rtxt l x.2.1 x.2.2).2.2).2.2).1.toNat (numOf l 1000 (rdProofs (tr l h) (rtxt l x.2.1 x.2.2).2.1 (rtxt l x.2.1 x.2.2).2.2).2.1 (rdProofs (tr l h) (rtxt l x.2.1 x.2.2).2.1 (rtxt l x.2.1 x.2.2).2.2).2.2).2.1 (numOf l 1000 (rdProofs (tr l h) (rtxt l x.2.1 x.2.2).2.1 (rtxt l x.2.1 x.2.2).2.2).2.1 (rdProofs (tr l h) (rtxt l x.2.1 x.2.2).2.1 (rtxt l x.2.1 x.2.2).2.2).2.2).2.2 [])) := by
  intro x hx
  rw [rtext_r h hx, Option.bind_some]
  have h5 := (rtxt_txt h.b (bad := x.2.2) hx).2.2.2
  simp only
  generalize rtxt l x.2.1 x.2.2 = y at h5 ⊢
  rw [rproofs_r h h5 _ k (Nat.le_trans hK hKk), Option.bind_some]
  have h6 := rdProofs_at h.b (tr l h) y.2.2 h5
  simp only
  generalize rdProofs (tr l h) y.2.1 y.2.2 = z at h6 ⊢
  rw [rnum_r h h6, Option.bind_some]
  simp only
  rw [toN h h6]
  have h7 := toN_le h h6 z.2.2
  have h8 := num_le h.b h6 z.2.2
  generalize (numOf l 1000 z.2.1 z.2.2).1.toNat = n at h7 ⊢
  have := refget_l0 h (numOf l 1000 0 false).1 (numOf l 1000 (numOf l 1000 0 false).2.1 (numOf l 1000 0 false).2.2).1 (numOf l 1000 (numOf l 1000 (numOf l 1000 0 false).2.1 (numOf l 1000 0 false).2.2).2.1 (numOf l 1000 (numOf l 1000 0 false).2.1 (numOf l 1000 0 false).2.2).2.2).1 x.1 y.1 z.1 K hK n k 0 _ (numOf l 1000 z.2.1 z.2.2).2.2 [] h8 (by rw [List.length_nil]; omega) (by omega) (by omega)
  rw [Nat.zero_add] at this
  rw [Int.toNat_natCast]
  exact this
 exact key (numOf l 1000 (numOf l 1000 (numOf l 1000 (numOf l 1000 0 false).2.1 (numOf l 1000 0 false).2.2).2.1 (numOf l 1000 (numOf l 1000 0 false).2.1 (numOf l 1000 0 false).2.2).2.2).2.1 (numOf l 1000 (numOf l 1000 (numOf l 1000 0 false).2.1 (numOf l 1000 0 false).2.2).2.1 (numOf l 1000 (numOf l 1000 0 false).2.1 (numOf l 1000 0 false).2.2).2.2).2.2) (num_le h.b h3 _)
end Go.Proofs.Ytpbbgbikebcnbaa.MsgP

namespace Go.Proofs.Ytpbbgbikebcnbaa.MsgP
open Go.RowKit Go.Proofs.Ytpbbgbikebcnbaa.Ms Go.Proofs.Ytpbbgbikebcnbaa.Mw Go.Proofs.Ytpbbgbikebcnbaa.MsgL Go.Proofs.YtpbbgbikebcnbaaW.PrintWords Go.Proofs.YtpbbgbikebcnbaaW.PrintLast Go.Proofs.YtpbbgbikebcnbaaW.PrintMore
set_option linter.unusedVariables false
set_option linter.unusedSimpArgs false
def Ag {α : Type} (x y : α × Nat × Bool) : Prop := x.2.2 = y.2.2 ∧ (x.2.2 = false → x = y)
theorem Ag.refl {α : Type} (x : α × Nat × Bool) : Ag x x := ⟨rfl, fun _ => rfl⟩
theorem Ag.two {α : Type} {x y : α × Nat × Bool} (h1 : x.2.2 = true) (h2 : y.2.2 = true) : Ag x y := ⟨h1.trans h2.symm, fun h => by rw [h1] at h; cases h⟩
theorem Ag.or {α : Type} {x y : α × Nat × Bool} (h : Ag x y) : (x.2.2 = true ∧ y.2.2 = true) ∨ x = y := by
 cases hb : x.2.2 with
 | true => exact .inl ⟨rfl, by rw [← h.1, hb]⟩
 | false => exact .inr (h.2 hb)
theorem numOf_bad (l : List Int) (m : Int) (a : Nat) : (numOf l m a true).2.2 = true := rfl
theorem text_ag {l : List Int} (h : LOk l) {a : Nat} (ha : a ≤ l.length) (b : Bool) : Ag (txtOf l a b) (rtxt l a b) := by
 obtain ⟨h1, h2, h3, _⟩ := rtxt_txt h.b (bad := b) ha
 refine ⟨h2.symm, fun hb => ?_⟩
 have h4 := h3 hb
 generalize txtOf l a b = x at *
 generalize rtxt l a b = y at *
 obtain ⟨x1, x2, x3⟩ := x
 obtain ⟨y1, y2, y3⟩ := y
 simp only at h1 h2 h4
 rw [h1, h2, h4]
end Go.Proofs.Ytpbbgbikebcnbaa.MsgP

namespace Go.Proofs.Ytpbbgbikebcnbaa.MsgP
open Go.RowKit Go.Proofs.Ytpbbgbikebcnbaa.Ms Go.Proofs.Ytpbbgbikebcnbaa.Mw Go.Proofs.Ytpbbgbikebcnbaa.MsgL Go.Proofs.YtpbbgbikebcnbaaW.PrintWords Go.Proofs.YtpbbgbikebcnbaaW.PrintLast Go.Proofs.YtpbbgbikebcnbaaW.PrintMore
set_option linter.unusedVariables false
set_option linter.unusedSimpArgs false
def At (l : List Int) (a : Nat) (post : List Int) : Prop := a ≤ l.length ∧ l.drop a = post
theorem At.step {l : List Int} {a : Nat} {x post : List Int} (h : At l a (x ++ post)) : At l (a + x.length) post := by
 obtain ⟨h1, h2⟩ := h
 have hl := congrArg List.length h2
 rw [List.length_drop, List.length_append] at hl
 exact ⟨by omega, by rw [← List.drop_drop, h2, List.drop_left]⟩
def s1000 (n : Int) : Prop := 0 ≤ n ∧ n ≤ 1000
def okP1 (p : S95) : Prop := s1000 p.f0 ∧ s1000 p.f1 ∧ p.f2.size ≤ 4096 ∧ p.f3.length ≤ 1000 ∧ ∀ x ∈ p.f3, s1000 x
def okC1 (c : S61) : Prop := s1000 c.f0 ∧ s1000 c.f1 ∧ c.f2.length ≤ 1000 ∧ ∀ p ∈ c.f2, okP1 p
structure Ok1 (a b c d : Int) (s : ByteArray) (ps : List S95) (cs : List S61) : Prop where
 ha : s1000 a
 hb : s1000 b
 hc : s1000 c
 hd : s1000 d
 hs : s.size ≤ 4096
 hps : ps.length ≤ 1000
 hp : ∀ p ∈ ps, okP1 p
 hcs : cs.length ≤ 1000
 hcc : ∀ c ∈ cs, okC1 c
end Go.Proofs.Ytpbbgbikebcnbaa.MsgP

namespace Go.Proofs.Ytpbbgbikebcnbaa.MsgP
open Go.RowKit Go.Proofs.Ytpbbgbikebcnbaa.Ms Go.Proofs.Ytpbbgbikebcnbaa.Mw Go.Proofs.Ytpbbgbikebcnbaa.MsgL Go.Proofs.YtpbbgbikebcnbaaW.PrintWords Go.Proofs.YtpbbgbikebcnbaaW.PrintLast Go.Proofs.YtpbbgbikebcnbaaW.PrintMore
set_option linter.unusedVariables false
set_option linter.unusedSimpArgs false
theorem LOk.nil : LOk [] := ⟨fun x hx => (by cases hx), by decide⟩
theorem may_up : mayM 3 2 1 3 (⟨#[97]⟩ : ByteArray) [] [] = true := by decide
theorem up_f (K : Nat) (hK : BigK K) (k : Nat) (hk : K + 2010 ≤ k) : becketlaw12_up.f k = some true := by
 unfold becketlaw12_up.f
 rw [put_any 3 2 1 3 (⟨#[97]⟩ : ByteArray) [] [] k (by omega), if_pos may_up, Option.bind_some, get_f LOk.nil K hK k hk, Option.bind_some]
 have e : msgE 3 2 1 3 (⟨#[97]⟩ : ByteArray) [] [] = [3, 2, 1, 3, 1, 97, 0, 0] := by
  unfold msgE proofsE txt
  rw [show (3 : Int).toNat = 3 from rfl, show (2 : Int).toNat = 2 from rfl, show (1 : Int).toNat = 1 from rfl, show (⟨#[97]⟩ : ByteArray).size = 1 from rfl, show ([] : List S95).length = 0 from rfl, show ([] : List S61).length = 0 from rfl, enc_small (by decide : 3 < 128), enc_small (by decide : 2 < 128), enc_small (by decide : 1 < 128), enc_small (by decide : 0 < 128)]
  rfl
 rw [if_pos ⟨e, rfl, rfl⟩]
theorem KB_ok : BigK 1010010 := by unfold BigK; decide
def KZ : Nat := 1010010 + 2010 + 30000
theorem KZ_big : 1010010 + 2010 ≤ KZ := by unfold KZ; decide
theorem ok_bytesOf (s : ByteArray) : bytesOk (bytesOf s) := fun y hy => by
 unfold bytesOf at hy
 obtain ⟨z, _, rfl⟩ := List.mem_map.1 hy
 exact ⟨by omega, by have := z.toNat_lt; omega⟩
end Go.Proofs.Ytpbbgbikebcnbaa.MsgP
