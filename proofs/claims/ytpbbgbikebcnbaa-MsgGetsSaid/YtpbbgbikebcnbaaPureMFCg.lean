-- Cut by a program of this session (wip/shake.py) out of a text of this seat: what this claim doesn't reach is struck out. Lean checks it.
import Derived.Test.YtpbbgbikebcnbaaPureMCCg
namespace Go.Proofs.Ytpbbgbikebcnbaa.MsgP
open Go.RowKit Go.Proofs.Ytpbbgbikebcnbaa.Ms Go.Proofs.Ytpbbgbikebcnbaa.Mw Go.Proofs.Ytpbbgbikebcnbaa.MsgL Go.Proofs.YtpbbgbikebcnbaaW.PrintWords Go.Proofs.YtpbbgbikebcnbaaW.PrintLast Go.Proofs.YtpbbgbikebcnbaaW.PrintMore
set_option linter.unusedVariables false
set_option linter.unusedSimpArgs false
def Ag {α : Type} (x y : α × Nat × Bool) : Prop := x.2.2 = y.2.2 ∧ (x.2.2 = false → x = y)
theorem Ag.refl {α : Type} (x : α × Nat × Bool) : Ag x x := ⟨rfl, fun _ => rfl⟩
theorem Ag.two {α : Type} {x y : α × Nat × Bool} (h1 : x.2.2 = true) (h2 : y.2.2 = true) : Ag x y := ⟨h1.trans h2.symm, fun h => by rw [h1] at h; cases h⟩
theorem Ag.or {α : Type} {x y : α × Nat × Bool} (h : Ag x y) : (x.2.2 = true ∧ y.2.2 = true) ∨ x = y := by
  cases hb : x.2.2 with
  | true => exact .inl ⟨rfl, by rw [← h.1, hb]⟩
  | false => exact .inr (h.2 hb)
theorem numOf_bad (l : List Int) (m : Int) (a : Nat) : (numOf l m a true).2.2 = true := rfl
theorem rdNums_bad (l : List Int) : ∀ (m a : Nat) (acc : List Int), (rdNums l m a true acc).2.2 = true
  | 0, _, _ => rfl
  | _ + 1, _, _ => rfl
theorem rdPs_bad {l : List Int} (t : TR l) : ∀ (m a : Nat) (acc : List S95), (rdPs t m a true acc).2.2 = true
  | 0, _, _ => rfl
  | _ + 1, _, _ => rfl
theorem rdCs_bad {l : List Int} (t : TR l) : ∀ (m a : Nat) (acc : List S61), (rdCs t m a true acc).2.2 = true
  | 0, _, _ => rfl
  | _ + 1, _, _ => rfl
theorem rdProofs_bad {l : List Int} (t : TR l) (a : Nat) : (rdProofs t a true).2.2 = true := by
  show (rdPs t _ _ (numOf l 1000 a true).2.2 []).2.2 = true
  rw [numOf_bad, rdPs_bad]
theorem text_ag {l : List Int} (h : LOk l) {a : Nat} (ha : a ≤ l.length) (b : Bool) : Ag (txtOf l a b) (rtxt l a b) := by
  obtain ⟨h1, h2, h3, _⟩ := rtxt_txt h.b (bad := b) ha
  refine ⟨h2.symm, fun hb => ?_⟩
  have h4 := h3 hb
  generalize txtOf l a b = x at *
  generalize rtxt l a b = y at *
  obtain ⟨x1, x2, x3⟩ := x
  obtain ⟨y1, y2, y3⟩ := y
  simp only at h1 h2 h4
  rw [h1, h2, h4]
theorem proof_ag {l : List Int} (h : LOk l) {a : Nat} (ha : a ≤ l.length) (b : Bool) : Ag (rdProof (tp l h) a b) (rdProof (tr l h) a b) := by
  have h1 := num_le h.b ha b
  have h2 := num_le h.b h1 (numOf l 1000 a b).2.2
  have ht := text_ag h h2 (numOf l 1000 (numOf l 1000 a b).2.1 (numOf l 1000 a b).2.2).2.2
  rcases ht.or with ⟨e1, e2⟩ | e
  · refine Ag.two ?_ ?_
    · show (rdNums l _ _ (numOf l 1000 _ (txtOf l _ _).2.2).2.2 []).2.2 = true
      rw [e1, numOf_bad, rdNums_bad]
    · show (rdNums l _ _ (numOf l 1000 _ (rtxt l _ _).2.2).2.2 []).2.2 = true
      rw [e2, numOf_bad, rdNums_bad]
  · unfold rdProof
    dsimp only [tp, tr]
    rw [e]
    exact Ag.refl _
theorem ps_ag {l : List Int} (h : LOk l) : ∀ (m a : Nat) (b : Bool) (acc : List S95), a ≤ l.length → Ag (rdPs (tp l h) m a b acc) (rdPs (tr l h) m a b acc)
  | 0, _, _, _, _ => Ag.refl _
  | m + 1, a, b, acc, ha => by
    rw [rdPs, rdPs]
    cases b with
    | true => exact Ag.refl _
    | false =>
      rw [if_neg (by decide), if_neg (by decide)]
      rcases (proof_ag h ha false).or with ⟨e1, e2⟩ | e
      · rw [e1, e2]
        exact Ag.two (rdPs_bad _ _ _ _) (rdPs_bad _ _ _ _)
      · rw [← e]
        exact ps_ag h m _ _ _ (rdProof_at h.b _ _ ha)
theorem proofs_ag {l : List Int} (h : LOk l) {a : Nat} (ha : a ≤ l.length) (b : Bool) : Ag (rdProofs (tp l h) a b) (rdProofs (tr l h) a b) :=
  ps_ag h _ _ _ _ (num_le h.b ha b)
theorem change_ag {l : List Int} (h : LOk l) {a : Nat} (ha : a ≤ l.length) (b : Bool) : Ag (rdChange (tp l h) a b) (rdChange (tr l h) a b) := by
  have h1 := num_le h.b ha b
  have h2 := num_le h.b h1 (numOf l 1000 a b).2.2
  have ht := proofs_ag h h2 (numOf l 1000 (numOf l 1000 a b).2.1 (numOf l 1000 a b).2.2).2.2
  rcases ht.or with ⟨e1, e2⟩ | e
  · exact Ag.two e1 e2
  · unfold rdChange
    dsimp only
    rw [e]
    exact Ag.refl _
theorem cs_ag {l : List Int} (h : LOk l) : ∀ (m a : Nat) (b : Bool) (acc : List S61), a ≤ l.length → Ag (rdCs (tp l h) m a b acc) (rdCs (tr l h) m a b acc)
  | 0, _, _, _, _ => Ag.refl _
  | m + 1, a, b, acc, ha => by
    rw [rdCs, rdCs]
    cases b with
    | true => exact Ag.refl _
    | false =>
      rw [if_neg (by decide), if_neg (by decide)]
      rcases (change_ag h ha false).or with ⟨e1, e2⟩ | e
      · rw [e1, e2]
        exact Ag.two (rdCs_bad _ _ _ _) (rdCs_bad _ _ _ _)
      · rw [← e]
        exact cs_ag h m _ _ _ (rdChange_at h.b _ _ ha)
def tailM {l : List Int} (t : TR l) (s : ByteArray × Nat × Bool) : List S95 × List S61 × Nat × Bool :=
  ((rdProofs t s.2.1 s.2.2).1, rdCs t (numOf l 1000 (rdProofs t s.2.1 s.2.2).2.1 (rdProofs t s.2.1 s.2.2).2.2).1.toNat (numOf l 1000 (rdProofs t s.2.1 s.2.2).2.1 (rdProofs t s.2.1 s.2.2).2.2).2.1 (numOf l 1000 (rdProofs t s.2.1 s.2.2).2.1 (rdProofs t s.2.1 s.2.2).2.2).2.2 [])
def headD (l : List Int) : Int × Nat × Bool := numOf l 1000 (numOf l 1000 (numOf l 1000 (numOf l 1000 0 false).2.1 (numOf l 1000 0 false).2.2).2.1 (numOf l 1000 (numOf l 1000 0 false).2.1 (numOf l 1000 0 false).2.2).2.2).2.1 (numOf l 1000 (numOf l 1000 (numOf l 1000 0 false).2.1 (numOf l 1000 0 false).2.2).2.1 (numOf l 1000 (numOf l 1000 0 false).2.1 (numOf l 1000 0 false).2.2).2.2).2.2
def mkM (l : List Int) (s : ByteArray × Nat × Bool) (q : List S95 × List S61 × Nat × Bool) : Ms :=
  ⟨(numOf l 1000 0 false).1, (numOf l 1000 (numOf l 1000 0 false).2.1 (numOf l 1000 0 false).2.2).1, (numOf l 1000 (numOf l 1000 (numOf l 1000 0 false).2.1 (numOf l 1000 0 false).2.2).2.1 (numOf l 1000 (numOf l 1000 0 false).2.1 (numOf l 1000 0 false).2.2).2.2).1, (headD l).1, s.1, q.1, q.2.1, q.2.2.1, q.2.2.2⟩
theorem rdMsg_mk {l : List Int} (t : TR l) : rdMsg t = mkM l (t.T (headD l).2.1 (headD l).2.2) (tailM t (t.T (headD l).2.1 (headD l).2.2)) := rfl
theorem headD_at {l : List Int} (h : LOk l) : (headD l).2.1 ≤ l.length := num_le h.b (num_le h.b (num_le h.b (num_le h.b (Nat.zero_le _) _) _) _) _
theorem tail_bad {l : List Int} (t : TR l) (s : ByteArray × Nat × Bool) (h : s.2.2 = true) : (tailM t s).2.2.2 = true := by
  unfold tailM
  dsimp only
  rw [h, rdProofs_bad, numOf_bad, rdCs_bad]
theorem tail_ag {l : List Int} (h : LOk l) (s : ByteArray × Nat × Bool) (h5 : s.2.1 ≤ l.length) : ((tailM (tp l h) s).2.2.2 = true ∧ (tailM (tr l h) s).2.2.2 = true) ∨ tailM (tp l h) s = tailM (tr l h) s := by
  unfold tailM
  have h6 := rdProofs_at h.b (tp l h) s.2.2 h5
  rcases (proofs_ag h h5 s.2.2).or with ⟨e1, e2⟩ | e
  · left
    dsimp only
    rw [e1, e2]
    exact ⟨by rw [numOf_bad, rdCs_bad], by rw [numOf_bad, rdCs_bad]⟩
  · rw [← e]
    generalize rdProofs (tp l h) s.2.1 s.2.2 = p at h6 ⊢
    have h7 := num_le h.b h6 p.2.2
    generalize numOf l 1000 p.2.1 p.2.2 = n at h7 ⊢
    rcases (cs_ag h n.1.toNat n.2.1 n.2.2 [] h7).or with ⟨e1, e2⟩ | e
    · exact .inl ⟨e1, e2⟩
    · rw [e]
      exact .inr rfl
theorem msg_ag {l : List Int} (h : LOk l) : ((rdMsg (tp l h)).bad = true ∧ (rdMsg (tr l h)).bad = true) ∨ rdMsg (tp l h) = rdMsg (tr l h) := by
  rw [rdMsg_mk, rdMsg_mk]
  have ht : Ag ((tp l h).T (headD l).2.1 (headD l).2.2) ((tr l h).T (headD l).2.1 (headD l).2.2) := text_ag h (headD_at h) _
  rcases ht.or with ⟨e1, e2⟩ | e
  · exact .inl ⟨tail_bad _ _ e1, tail_bad _ _ e2⟩
  · rw [← e]
    have h5 := (tp l h).at_ (headD l).2.2 (headD_at h)
    rcases tail_ag h _ h5 with ⟨e1, e2⟩ | e
    · exact .inl ⟨e1, e2⟩
    · rw [e]
      exact .inr rfl
end Go.Proofs.Ytpbbgbikebcnbaa.MsgP
