-- Cut by a program of this session (wip/shake.py) out of a text of this seat: what this claim doesn't reach is struck out. Lean checks it.
import Derived.Test.YtpbbgbikebcnbaaPureMBCx
import Derived.Test.YtpbbgbikebcnbaaMsgR5Cx
namespace Go.Proofs.Ytpbbgbikebcnbaa.MsgP
open Go.RowKit Go.Proofs.Ytpbbgbikebcnbaa.Ms Go.Proofs.Ytpbbgbikebcnbaa.Mw Go.Proofs.Ytpbbgbikebcnbaa.MsgL Go.Proofs.YtpbbgbikebcnbaaW.PrintWords Go.Proofs.YtpbbgbikebcnbaaW.PrintLast Go.Proofs.YtpbbgbikebcnbaaW.PrintMore
set_option linter.unusedVariables false
set_option linter.unusedSimpArgs false
theorem txtOf_at {l : List Int} (hb : bytesOk l) {at_ : Nat} (ha : at_ ≤ l.length) (bad : Bool) : (txtOf l at_ bad).2.1 ≤ l.length := by
 unfold txtOf
 cases bad with
 | true => exact ha
 | false =>
  simp only [Bool.false_eq_true, if_false]
  cases hg : gn 4096 0 0 (l.drop at_) with
  | mk v r =>
   obtain ⟨cc, er⟩ := r
   cases er with
   | none =>
    have hb2 := gn_next 4096 (l.drop at_) v cc (fun x hx => hb x (List.drop_subset _ _ hx)) hg
    simp only
    split
    ·exact ha
    ·show ((at_ : Int) + cc + v).toNat ≤ l.length
     omega
   | some z => exact ha
structure TR (l : List Int) where
 T : Nat → Bool → ByteArray × Nat × Bool
 at_ : ∀ {a : Nat} (b : Bool), a ≤ l.length → (T a b).2.1 ≤ l.length
 bad : ∀ a, (T a true).2.2 = true
def rdNums (l : List Int) : Nat → Nat → Bool → List Int → List Int × Nat × Bool
 | 0, a, bad, acc => (acc, a, bad)
 | m + 1, a, bad, acc => if bad = true then (acc, a, true) else rdNums l m (numOf l 1000 a bad).2.1 (numOf l 1000 a bad).2.2 (acc ++ [(numOf l 1000 a bad).1])
def rdProof {l : List Int} (t : TR l) (a : Nat) (bad : Bool) : S95 × Nat × Bool :=
 let v := numOf l 1000 a bad
 let s := numOf l 1000 v.2.1 v.2.2
 let b := t.T s.2.1 s.2.2
 let k := numOf l 1000 b.2.1 b.2.2
 let f := rdNums l k.1.toNat k.2.1 k.2.2 []
 (⟨v.1, s.1, b.1, f.1⟩, f.2.1, f.2.2)
def rdPs {l : List Int} (t : TR l) : Nat → Nat → Bool → List S95 → List S95 × Nat × Bool
 | 0, a, bad, acc => (acc, a, bad)
 | m + 1, a, bad, acc => if bad = true then (acc, a, true) else rdPs t m (rdProof t a bad).2.1 (rdProof t a bad).2.2 (acc ++ [(rdProof t a bad).1])
def rdProofs {l : List Int} (t : TR l) (a : Nat) (bad : Bool) : List S95 × Nat × Bool :=
 let n := numOf l 1000 a bad
 rdPs t n.1.toNat n.2.1 n.2.2 []
def rdChange {l : List Int} (t : TR l) (a : Nat) (bad : Bool) : S61 × Nat × Bool :=
 let f := numOf l 1000 a bad
 let v := numOf l 1000 f.2.1 f.2.2
 let p := rdProofs t v.2.1 v.2.2
 (⟨f.1, v.1, p.1⟩, p.2.1, p.2.2)
def rdCs {l : List Int} (t : TR l) : Nat → Nat → Bool → List S61 → List S61 × Nat × Bool
 | 0, a, bad, acc => (acc, a, bad)
 | m + 1, a, bad, acc => if bad = true then (acc, a, true) else rdCs t m (rdChange t a bad).2.1 (rdChange t a bad).2.2 (acc ++ [(rdChange t a bad).1])
structure Ms where
 a : Int
 b : Int
 c : Int
 d : Int
 s : ByteArray
 ps : List S95
 cs : List S61
 at_ : Nat
 bad : Bool
def rdMsg {l : List Int} (t : TR l) : Ms :=
 let a := numOf l 1000 0 false
 let b := numOf l 1000 a.2.1 a.2.2
 let c := numOf l 1000 b.2.1 b.2.2
 let d := numOf l 1000 c.2.1 c.2.2
 let s := t.T d.2.1 d.2.2
 let p := rdProofs t s.2.1 s.2.2
 let n := numOf l 1000 p.2.1 p.2.2
 let q := rdCs t n.1.toNat n.2.1 n.2.2 []
 ⟨a.1, b.1, c.1, d.1, s.1, p.1, q.1, q.2.1, q.2.2⟩
theorem num_le {l : List Int} (hb : bytesOk l) {a : Nat} (ha : a ≤ l.length) (bad : Bool) : (numOf l 1000 a bad).2.1 ≤ l.length := (numOf_at hb 1000 (by decide) ha bad).1
theorem num_lo {l : List Int} (hb : bytesOk l) {a : Nat} (ha : a ≤ l.length) (bad : Bool) : 0 ≤ (numOf l 1000 a bad).1 ∧ (numOf l 1000 a bad).1 ≤ 1000 := (numOf_at hb 1000 (by decide) ha bad).2
theorem rdNums_at {l : List Int} (hb : bytesOk l) : ∀ (m a : Nat) (bad : Bool) (acc : List Int), a ≤ l.length → (rdNums l m a bad acc).2.1 ≤ l.length
 | 0, a, bad, acc, ha => ha
 | m + 1, a, bad, acc, ha => by
  rw [rdNums]
  split
  ·exact ha
  ·exact rdNums_at hb m _ _ _ (num_le hb ha bad)
theorem rdProof_at {l : List Int} (hb : bytesOk l) (t : TR l) {a : Nat} (bad : Bool) (ha : a ≤ l.length) : (rdProof t a bad).2.1 ≤ l.length :=
 rdNums_at hb _ _ _ _ (num_le hb (t.at_ _ (num_le hb (num_le hb ha _) _)) _)
theorem rdPs_at {l : List Int} (hb : bytesOk l) (t : TR l) : ∀ (m a : Nat) (bad : Bool) (acc : List S95), a ≤ l.length → (rdPs t m a bad acc).2.1 ≤ l.length
 | 0, a, bad, acc, ha => ha
 | m + 1, a, bad, acc, ha => by
  rw [rdPs]
  split
  ·exact ha
  ·exact rdPs_at hb t m _ _ _ (rdProof_at hb t bad ha)
theorem rdProofs_at {l : List Int} (hb : bytesOk l) (t : TR l) {a : Nat} (bad : Bool) (ha : a ≤ l.length) : (rdProofs t a bad).2.1 ≤ l.length :=
 rdPs_at hb t _ _ _ _ (num_le hb ha _)
theorem rdChange_at {l : List Int} (hb : bytesOk l) (t : TR l) {a : Nat} (bad : Bool) (ha : a ≤ l.length) : (rdChange t a bad).2.1 ≤ l.length :=
 rdProofs_at hb t _ (num_le hb (num_le hb ha _) _)
structure LOk (l : List Int) : Prop where
 b : bytesOk l
 n : l.length ≤ 100000000
def tp (l : List Int) (h : LOk l) : TR l := ⟨fun a b => txtOf l a b, fun b ha => txtOf_at h.b ha b, fun a => rfl⟩
theorem num_r {l : List Int} (h : LOk l) {a : Nat} (ha : a ≤ l.length) (bad : Bool) : msg_reader_num.f l (a : Int) bad = some ((numOf l 1000 a bad).1, (((numOf l 1000 a bad).2.1 : Nat) : Int), (numOf l 1000 a bad).2.2) := by
 unfold msg_reader_num.f
 rw [if_pos (rdOk_mk h.b h.n ha), Int.toNat_natCast]
theorem text_r {l : List Int} (h : LOk l) {a : Nat} (ha : a ≤ l.length) (bad : Bool) : msg_reader_text.f l (a : Int) bad = some ((txtOf l a bad).1, (((txtOf l a bad).2.1 : Nat) : Int), (txtOf l a bad).2.2) := by
 unfold msg_reader_text.f
 rw [if_pos (rdOk_mk h.b h.n ha), Int.toNat_natCast]
theorem toN {l : List Int} (h : LOk l) {a : Nat} (ha : a ≤ l.length) (bad : Bool) : (numOf l 1000 a bad).1 = (((numOf l 1000 a bad).1.toNat : Nat) : Int) := (Int.toNat_of_nonneg (num_lo h.b ha bad).1).symm
theorem toN_le {l : List Int} (h : LOk l) {a : Nat} (ha : a ≤ l.length) (bad : Bool) : (numOf l 1000 a bad).1.toNat ≤ 1000 := by have := num_lo h.b ha bad; omega
theorem proofs_l1 {l : List Int} (h : LOk l) (x3 : List S95) (x4 : Int) (v s : Int) (b : ByteArray) (hx : x3.length ≤ 2000) : ∀ (m k a : Nat) (bad : Bool) (fr : List Int), a ≤ l.length → fr.length + m ≤ 2000 → m + 2 ≤ k →
  ∃ k', k ≤ k' + m + 1 ∧ msg_reader_proofs.l1 k x3 x4 m l a bad v s b fr = msg_reader_proofs.l0 k' (x3 ++ [⟨v, s, b, (rdNums l m a bad fr).1⟩]) (wrap64 (x4 - 1)) l (((rdNums l m a bad fr).2.1 : Nat) : Int) (rdNums l m a bad fr).2.2
 | 0, k, a, bad, fr, ha, hf, hk => by
  obtain ⟨k, rfl⟩ : ∃ k', k = k' + 1 := ⟨k - 1, by omega⟩
  refine ⟨k, by omega, ?_⟩
  rw [msg_reader_proofs.l1, if_neg (by omega), if_pos (by omega)]
  rfl
 | m + 1, k, a, bad, fr, ha, hf, hk => by
  obtain ⟨k, rfl⟩ : ∃ k', k = k' + 1 := ⟨k - 1, by omega⟩
  rw [msg_reader_proofs.l1, if_pos (by omega)]
  cases bad with
  | true =>
   refine ⟨k, by omega, ?_⟩
   rw [if_pos rfl, if_pos (by omega)]
   rfl
  | false =>
   rw [if_neg (by decide), num_r h ha, Option.bind_some, if_pos (by omega), wz' (z := ((m + 1 : Nat) : Int) - 1) (y := (m : Int)) (by omega) (by omega) (by omega)]
   obtain ⟨k', h1, h2⟩ := proofs_l1 h x3 x4 v s b hx m k _ (numOf l 1000 a false).2.2 (fr ++ [(numOf l 1000 a false).1]) (num_le h.b ha false) (by rw [List.length_append, List.length_singleton]; omega) (by omega)
   refine ⟨k', by omega, ?_⟩
   rw [h2]
   rfl
theorem proofs_l0 {l : List Int} (h : LOk l) : ∀ (n k a : Nat) (bad : Bool) (acc : List S95), a ≤ l.length → acc.length + n ≤ 2000 → 1010 * n + 10 ≤ k →
  msg_reader_proofs.l0 k acc n l a bad = some ((rdPs (tp l h) n a bad acc).1, (((rdPs (tp l h) n a bad acc).2.1 : Nat) : Int), (rdPs (tp l h) n a bad acc).2.2)
 | 0, k, a, bad, acc, ha, hn, hk => by
  obtain ⟨k, rfl⟩ : ∃ k', k = k' + 2 := ⟨k - 2, by omega⟩
  rw [msg_reader_proofs.l0, if_neg (by omega), msg_reader_proofs.j1, if_neg (by decide)]
  rfl
 | n + 1, k, a, bad, acc, ha, hn, hk => by
  obtain ⟨k, rfl⟩ : ∃ k', k = k' + 2 := ⟨k - 2, by omega⟩
  rw [msg_reader_proofs.l0, if_pos (by omega), msg_reader_proofs.j1]
  cases bad with
  | true => rw [if_neg (by decide)]; rfl
  | false =>
   have h1 := num_le h.b ha false
   have h2 := num_le h.b h1 (numOf l 1000 a false).2.2
   rw [if_pos (by decide), num_r h ha, Option.bind_some, num_r h h1, Option.bind_some, text_r h h2, Option.bind_some]
   have h3 := txtOf_at h.b h2 (numOf l 1000 (numOf l 1000 a false).2.1 (numOf l 1000 a false).2.2).2.2
   rw [num_r h h3, Option.bind_some]
   simp only
   rw [toN h h3]
   have h4 := num_le h.b h3 (txtOf l (numOf l 1000 (numOf l 1000 a false).2.1 (numOf l 1000 a false).2.2).2.1 (numOf l 1000 (numOf l 1000 a false).2.1 (numOf l 1000 a false).2.2).2.2).2.2
   have h5 := toN_le h h3 (txtOf l (numOf l 1000 (numOf l 1000 a false).2.1 (numOf l 1000 a false).2.2).2.1 (numOf l 1000 (numOf l 1000 a false).2.1 (numOf l 1000 a false).2.2).2.2).2.2
   have key := fun (m : Nat) (hm : m ≤ 1000) => proofs_l1 h acc ((n + 1 : Nat) : Int) (numOf l 1000 a false).1 (numOf l 1000 (numOf l 1000 a false).2.1 (numOf l 1000 a false).2.2).1 (txtOf l (numOf l 1000 (numOf l 1000 a false).2.1 (numOf l 1000 a false).2.2).2.1 (numOf l 1000 (numOf l 1000 a false).2.1 (numOf l 1000 a false).2.2).2.2).1 (by omega) m k _ (numOf l 1000 (txtOf l (numOf l 1000 (numOf l 1000 a false).2.1 (numOf l 1000 a false).2.2).2.1 (numOf l 1000 (numOf l 1000 a false).2.1 (numOf l 1000 a false).2.2).2.2).2.1 (txtOf l (numOf l 1000 (numOf l 1000 a false).2.1 (numOf l 1000 a false).2.2).2.1 (numOf l 1000 (numOf l 1000 a false).2.1 (numOf l 1000 a false).2.2).2.2).2.2).2.2 [] h4 (by rw [List.length_nil]; omega) (by omega)
   obtain ⟨k', g1, g2⟩ := key _ h5
   rw [g2, wz' (z := ((n + 1 : Nat) : Int) - 1) (y := (n : Int)) (by omega) (by omega) (by omega)]
   exact proofs_l0 h n k' _ _ _ (rdProof_at h.b (tp l h) false ha) (by rw [List.length_append, List.length_singleton]; omega) (by omega)
theorem proofs_r {l : List Int} (h : LOk l) {a : Nat} (ha : a ≤ l.length) (bad : Bool) (k : Nat) (hk : 1010 * 1000 + 10 ≤ k) : msg_reader_proofs.f k l a bad = some ((rdProofs (tp l h) a bad).1, (((rdProofs (tp l h) a bad).2.1 : Nat) : Int), (rdProofs (tp l h) a bad).2.2) := by
 unfold msg_reader_proofs.f
 rw [num_r h ha, Option.bind_some]
 simp only
 rw [toN h ha]
 have h5 := toN_le h ha bad
 exact proofs_l0 h _ k _ _ [] (num_le h.b ha bad) (by rw [List.length_nil]; omega) (Nat.le_trans (Nat.add_le_add_right (Nat.mul_le_mul_left 1010 h5) 10) hk)
theorem rtxt_bad (l : List Int) (a : Nat) : (rtxt l a true).2.2 = true := rfl
def tr (l : List Int) (h : LOk l) : TR l := ⟨fun a b => rtxt l a b, fun b ha => (rtxt_txt h.b ha).2.2.2, fun a => rtxt_bad l a⟩
theorem rnum_r {l : List Int} (h : LOk l) {a : Nat} (ha : a ≤ l.length) (bad : Bool) : becketref01_Reader_Num.f l (a : Int) bad 1000 = some ((numOf l 1000 a bad).1, (((numOf l 1000 a bad).2.1 : Nat) : Int), (numOf l 1000 a bad).2.2) := by
 unfold becketref01_Reader_Num.f
 rw [if_pos ⟨rdOk_mk h.b h.n ha, by decide, by unfold big31; decide⟩, Int.toNat_natCast]
theorem rtext_r {l : List Int} (h : LOk l) {a : Nat} (ha : a ≤ l.length) (bad : Bool) : becketref01_Reader_Text.f l (a : Int) bad = some ((rtxt l a bad).1, (((rtxt l a bad).2.1 : Nat) : Int), (rtxt l a bad).2.2) := by
 unfold becketref01_Reader_Text.f
 rw [if_pos (rdOk_mk h.b h.n ha), Int.toNat_natCast]
theorem rproofs_l1 {l : List Int} (h : LOk l) (x3 : List S95) (x4 : Int) (i : Nat) (v s : Int) (b : ByteArray) (hx : x3.length ≤ 2000) (hi : i ≤ 2000) : ∀ (m k j a : Nat) (bad : Bool) (fr : List Int), a ≤ l.length → fr.length + m ≤ 2000 → j + m ≤ 2000 → m + 2 ≤ k →
  ∃ k', k ≤ k' + m + 1 ∧ becketref12_get.l1 k x3 x4 i ((j + m : Nat) : Int) j l a bad v s b fr = becketref12_get.l0 k' (x3 ++ [⟨v, s, b, (rdNums l m a bad fr).1⟩]) x4 ((i + 1 : Nat) : Int) l (((rdNums l m a bad fr).2.1 : Nat) : Int) (rdNums l m a bad fr).2.2
 | 0, k, j, a, bad, fr, ha, hf, hj, hk => by
  obtain ⟨k, rfl⟩ : ∃ k', k = k' + 1 := ⟨k - 1, by omega⟩
  refine ⟨k, by omega, ?_⟩
  rw [becketref12_get.l1, if_neg (by omega), if_pos (by omega), wz' (z := (i : Int) + 1) (y := ((i + 1 : Nat) : Int)) (by omega) (by omega) (by omega)]
  rfl
 | m + 1, k, j, a, bad, fr, ha, hf, hj, hk => by
  obtain ⟨k, rfl⟩ : ∃ k', k = k' + 1 := ⟨k - 1, by omega⟩
  rw [becketref12_get.l1, if_pos (by omega)]
  cases bad with
  | true =>
   refine ⟨k, by omega, ?_⟩
   rw [if_pos rfl, if_pos (by omega), wz' (z := (i : Int) + 1) (y := ((i + 1 : Nat) : Int)) (by omega) (by omega) (by omega)]
   rfl
  | false =>
   rw [if_neg (by decide), rnum_r h ha, Option.bind_some, if_pos (by omega), wz' (z := (j : Int) + 1) (y := ((j + 1 : Nat) : Int)) (by omega) (by omega) (by omega)]
   obtain ⟨k', h1, h2⟩ := rproofs_l1 h x3 x4 i v s b hx hi m k (j + 1) _ (numOf l 1000 a false).2.2 (fr ++ [(numOf l 1000 a false).1]) (num_le h.b ha false) (by rw [List.length_append, List.length_singleton]; omega) (by omega) (by omega)
   refine ⟨k', by omega, ?_⟩
   rw [show j + (m + 1) = j + 1 + m from by omega, h2]
   rfl
theorem rproofs_l0 {l : List Int} (h : LOk l) : ∀ (n k i a : Nat) (bad : Bool) (acc : List S95), a ≤ l.length → acc.length + n ≤ 2000 → i + n ≤ 2000 → 1010 * n + 10 ≤ k →
  becketref12_get.l0 k acc ((i + n : Nat) : Int) i l a bad = some ((rdPs (tr l h) n a bad acc).1, (((rdPs (tr l h) n a bad acc).2.1 : Nat) : Int), (rdPs (tr l h) n a bad acc).2.2)
 | 0, k, i, a, bad, acc, ha, hn, hi, hk => by
  obtain ⟨k, rfl⟩ : ∃ k', k = k' + 2 := ⟨k - 2, by omega⟩
  rw [becketref12_get.l0, if_neg (by omega), becketref12_get.j1, if_neg (by decide)]
  rfl
 | n + 1, k, i, a, bad, acc, ha, hn, hi, hk => by
  obtain ⟨k, rfl⟩ : ∃ k', k = k' + 2 := ⟨k - 2, by omega⟩
  rw [becketref12_get.l0, if_pos (by omega), becketref12_get.j1]
  cases bad with
  | true => rw [if_neg (by decide)]; rfl
  | false =>
   have h1 := num_le h.b ha false
   have h2 := num_le h.b h1 (numOf l 1000 a false).2.2
   rw [if_pos (by decide), rnum_r h ha, Option.bind_some, rnum_r h h1, Option.bind_some, rtext_r h h2, Option.bind_some]
   have h3 := (rtxt_txt h.b (bad := (numOf l 1000 (numOf l 1000 a false).2.1 (numOf l 1000 a false).2.2).2.2) h2).2.2.2
   rw [rnum_r h h3, Option.bind_some]
   simp only
   rw [toN h h3]
   have h4 := num_le h.b h3 (rtxt l (numOf l 1000 (numOf l 1000 a false).2.1 (numOf l 1000 a false).2.2).2.1 (numOf l 1000 (numOf l 1000 a false).2.1 (numOf l 1000 a false).2.2).2.2).2.2
   have h5 := toN_le h h3 (rtxt l (numOf l 1000 (numOf l 1000 a false).2.1 (numOf l 1000 a false).2.2).2.1 (numOf l 1000 (numOf l 1000 a false).2.1 (numOf l 1000 a false).2.2).2.2).2.2
   have key := fun (m : Nat) (hm : m ≤ 1000) => rproofs_l1 h acc ((i + (n + 1) : Nat) : Int) i (numOf l 1000 a false).1 (numOf l 1000 (numOf l 1000 a false).2.1 (numOf l 1000 a false).2.2).1 (rtxt l (numOf l 1000 (numOf l 1000 a false).2.1 (numOf l 1000 a false).2.2).2.1 (numOf l 1000 (numOf l 1000 a false).2.1 (numOf l 1000 a false).2.2).2.2).1 (by omega) (by omega) m k 0 _ (numOf l 1000 (rtxt l (numOf l 1000 (numOf l 1000 a false).2.1 (numOf l 1000 a false).2.2).2.1 (numOf l 1000 (numOf l 1000 a false).2.1 (numOf l 1000 a false).2.2).2.2).2.1 (rtxt l (numOf l 1000 (numOf l 1000 a false).2.1 (numOf l 1000 a false).2.2).2.1 (numOf l 1000 (numOf l 1000 a false).2.1 (numOf l 1000 a false).2.2).2.2).2.2).2.2 [] h4 (by rw [List.length_nil]; omega) (by omega) (by omega)
   obtain ⟨k', g1, g2⟩ := key _ h5
   rw [Nat.zero_add] at g2
   refine g2.trans ?_
   rw [show i + (n + 1) = i + 1 + n from by omega]
   exact rproofs_l0 h n k' (i + 1) _ _ _ (rdProof_at h.b (tr l h) false ha) (by rw [List.length_append, List.length_singleton]; omega) (by omega) (by omega)
theorem rproofs_r {l : List Int} (h : LOk l) {a : Nat} (ha : a ≤ l.length) (bad : Bool) (k : Nat) (hk : 1010 * 1000 + 10 ≤ k) : becketref12_get.f k l a bad = some ((rdProofs (tr l h) a bad).1, (((rdProofs (tr l h) a bad).2.1 : Nat) : Int), (rdProofs (tr l h) a bad).2.2) := by
 unfold becketref12_get.f
 rw [rnum_r h ha, Option.bind_some]
 simp only
 rw [toN h ha]
 have h5 := toN_le h ha bad
 have := rproofs_l0 h _ k 0 _ (numOf l 1000 a bad).2.2 [] (num_le h.b ha bad) (by rw [List.length_nil]; omega) (by omega) (Nat.le_trans (Nat.add_le_add_right (Nat.mul_le_mul_left 1010 h5) 10) hk)
 rw [Nat.zero_add] at this
 exact this
end Go.Proofs.Ytpbbgbikebcnbaa.MsgP
