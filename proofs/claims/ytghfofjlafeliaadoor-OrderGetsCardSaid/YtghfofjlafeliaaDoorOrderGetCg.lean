-- Cut by a program of this session (wip/shake.py) out of a text of this seat: what this claim doesn't reach is struck out. Lean checks it.
import Derived.Test.YtghfofjlafeliaaDoorOrderFnsCg
namespace Go.Proofs.YtghfofjlafeliaaDoor.Order
open Go.RowKit Go.Proofs.YtghfofjlafeliaaDoor.Ow Go.Proofs.YtghfofjlafeliaaDoorW.PrintWords Go.Proofs.YtghfofjlafeliaaDoorW.PrintLast Go.Proofs.YtghfofjlafeliaaDoorW.PrintMore
set_option linter.unusedVariables false
set_option linter.unusedSimpArgs false
theorem numOf_at {l : List Int} (hb : bytesOk l) (most : Int) {at_ : Nat} (ha : at_ ≤ l.length) (bad : Bool) : (numOf l most at_ bad).2.1 ≤ l.length ∧ 0 ≤ (numOf l most at_ bad).1 ∧ ((numOf l most at_ bad).1 ≤ most ∨ (numOf l most at_ bad).1 = 0) := by
  unfold numOf
  cases bad with
  | true => exact ⟨ha, Int.le_refl _, .inr rfl⟩
  | false =>
    simp only [Bool.false_eq_true, if_false]
    cases hg : gat (at_ : Int) (gn most 0 0 (l.drop at_)) with
    | mk v r =>
      obtain ⟨nx, er⟩ := r
      cases er with
      | none =>
        have hgn := gat_none hg
        have hb2 := gn_next most (l.drop at_) v (nx - at_) (fun x hx => hb x (List.drop_subset _ _ hx)) hgn
        rw [List.length_drop] at hb2
        refine ⟨?_, hb2.1, .inl hb2.2.1⟩
        show nx.toNat ≤ l.length
        omega
      | some z => exact ⟨ha, Int.le_refl _, .inr rfl⟩
theorem txtOf_at {l : List Int} (hb : bytesOk l) {at_ : Nat} (ha : at_ ≤ l.length) (bad : Bool) : (txtOf l at_ bad).2.1 ≤ l.length := by
  unfold txtOf
  cases bad with
  | true => exact ha
  | false =>
    simp only [Bool.false_eq_true, if_false]
    cases hg : gn 4096 0 0 (l.drop at_) with
    | mk v r =>
      obtain ⟨cc, er⟩ := r
      cases er with
      | none =>
        have hb2 := gn_next 4096 (l.drop at_) v cc (fun x hx => hb x (List.drop_subset _ _ hx)) hg
        simp only
        split
        · exact ha
        · show ((at_ : Int) + cc + v).toNat ≤ l.length
          omega
      | some z => exact ha
theorem nat_wrap {m : Nat} (h : m ≤ 65536) : wrap64 (m : Int) = (m : Int) := by unfold wrap64; omega
def readKeys (l : List Int) : Nat → Nat → Bool → List ByteArray → List ByteArray × Nat × Bool
  | 0, at_, bad, ks => (ks, at_, bad)
  | m + 1, at_, bad, ks => if bad = true then (ks, at_, true) else readKeys l m (txtOf l at_ bad).2.1 (txtOf l at_ bad).2.2 (ks ++ [(txtOf l at_ bad).1])
structure Rq where
  cl : Int
  tm : Int
  kd : Int
  nm : ByteArray
  pt : ByteArray
  n : Int
structure Hd where
  cl : Int × Nat × Bool
  tm : Int × Nat × Bool
  kd : Int × Nat × Bool
  n : Int × Nat × Bool
  nm : ByteArray × Nat × Bool
  pt : ByteArray × Nat × Bool
  ct : Int × Nat × Bool
def headOf (l : List Int) : Hd :=
  let cl := numOf l 65536 0 false
  let tm := numOf l 65536 cl.2.1 cl.2.2
  let kd := numOf l 65536 tm.2.1 tm.2.2
  let n := numOf l 65536 kd.2.1 kd.2.2
  let nm := txtOf l n.2.1 n.2.2
  let pt := txtOf l nm.2.1 nm.2.2
  ⟨cl, tm, kd, n, nm, pt, numOf l 65536 pt.2.1 pt.2.2⟩
theorem num_g {g : Nat} {w0 W : World} {A : Option Addr} {c : Nat} {l : List Int} {at_ : Nat} {bad : Bool} (hg : w0.heap.size = g) (h : RS 54 w0 W A l.length c at_ bad) (hC : Kd.C (Kd.int .u8) w0 A l.length l) (hc : l.length ≤ c) (hL : bytesOk l ∧ l.length ≤ 1000000) (ha : at_ ≤ l.length) :
    Calls Tryd.prog 23 #[.pointer (some ⟨g, 0, none⟩)] W fun e w' => ∃ q, q = numOf l 65536 at_ bad ∧ e = .returned (.int .i64 q.1) ∧ RS 54 w0 w' A l.length c q.2.1 q.2.2 ∧ Kept W w' (fun k => k = g) ∧ (q.2.1 ≤ l.length ∧ 0 ≤ q.1 ∧ (q.1 ≤ 65536 ∨ q.1 = 0)) := by
  subst hg
  exact (num_calls w0 W A c l at_ bad h hC hc hL.1 hL.2 ha).mono fun e w' ⟨h1, h2, h3, _⟩ => ⟨_, rfl, h1, h2, h3, numOf_at hL.1 65536 ha bad⟩
theorem text_g {g : Nat} {w0 W : World} {A : Option Addr} {c : Nat} {l : List Int} {at_ : Nat} {bad : Bool} (hg : w0.heap.size = g) (h : RS 54 w0 W A l.length c at_ bad) (hC : Kd.C (Kd.int .u8) w0 A l.length l) (hc : l.length ≤ c) (hL : bytesOk l ∧ l.length ≤ 1000000) (ha : at_ ≤ l.length) :
    Calls Tryd.prog 24 #[.pointer (some ⟨g, 0, none⟩)] W fun e w' => ∃ q, q = txtOf l at_ bad ∧ e = .returned (.string q.1) ∧ RS 54 w0 w' A l.length c q.2.1 q.2.2 ∧ Kept W w' (fun k => k = g) ∧ q.2.1 ≤ l.length := by
  subst hg
  exact (text_calls w0 W A c l at_ bad h hC hc hL.1 hL.2 ha).mono fun e w' ⟨h1, h2, h3, _⟩ => ⟨_, rfl, h1, h2, h3, txtOf_at hL.1 ha bad⟩
def GS (w0 W : World) (gq : Nat) (A : Option Addr) (n c : Nat) (at_ : Nat) (bad : Bool) (cells : Array Value) : Prop :=
  RS 54 w0 W A n c at_ bad ∧ w0.heap.size < gq ∧ W.heap[gq]? = some (.cells cells 26 (0, 0))
theorem GS.step {w0 W w' : World} {gq n c at_ at2 : Nat} {A : Option Addr} {bad b2 : Bool} {cells : Array Value} {g : Nat} (hg : w0.heap.size = g) (h : GS w0 W gq A n c at_ bad cells) (h2 : RS 54 w0 w' A n c at2 b2) (hk : Kept W w' (fun k => k = g)) : GS w0 w' gq A n c at2 b2 cells :=
  ⟨h2, h.2.1, blk_kept h.2.2 hk (by have := h.2.1; omega)⟩
theorem GS.set {w0 W : World} {gq n c at_ : Nat} {A : Option Addr} {bad : Bool} {cells : Array Value} (h : GS w0 W gq A n c at_ bad cells) (j : Nat) (u : Value) : GS w0 (W.setCell ⟨gq, j, none⟩ u) gq A n c at_ bad (cells.setIfInBounds j u) := by
  obtain ⟨⟨h1, h2⟩, h3, h4⟩ := h
  refine ⟨⟨?_, h2.setCell (Nat.le_of_lt h3) _⟩, h3, ?_⟩
  · exact blk_far h1 (p := ⟨gq, j, none⟩) (by show w0.heap.size ≠ gq; omega) u
  · have := blk_set h4 j u
    simpa using this
theorem GS.grown {w0 W w1 : World} {gq n c at_ : Nat} {A : Option Addr} {bad : Bool} {cells : Array Value} {row : Option Nat} {X : Nat → Prop} (h : GS w0 W gq A n c at_ bad cells) (hg : W.grownBy w1 row) (hb : Below w0.heap.size w0 w1) (hr : ∀ k, row = some k → k ≠ gq ∧ k ≠ w0.heap.size ∧ X k) : GS w0 w1 gq A n c at_ bad cells :=
  ⟨⟨blk_grown h.1.1 hg (fun e => (hr _ e.symm).2.1 rfl), hb⟩, h.2.1, blk_grown h.2.2 hg (fun e => (hr _ e.symm).1 rfl)⟩
theorem GS.cell {w0 W : World} {gq n c at_ : Nat} {A : Option Addr} {bad : Bool} {cells : Array Value} (h : GS w0 W gq A n c at_ bad cells) (j : Nat) : W.cell? ⟨gq, j, none⟩ = cells[j]? := blk_cell h.2.2 j
theorem GS.frozen {w0 W : World} {gq n c at_ : Nat} {A : Option Addr} {bad : Bool} {cells : Array Value} (h : GS w0 W gq A n c at_ bad cells) (j : Nat) : W.frozen? ⟨gq, j, none⟩ = false := blk_frozen h.2.2 j
def ZB (w w0 : World) : Prop := w0.heap[w.heap.size]? = some (.cells #[.int .i64 0, .int .i64 0, .int .i64 0, .string ⟨#[]⟩, .string ⟨#[]⟩, .slice none 0 0, .int .i64 0] 26 (0, 0)) ∧ w0.heap.size = w.heap.size + 1
theorem ZB.below {w w0 W : World} (h : ZB w w0) (hb : Below w0.heap.size w0 W) : W.heap[w.heap.size]? = some (.cells #[.int .i64 0, .int .i64 0, .int .i64 0, .string ⟨#[]⟩, .string ⟨#[]⟩, .slice none 0 0, .int .i64 0] 26 (0, 0)) := by
  rw [← h.1]
  exact hb.block _ (by rw [h.2]; omega)
theorem put7 {W : World} {g t : Nat} {a0 a1 a2 a3 a4 a5 a6 : Value} (h : W.heap[g]? = some (.cells #[a0, a1, a2, a3, a4, a5, a6] t (0, 0))) (u0 u1 u2 u3 u4 u5 u6 : Value) :
    (((((((W.setCell ⟨g, 0, none⟩ u0).setCell ⟨g, 1, none⟩ u1).setCell ⟨g, 2, none⟩ u2).setCell ⟨g, 3, none⟩ u3).setCell ⟨g, 4, none⟩ u4).setCell ⟨g, 5, none⟩ u5).setCell ⟨g, 6, none⟩ u6).heap[g]? = some (.cells #[u0, u1, u2, u3, u4, u5, u6] t (0, 0)) := by
  have h0 := blk_set h 0 u0
  have h1 := blk_set h0 1 u1
  have h2 := blk_set h1 2 u2
  have h3 := blk_set h2 3 u3
  have h4 := blk_set h3 4 u4
  have h5 := blk_set h4 5 u5
  have h6 := blk_set h5 6 u6
  simpa using h6
theorem below7 {B : Nat} {w W : World} {g : Nat} (h : Below B w W) (hg : B ≤ g) (u0 u1 u2 u3 u4 u5 u6 : Value) :
    Below B w (((((((W.setCell ⟨g, 0, none⟩ u0).setCell ⟨g, 1, none⟩ u1).setCell ⟨g, 2, none⟩ u2).setCell ⟨g, 3, none⟩ u3).setCell ⟨g, 4, none⟩ u4).setCell ⟨g, 5, none⟩ u5).setCell ⟨g, 6, none⟩ u6) :=
  ((((((h.setCell hg _).setCell hg _).setCell hg _).setCell hg _).setCell hg _).setCell hg _).setCell hg _
theorem far7 {α : Type} {d : Kd α} {e base : Nat} {ok : Nat → Prop} {W : World} {v : Value} {xs : List α} {g : Nat} (h : d.R e W base ok v xs) (hg : ∀ k, ok k → k ≠ g) (u0 u1 u2 u3 u4 u5 u6 : Value) :
    d.R e (((((((W.setCell ⟨g, 0, none⟩ u0).setCell ⟨g, 1, none⟩ u1).setCell ⟨g, 2, none⟩ u2).setCell ⟨g, 3, none⟩ u3).setCell ⟨g, 4, none⟩ u4).setCell ⟨g, 5, none⟩ u5).setCell ⟨g, 6, none⟩ u6) base ok v xs :=
  Kd.R_far (p := ⟨g, 6, none⟩) (Kd.R_far (p := ⟨g, 5, none⟩) (Kd.R_far (p := ⟨g, 4, none⟩) (Kd.R_far (p := ⟨g, 3, none⟩) (Kd.R_far (p := ⟨g, 2, none⟩) (Kd.R_far (p := ⟨g, 1, none⟩) (Kd.R_far (p := ⟨g, 0, none⟩) h hg _) hg _) hg _) hg _) hg _) hg _) hg _
def keysOfL (l : List Int) : List ByteArray × Nat × Bool := readKeys l (headOf l).ct.1.toNat (headOf l).ct.2.1 (headOf l).ct.2.2 []
def wholeOf (l : List Int) : Bool := !(keysOfL l).2.2 && decide (l.length ≤ (keysOfL l).2.1)
def ckV : Option Int → Value
  | none => .nilIface
  | some z => .iface 36 (.int .i64 z)
def GetPost (w : World) (l : List Int) (ck : Option Int) (e : Ending) (w' : World) : Prop :=
      (if wholeOf l = true ∧ ck = none then ∃ v : Value, e = .returned (.tuple #[.agg #[.int .i64 (headOf l).cl.1, .int .i64 (headOf l).tm.1, .int .i64 (headOf l).kd.1, .string (headOf l).nm.1, .string (headOf l).pt.1, v, .int .i64 (headOf l).n.1], .nilIface]) ∧ Kd.R Kd.string 9 w' w.heap.size (fun _ => True) v (keysOfL l).1
        else e = .returned (.tuple #[.agg #[.int .i64 0, .int .i64 0, .int .i64 0, .string ⟨#[]⟩, .string ⟨#[]⟩, .slice none 0 0, .int .i64 0], .iface 36 (.int .i64 2)])) ∧ Below w.heap.size w w'
set_option maxHeartbeats 8000000 in
set_option maxRecDepth 100000 in
theorem get_calls (w : World) (A : Option Addr) (c : Nat) (l : List Int) (hC : Kd.C (Kd.int .u8) w A l.length l) (hc : l.length ≤ c) (hb : bytesOk l) (hl : l.length ≤ 1000000) (ck : Option Int)
    (hchk : ∀ (W : World) (A0 : Option Addr) (c0 : Nat), Kd.C Kd.string W A0 (keysOfL l).1.length (keysOfL l).1 → (keysOfL l).1.length ≤ c0 →
      Calls Tryd.prog 10 #[.agg #[.int .i64 (headOf l).cl.1, .int .i64 (headOf l).tm.1, .int .i64 (headOf l).kd.1, .string (headOf l).nm.1, .string (headOf l).pt.1, .slice A0 (keysOfL l).1.length c0, .int .i64 (headOf l).n.1]] W fun e w' => e = .returned (ckV ck) ∧ Below W.heap.size W w') :
    Calls Tryd.prog 14 #[.slice A l.length c] w (GetPost w l ck) := by
  have HCK := Lib.hid hchk
  clear hchk
  obtain ⟨w0, hw0⟩ : ∃ x, x = w.alloc (.cells #[.int .i64 0, .int .i64 0, .int .i64 0, .string ⟨#[]⟩, .string ⟨#[]⟩, .slice none 0 0, .int .i64 0] 26) := ⟨_, rfl⟩
  have hsz : w0.heap.size = w.heap.size + 1 := by rw [hw0]; simp
  have HC := Lib.hid (show Kd.C (Kd.int .u8) w0 A l.length l by rw [hw0]; exact Kd.C_alloc hC _)
  have HB0 := Lib.hid (show Below w.heap.size w w0 by rw [hw0]; exact (Below.refl _ w).alloc (Nat.le_refl _) _)
  have HR0 := Lib.hid (show RS 54 w0 (w0.alloc (.cells #[.slice A l.length c, .int .i64 ((0 : Nat) : Int), .bool false] 54)) A l.length c 0 false from ⟨heap_alloc_new w0 _, (Below.refl _ w0).alloc (Nat.le_refl _) _⟩)
  have HZ : Hid (ZB w w0) := Lib.hid ⟨by rw [hw0]; exact heap_alloc_new w _, hsz⟩
  clear hC
  have HL : Hid (bytesOk l ∧ l.length ≤ 1000000) := Lib.hid ⟨hb, hl⟩
  clear hb hl
  go_enter Tryd.func14, Tryd.ntmps14
  go_wp2_with fail
  rw [← hw0]
  refine (num_g hsz HR0.out HC.out hc HL.out (Nat.zero_le _)).mono ?_
  rintro e w1 ⟨q1, hq1, rfl, hr, hk, ha⟩
  have R1 := Lib.hid hr
  have A1 := Lib.hid ha
  have Q1 := Lib.hid hq1
  clear hr hk HR0 ha hq1
  go_wp2_with fail
  refine (num_g hsz R1.out HC.out hc HL.out A1.out.1).mono ?_
  rintro e w2 ⟨q2, hq2, rfl, hr, hk, ha⟩
  have A2 := Lib.hid ha
  have Q2 := Lib.hid hq2
  have R2 := Lib.hid hr
  clear hr hk R1 ha hq2
  go_wp2_with fail
  have G2 : Hid (GS w0 (w2.alloc (.cells #[.int .i64 q1.1, .int .i64 q2.1, .int .i64 0, .string ⟨#[]⟩, .string ⟨#[]⟩, .slice none 0 0, .int .i64 0] 26)) w2.heap.size A l.length c q2.2.1 q2.2.2 #[.int .i64 q1.1, .int .i64 q2.1, .int .i64 0, .string ⟨#[]⟩, .string ⟨#[]⟩, .slice none 0 0, .int .i64 0]) :=
    Lib.hid ⟨R2.out.below ((Below.refl _ _).alloc (Nat.le_refl _) _), blk_lt R2.out.1, heap_alloc_new w2 _⟩
  generalize w2.heap.size = gq at G2 ⊢
  generalize (w2.alloc (.cells #[.int .i64 q1.1, .int .i64 q2.1, .int .i64 0, .string ⟨#[]⟩, .string ⟨#[]⟩, .slice none 0 0, .int .i64 0] 26)) = W2 at G2 ⊢
  clear R2
  refine (num_g hsz G2.out.1 HC.out hc HL.out A2.out.1).mono ?_
  rintro e w3 ⟨q3, hq3, rfl, hr, hk, ha⟩
  have A3 := Lib.hid ha
  have Q3 := Lib.hid hq3
  have G3 := Lib.hid (G2.out.step hsz hr hk)
  have c3 := G3.out.cell 2
  have f3 := G3.out.frozen 2
  simp only [List.getElem?_toArray, List.getElem?_cons_succ, List.getElem?_cons_zero] at c3
  clear hr hk G2 ha hq3
  go_wp2_with fail
  clear c3 f3
  have S3 := Lib.hid (G3.out.set 2 (.int .i64 q3.1))
  simp only [List.setIfInBounds_toArray, List.set_cons_zero, List.set_cons_succ] at S3
  generalize (w3.setCell ⟨gq, 2, none⟩ (.int .i64 q3.1)) = W3 at S3 ⊢
  clear G3
  refine (num_g hsz S3.out.1 HC.out hc HL.out A3.out.1).mono ?_
  rintro e w4 ⟨q4, hq, rfl, hr, hk, ha⟩
  have A4 := Lib.hid ha
  have Q4 := Lib.hid hq
  have G4 := Lib.hid (S3.out.step hsz hr hk)
  have c4 := G4.out.cell 6
  have f4 := G4.out.frozen 6
  simp only [List.getElem?_toArray, List.getElem?_cons_succ, List.getElem?_cons_zero] at c4
  clear hr hk S3 ha hq
  go_wp2_with fail
  clear c4 f4
  have S4 := Lib.hid (G4.out.set 6 (.int .i64 q4.1))
  simp only [List.setIfInBounds_toArray, List.set_cons_zero, List.set_cons_succ] at S4
  generalize (w4.setCell ⟨gq, 6, none⟩ (.int .i64 q4.1)) = W4 at S4 ⊢
  clear G4
  refine (text_g hsz S4.out.1 HC.out hc HL.out A4.out.1).mono ?_
  rintro e w5 ⟨q5, hq, rfl, hr, hk, ha⟩
  have A5 := Lib.hid ha
  have Q5 := Lib.hid hq
  have G5 := Lib.hid (S4.out.step hsz hr hk)
  have c5 := G5.out.cell 3
  have f5 := G5.out.frozen 3
  simp only [List.getElem?_toArray, List.getElem?_cons_succ, List.getElem?_cons_zero] at c5
  clear hr hk S4 ha hq
  go_wp2_with fail
  clear c5 f5
  have S5 := Lib.hid (G5.out.set 3 (.string q5.1))
  simp only [List.setIfInBounds_toArray, List.set_cons_zero, List.set_cons_succ] at S5
  generalize (w5.setCell ⟨gq, 3, none⟩ (.string q5.1)) = W5 at S5 ⊢
  clear G5
  refine (text_g hsz S5.out.1 HC.out hc HL.out A5.out).mono ?_
  rintro e w6 ⟨q6, hq, rfl, hr, hk, ha⟩
  have A6 := Lib.hid ha
  have Q6 := Lib.hid hq
  have G6 := Lib.hid (S5.out.step hsz hr hk)
  have c6 := G6.out.cell 4
  have f6 := G6.out.frozen 4
  simp only [List.getElem?_toArray, List.getElem?_cons_succ, List.getElem?_cons_zero] at c6
  clear hr hk S5 ha hq
  go_wp2_with fail
  clear c6 f6
  have S6 := Lib.hid (G6.out.set 4 (.string q6.1))
  simp only [List.setIfInBounds_toArray, List.set_cons_zero, List.set_cons_succ] at S6
  generalize (w6.setCell ⟨gq, 4, none⟩ (.string q6.1)) = W6 at S6 ⊢
  clear G6
  refine (num_g hsz S6.out.1 HC.out hc HL.out A6.out).mono ?_
  rintro e w7 ⟨q7, hq, rfl, hr, hk, ha⟩
  have A7 := Lib.hid ha
  have Q7 := Lib.hid hq
  have G7 := Lib.hid (S6.out.step hsz hr hk)
  clear hr hk S6 ha hq
  go_wp2
  obtain ⟨m0, hm0⟩ : ∃ m : Nat, q7.1 = (m : Int) := ⟨q7.1.toNat, by have := A7.out.2.1; omega⟩
  rw [hm0]
  have hH : headOf l = ⟨q1, q2, q3, q4, q5, q6, q7⟩ := by
    rw [Q7.out, Q6.out, Q5.out, Q4.out, Q3.out, Q2.out, Q1.out]; rfl
  have hkL : keysOfL l = readKeys l m0 q7.2.1 q7.2.2 [] := by
    unfold keysOfL
    rw [hH]
    show readKeys l q7.1.toNat q7.2.1 q7.2.2 [] = _
    rw [hm0, Int.toNat_natCast]
  have HH := Lib.hid hH
  have HKL := Lib.hid hkL
  clear hkL hH Q1 Q2 Q3 Q4 Q5 Q6 Q7
  have HM := Lib.hid (show m0 ≤ 65536 by have := A7.out.2; omega)
  have hkeys : Kd.R Kd.string 9 w7 w0.heap.size (fun k => k ≠ gq ∧ k ≠ w0.heap.size ∧ k ≠ w.heap.size) (.slice none 0 0) ([] : List ByteArray) := Kd.R_nil _ _ _ _ _
  have HK := Lib.hid hkeys
  clear hkeys
  go_loopg [6] m0 (fun gg v6 wr => ∃ (m : Nat) (at_ : Nat) (bad : Bool) (ks : List ByteArray) (Ak : Option Addr) (cp : Nat), v6 = .int .i64 (m : Int) ∧ m ≤ gg ∧ Hid (at_ ≤ l.length) ∧ Hid (m ≤ 65536 ∧ ks.length + m ≤ 65536) ∧
    Hid (GS w0 wr gq A l.length c at_ bad #[.int .i64 q1.1, .int .i64 q2.1, .int .i64 q3.1, .string q5.1, .string q6.1, .slice Ak ks.length cp, .int .i64 q4.1]) ∧
    Hid (Kd.R Kd.string 9 wr w0.heap.size (fun k => k ≠ gq ∧ k ≠ w0.heap.size ∧ k ≠ w.heap.size) (.slice Ak ks.length cp) ks) ∧ Hid (readKeys l m at_ bad ks = readKeys l m0 q7.2.1 q7.2.2 []))
  case atStart => exact ⟨m0, q7.2.1, q7.2.2, [], none, 0, rfl, Nat.le_refl _, Lib.hid A7.out.1, Lib.hid ⟨HM.out, by simpa using HM.out⟩, G7, HK, Lib.hid rfl⟩
  case round =>
    clear G7 HK
    obtain ⟨m, at_, bad, ks, Ak, cp, rfl, hmg, HAt, HKm, HG, HK, HRK⟩ := hrel
    have e2 := blk_cell HG.out.1.1 2
    have e1 := blk_cell HG.out.1.1 1
    rw [hsz] at e1 e2
    simp only [List.getElem?_toArray, List.getElem?_cons_succ, List.getElem?_cons_zero] at e1 e2
    have hz := HZ.out.below HG.out.1.2
    have z0 := blk_cell hz 0; have z1 := blk_cell hz 1; have z2 := blk_cell hz 2; have z3 := blk_cell hz 3; have z4 := blk_cell hz 4; have z5 := blk_cell hz 5; have z6 := blk_cell hz 6
    have y0 := blk_frozen hz 0; have y1 := blk_frozen hz 1; have y2 := blk_frozen hz 2; have y3 := blk_frozen hz 3; have y4 := blk_frozen hz 4; have y5 := blk_frozen hz 5; have y6 := blk_frozen hz 6
    simp only [List.getElem?_toArray, List.getElem?_cons_succ, List.getElem?_cons_zero] at z0 z1 z2 z3 z4 z5 z6
    have Hz := Lib.hid hz
    clear hz
    cases m with
    | zero =>
      have d0 : decide ((0 : Int) < ((0 : Nat) : Int)) = false := by decide
      cases bad with
      | true =>
        have hk : keysOfL l = (ks, at_, true) := by rw [HKL.out, ← HRK.out]; rfl
        have HQ : Hid (¬ (wholeOf l = true ∧ ck = none)) := Lib.hid (by unfold wholeOf; rw [hk]; simp)
        clear hk
        go_wp2
        refine bodyPost_ret (results_ct rfl _ _ w.heap.size 26 #[.int .i64 0, .int .i64 0, .int .i64 0, .string ⟨#[]⟩, .string ⟨#[]⟩, .slice none 0 0, .int .i64 0] (0, 0) _ rfl (put7 Hz.out _ _ _ _ _ _ _) Tryd.underlying26 rfl (by kernel_rfl)) rfl ?_
        unfold GetPost
        rw [if_neg HQ.out]
        exact ⟨rfl, below7 (HB0.out.trans (HG.out.1.2.mono (by omega))) (Nat.le_refl _) _ _ _ _ _ _ _⟩
      | false =>
        by_cases hat : at_ < l.length
        · have d1 : decide ((at_ : Int) < (l.length : Int)) = true := decide_eq_true (by omega)
          have hk : keysOfL l = (ks, at_, false) := by rw [HKL.out, ← HRK.out]; rfl
          have HQ : Hid (¬ (wholeOf l = true ∧ ck = none)) := Lib.hid (by unfold wholeOf; rw [hk]; simp; omega)
          clear hk
          go_wp2
          refine bodyPost_ret (results_ct rfl _ _ w.heap.size 26 #[.int .i64 0, .int .i64 0, .int .i64 0, .string ⟨#[]⟩, .string ⟨#[]⟩, .slice none 0 0, .int .i64 0] (0, 0) _ rfl (put7 Hz.out _ _ _ _ _ _ _) Tryd.underlying26 rfl (by kernel_rfl)) rfl ?_
          unfold GetPost
          rw [if_neg HQ.out]
          exact ⟨rfl, below7 (HB0.out.trans (HG.out.1.2.mono (by omega))) (Nat.le_refl _) _ _ _ _ _ _ _⟩
        · have d1 : decide ((at_ : Int) < (l.length : Int)) = false := decide_eq_false (by omega)
          have hk : keysOfL l = (ks, at_, false) := by rw [HKL.out, ← HRK.out]; rfl
          have hwh : wholeOf l = true := by unfold wholeOf; rw [hk]; simp; omega
          have hR := Kd.R_reads' HK.out
          have hcall := HCK.out wr Ak cp (by rw [hk]; exact hR.2.2) (by rw [hk]; exact hR.2.1)
          rw [HH.out, hk] at hcall
          have HCL := Lib.hid hcall
          have HKs := Lib.hid hk
          have HW := Lib.hid hwh
          clear hcall hk hwh hR z0 z1 z2 z3 z4 z5 z6 y0 y1 y2 y3 y4 y5 y6
          have x0 := HG.out.cell 0; have x1 := HG.out.cell 1; have x2 := HG.out.cell 2; have x3 := HG.out.cell 3; have x4 := HG.out.cell 4; have x5 := HG.out.cell 5; have x6 := HG.out.cell 6
          simp only [List.getElem?_toArray, List.getElem?_cons_succ, List.getElem?_cons_zero] at x0 x1 x2 x3 x4 x5 x6
          go_wp2_with fail
          refine HCL.out.mono ?_
          rintro e w8 ⟨rfl, hb8⟩
          have hz := blk_below Hz.out hb8
          have hq := blk_below HG.out.2.2 hb8
          have z0 := blk_cell hz 0; have z1 := blk_cell hz 1; have z2 := blk_cell hz 2; have z3 := blk_cell hz 3; have z4 := blk_cell hz 4; have z5 := blk_cell hz 5; have z6 := blk_cell hz 6
          have y0 := blk_frozen hz 0; have y1 := blk_frozen hz 1; have y2 := blk_frozen hz 2; have y3 := blk_frozen hz 3; have y4 := blk_frozen hz 4; have y5 := blk_frozen hz 5; have y6 := blk_frozen hz 6
          simp only [List.getElem?_toArray, List.getElem?_cons_succ, List.getElem?_cons_zero] at z0 z1 z2 z3 z4 z5 z6
          have x0 := blk_cell hq 0; have x1 := blk_cell hq 1; have x2 := blk_cell hq 2; have x3 := blk_cell hq 3; have x4 := blk_cell hq 4; have x5 := blk_cell hq 5; have x6 := blk_cell hq 6
          simp only [List.getElem?_toArray, List.getElem?_cons_succ, List.getElem?_cons_zero] at x0 x1 x2 x3 x4 x5 x6
          have Hz8 := Lib.hid hz
          have HB8 := Lib.hid hb8
          clear hz hq hb8
          cases ck with
          | some zz =>
            rw [show ckV (some zz) = .iface 36 (.int .i64 zz) from rfl]
            go_wp2
            refine bodyPost_ret (results_ct rfl _ _ w.heap.size 26 #[.int .i64 0, .int .i64 0, .int .i64 0, .string ⟨#[]⟩, .string ⟨#[]⟩, .slice none 0 0, .int .i64 0] (0, 0) _ rfl (put7 Hz8.out _ _ _ _ _ _ _) Tryd.underlying26 rfl (by kernel_rfl)) rfl ?_
            unfold GetPost
            rw [if_neg (fun h => by cases h.2)]
            exact ⟨rfl, below7 ((HB0.out.trans (HG.out.1.2.mono (by omega))).trans (HB8.out.mono (by have := HB0.out.size; have := HG.out.1.2.size; omega))) (Nat.le_refl _) _ _ _ _ _ _ _⟩
          | none =>
            rw [show ckV none = .nilIface from rfl]
            go_wp2
            refine bodyPost_ret (results_ct rfl _ _ w.heap.size 26 #[.int .i64 q1.1, .int .i64 q2.1, .int .i64 q3.1, .string q5.1, .string q6.1, .slice Ak ks.length cp, .int .i64 q4.1] (0, 0) _ rfl (put7 Hz8.out _ _ _ _ _ _ _) Tryd.underlying26 rfl (by kernel_rfl)) rfl ?_
            unfold GetPost
            rw [if_pos ⟨HW.out, rfl⟩, HH.out, HKs.out]
            refine ⟨⟨_, rfl, ?_⟩, below7 ((HB0.out.trans (HG.out.1.2.mono (by omega))).trans (HB8.out.mono (by have := HB0.out.size; have := HG.out.1.2.size; omega))) (Nat.le_refl _) _ _ _ _ _ _ _⟩
            exact Kd.R_mono (Kd.R_lower (far7 (Kd.R_below HK.out HB8.out) (fun k hk => hk.2.2) _ _ _ _ _ _ _) (by omega)) (fun _ _ => trivial)
    | succ m =>
      have d0 : decide ((0 : Int) < ((m + 1 : Nat) : Int)) = true := decide_eq_true (by omega)
      cases bad with
      | true =>
        have hk : keysOfL l = (ks, at_, true) := by rw [HKL.out, ← HRK.out]; simp [readKeys]
        have HQ : Hid (¬ (wholeOf l = true ∧ ck = none)) := Lib.hid (by unfold wholeOf; rw [hk]; simp)
        clear hk
        go_wp2
        refine bodyPost_ret (results_ct rfl _ _ w.heap.size 26 #[.int .i64 0, .int .i64 0, .int .i64 0, .string ⟨#[]⟩, .string ⟨#[]⟩, .slice none 0 0, .int .i64 0] (0, 0) _ rfl (put7 Hz.out _ _ _ _ _ _ _) Tryd.underlying26 rfl (by kernel_rfl)) rfl ?_
        unfold GetPost
        rw [if_neg HQ.out]
        exact ⟨rfl, below7 (HB0.out.trans (HG.out.1.2.mono (by omega))) (Nat.le_refl _) _ _ _ _ _ _ _⟩
      | false =>
        clear z0 z1 z2 z3 z4 z5 z6 y0 y1 y2 y3 y4 y5 y6
        have x5 := HG.out.cell 5
        simp only [List.getElem?_toArray, List.getElem?_cons_succ, List.getElem?_cons_zero] at x5
        have HRd := Lib.hid (HG.out.1.below (Below.refl _ wr).drew)
        go_wp2_with fail
        refine start_ (n := 10) (S := fun w' => w'.cell? ⟨gq, 5, none⟩ = some (.slice Ak ks.length cp)) (ds := [9]) #[false, false, false, false, false, false, false, false, false, false] (by kernel_rfl) rfl rfl (x5) (fun hHeld => ?_)
        refine pure_ (i := 0) (N := some 44) (v := ?_) (a' := ?_) #[true, false, false, false, false, false, false, false, false, false] rfl rfl (by kernel_rfl) (fun _ _ _ h => h) (Or.inl ⟨by rfl, ?_⟩) ?_ ?_
        rotate_left
        · intro w'
          go_simp
          with_reducible rfl
        rotate_left
        · simp only [Act.put, List.setIfInBounds_toArray, List.set_cons_zero, List.set_cons_succ, i64_w, i32_w]
          rfl
        refine pure_ (i := 1) (N := some 45) (v := ?_) (a' := ?_) #[true, true, false, false, false, false, false, false, false, false] rfl rfl (by kernel_rfl) (fun _ _ _ h => h) (Or.inl ⟨by rfl, ?_⟩) ?_ ?_
        rotate_left
        · intro w'
          go_simp
          with_reducible rfl
        rotate_left
        · simp only [Act.put, List.setIfInBounds_toArray, List.set_cons_zero, List.set_cons_succ, i64_w, i32_w]
          rfl
        refine pure_ (i := 3) (N := some 47) (v := ?_) (a' := ?_) #[true, true, false, true, false, false, false, false, false, false] rfl rfl (by kernel_rfl) (fun _ _ _ h => h) (Or.inl ⟨by rfl, ?_⟩) ?_ ?_
        rotate_left
        · intro w'
          go_simp
          with_reducible rfl
        rotate_left
        · simp only [Act.put, List.setIfInBounds_toArray, List.set_cons_zero, List.set_cons_succ, i64_w, i32_w]
          rfl
        refine take_ (i := 2) (N := some 46) (v := ?_) (a' := ?_) #[true, true, true, true, false, false, false, false, false, false] rfl rfl (by kernel_rfl) (fun _ _ _ h => h) (Or.inl ⟨by rfl, ?_⟩) hHeld ?_ ?_
        rotate_left
        · intro w' s0
          go_simp
          with_reducible rfl
        rotate_left
        · simp only [Act.put, List.setIfInBounds_toArray, List.set_cons_zero, List.set_cons_succ, i64_w, i32_w]
          rfl
        refine one_ (i := 4) (N := some 48) #[true, true, true, true, true, false, false, false, false, false] rfl rfl (by kernel_rfl) (by decide) (fun K hK => ?_)
        refine goes_ Tryd.func24 (by kernel_rfl) rfl #[.pointer (some ⟨w.heap.size + 1, 0, none⟩)] (by rfl) rfl rfl (by simp only [List.map_toArray, List.map_cons, List.map_nil]; rfl) ?_
        with_reducible refine (text_g hsz HRd.out HC.out hc HL.out HAt.out).mono ?_
        rintro e w9 ⟨q9, hq9, rfl, hr, hk, ha⟩
        refine ⟨_, rfl, ?_⟩
        have hk : Kept wr w9 (fun k => k = w.heap.size + 1) := hk
        have HG9 := Lib.hid (GS.step hsz HG.out hr hk)
        have HK9 := Lib.hid (Kd.R_kept HK.out hk (fun k hk1 hk2 => hk1.2.1 (hk2.trans hsz.symm)))
        have HQ9 := Lib.hid hq9
        have HA9 := Lib.hid ha
        clear hr hk ha hq9
        refine hK.out _ _ (((HG9.out.cell 5).trans rfl)) (fun hHeld => ?_)
        clear hK K
        refine norm_ (a' := ?_) ?_ ?_
        rotate_left
        · show Act.put _ (some 48) _ = _
          simp only [Act.put, List.setIfInBounds_toArray, List.set_cons_zero, List.set_cons_succ, i64_w, i32_w]
          rfl
        refine one_ (i := 5) (N := some 49) #[true, true, true, true, true, true, false, false, false, false] rfl rfl (by kernel_rfl) (by decide) (fun K hK => ?_)
        refine value_ (w1 := ?_) (v := ?_) (by rfl) rfl ?_ ?_
        rotate_left 2
        · go_simp
          constructor
          · rfl
          · rfl
        refine hK.out _ _ (((blk_cell (blk_below HG9.out.2.2 ((Below.refl _ w9).alloc (Nat.le_refl _) _)) 5).trans rfl)) (fun hHeld => ?_)
        clear hK K
        refine norm_ (a' := ?_) ?_ ?_
        rotate_left
        · show Act.put _ (some 49) _ = _
          simp only [Act.put, List.setIfInBounds_toArray, List.set_cons_zero, List.set_cons_succ, i64_w, i32_w]
          rfl
        refine one_ (i := 6) (N := some 50) #[true, true, true, true, true, true, true, false, false, false] rfl rfl (by kernel_rfl) (by decide) (fun K hK => ?_)
        refine Kd.R_append_step Kd.string (w0 := w0) w0.heap.size (by rfl) (.tmp 46) (.tmp 49) 22 9 (.string ⟨#[]⟩) 16 (by rfl) Tryd.underlying22 (by kernel_rfl) rfl (by decide) (by omega) (.slice Ak ks.length cp) ks q9.1 [.string q9.1] (fun k => k ≠ gq ∧ k ≠ w0.heap.size ∧ k ≠ w.heap.size) (fun _ => False) rfl rfl ?aP (fun _ hk => hk.elim) ?aF ?aO ?aB ?aS ?aL ?_
        case aP => exact rfl
        case aF => exact fun k hk => by have h1 := blk_lt HG9.out.2.2; have h2 := HG9.out.2.1; omega
        case aO => exact HK9.out
        case aB => exact HG9.out.1.2
        case aS => exact HG9.out.1.2.size
        case aL => have := HKm.out; omega
        intro v1 w10 hown hbel hgr hat
        obtain ⟨Ay, cy, rfl⟩ := Kd.R_slice hown
        have HKX := Lib.hid hown
        have HGX := Lib.hid (GS.grown HG9.out hgr hbel (fun k hk => HK9.out.1 k hk))
        have x10 := HGX.out.cell 5
        have f10 := HGX.out.frozen 5
        simp only [List.getElem?_toArray, List.getElem?_cons_succ, List.getElem?_cons_zero] at x10
        clear hown hbel hgr hat
        refine hK.out _ _ (((HGX.out.cell 5).trans rfl)) (fun hHeld => ?_)
        clear hK K
        refine norm_ (a' := ?_) ?_ ?_
        rotate_left
        · show Act.put _ (some 50) _ = _
          simp only [Act.put, List.setIfInBounds_toArray, List.set_cons_zero, List.set_cons_succ, i64_w, i32_w]
          rfl
        refine pure_ (i := 7) (N := some 51) (v := ?_) (a' := ?_) #[true, true, true, true, true, true, true, true, false, false] rfl rfl (by kernel_rfl) (fun _ _ _ h => h) (Or.inl ⟨by rfl, ?_⟩) ?_ ?_
        rotate_left
        · intro w'
          go_simp
          with_reducible rfl
        rotate_left
        · simp only [Act.put, List.setIfInBounds_toArray, List.set_cons_zero, List.set_cons_succ, i64_w, i32_w]
          rfl
        refine pure_ (i := 8) (N := some 52) (v := ?_) (a' := ?_) #[true, true, true, true, true, true, true, true, true, false] rfl rfl (by kernel_rfl) (fun _ _ _ h => h) (Or.inl ⟨by rfl, ?_⟩) ?_ ?_
        rotate_left
        · intro w'
          go_simp
          with_reducible rfl
        rotate_left
        · simp only [Act.put, List.setIfInBounds_toArray, List.set_cons_zero, List.set_cons_succ, i64_w, i32_w]
          rfl
        refine last_ (i := 9) (N := none) #[true, true, true, true, true, true, true, true, true, true] rfl rfl (by kernel_rfl) (by decide) (fun K hK => ?_)
        refine skip_ (w1 := ?_) (by rfl) rfl ?_ ?_
        rotate_left
        · go_simp
          rfl
        refine hK.out _ _ ?_
        clear hK K
        refine done_ (by kernel_rfl) ?_
        have HGs := Lib.hid (HGX.out.set 5 (.slice Ay (ks ++ [q9.1]).length cy))
        simp only [List.setIfInBounds_toArray, List.set_cons_zero, List.set_cons_succ] at HGs
        have HKs := Lib.hid (Kd.R_far (p := ⟨gq, 5, none⟩) HKX.out (fun k hk => hk.1) (.slice Ay (ks ++ [q9.1]).length cy))
        have HRs : Hid (readKeys l m q9.2.1 q9.2.2 (ks ++ [q9.1]) = readKeys l m0 q7.2.1 q7.2.2 []) := Lib.hid (by rw [← HRK.out, HQ9.out]; simp [readKeys])
        have HMs : Hid (m ≤ 65536 ∧ (ks ++ [q9.1]).length + m ≤ 65536) := Lib.hid (by have := HKm.out; simp; omega)
        have HE1 := Lib.hid (show ks.length + 1 = (ks ++ [q9.1]).length by simp)
        have HWM := Lib.hid (nat_wrap HMs.out.1)
        clear HGX HKX HRK HKm HQ9 HG9 HK9 HG HK
        go_wp2_with fail
        go_roundg m
        case measure => omega
        case rel => exact ⟨m, q9.2.1, q9.2.2, ks ++ [q9.1], Ay, cy, by rw [HWM.out], Nat.le_refl _, HA9, HMs, by rw [HE1.out]; exact HGs, by rw [HE1.out]; exact HKs, HRs⟩
end Go.Proofs.YtghfofjlafeliaaDoor.Order
