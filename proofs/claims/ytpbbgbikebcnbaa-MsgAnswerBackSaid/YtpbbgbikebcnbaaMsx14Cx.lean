-- Cut by a program of this session (wip/shake.py) out of a text of this seat: what this claim doesn't reach is struck out. Lean checks it.
import Derived.Test.YtpbbgbikebcnbaaMsx0Cx
namespace Go.Proofs.Ytpbbgbikebcnbaa.Ms
open Go.RowKit Go.Proofs.YtpbbgbikebcnbaaW.PrintWords Go.Proofs.YtpbbgbikebcnbaaW.PrintLast Go.Proofs.YtpbbgbikebcnbaaW.PrintMore
attribute [local go_sem] max2_int min2_int max_two min_two max_three min_three max_four min_four   -- for this text's walks alone
set_option linter.unusedVariables false
set_option linter.unusedSimpArgs false
attribute [local go_sem] eqlErr neqErr eqlErrNil neqErrNil
open Go.Proofs.Ytpbbgbikebcnbaa.Mw
def IsS79 (w0 W : World) (g : Nat) (f0 : List Int) (f1 : Int) (f2 : Bool) : Prop := ∃ A0 c0, W.heap[g]? = some (.cells #[.slice A0 f0.length c0, .int .i64 f1, .bool f2] 79 (0, 0)) ∧ w0.heap.size ≤ g ∧ (Kd.C (Kd.int .u8) w0 A0 f0.length f0 ∧ f0.length ≤ c0)
theorem IsS79.grown {w0 W : World} {g : Nat} {f0 : List Int} {f1 : Int} {f2 : Bool} {W1 : World} {row : Option Nat} (h : IsS79 w0 W g f0 f1 f2) (hw : W.grownBy W1 row) (hne : some g ≠ row) : IsS79 w0 W1 g f0 f1 f2 := by
 obtain ⟨A0, c0, hb, hg, hr0⟩ := h
 exact ⟨A0, c0, blk_grown hb hw hne, hg, hr0⟩
theorem IsS79.kept {w0 W : World} {g : Nat} {f0 : List Int} {f1 : Int} {f2 : Bool} {W1 : World} {S : Nat → Prop} (h : IsS79 w0 W g f0 f1 f2) (hk : Kept W W1 S) (hne : ¬ S g) : IsS79 w0 W1 g f0 f1 f2 := by
 obtain ⟨A0, c0, hb, hg, hr0⟩ := h
 exact ⟨A0, c0, blk_kept hb hk hne, hg, hr0⟩
theorem IsS79.below {w0 W : World} {g : Nat} {f0 : List Int} {f1 : Int} {f2 : Bool} {W1 : World} (h : IsS79 w0 W g f0 f1 f2) (hw : Below W.heap.size W W1) : IsS79 w0 W1 g f0 f1 f2 := h.grown (grown_of_below hw none) (by simp)
theorem IsS79.alloc {w0 W : World} {g : Nat} {f0 : List Int} {f1 : Int} {f2 : Bool} (h : IsS79 w0 W g f0 f1 f2) (o : Obj) : IsS79 w0 (W.alloc o) g f0 f1 f2 := h.below (below_alloc (Below.refl _ _) o)
theorem IsS79.drewN {w0 W : World} {g : Nat} {f0 : List Int} {f1 : Int} {f2 : Bool} (h : IsS79 w0 W g f0 f1 f2) (m : Nat) : IsS79 w0 (W.drewN m) g f0 f1 f2 := h
theorem IsS79.drew {w0 W : World} {g : Nat} {f0 : List Int} {f1 : Int} {f2 : Bool} (h : IsS79 w0 W g f0 f1 f2) : IsS79 w0 W.drew g f0 f1 f2 := h
theorem IsS79.at_ {w0 W : World} {g : Nat} {f0 : List Int} {f1 : Int} {f2 : Bool} {w' : World} {m : Nat} (hq : W.drewN m = w') (h : IsS79 w0 W g f0 f1 f2) : IsS79 w0 w' g f0 f1 f2 := by subst hq; exact IsS79.drewN h m
theorem IsS79.apart {w0 W : World} {g : Nat} {f0 : List Int} {f1 : Int} {f2 : Bool} {α : Type} {d : Kd α} {e : Nat} {base : Nat} {ok : Nat → Prop} {v : Value} {xs : List α} (h : IsS79 w0 W g f0 f1 f2) (ho : d.R e W base ok v xs) (ht : ∀ q, q ∈ e :: d.E → q ≠ 79) : d.R e W base (fun k => ok k ∧ k ≠ g) v xs := by
 obtain ⟨A0, c0, hb, hg, hr0⟩ := h
 exact Kd.R_types ho hb ht
theorem IsS79.own_ne {w0 W : World} {g : Nat} {f0 : List Int} {f1 : Int} {f2 : Bool} {α : Type} {d : Kd α} {e : Nat} {base : Nat} {ok : Nat → Prop} {v : Value} {xs : List α} (h : IsS79 w0 W g f0 f1 f2) (ho : d.R e W base ok v xs) (ht : e ≠ 79) : some g ≠ v.ownBlock := by
 obtain ⟨A0, c0, hb, hg, hr0⟩ := h
 exact Kd.R_ne ho hb ht
theorem IsS79.apartS {w0 W : World} {g : Nat} {f0 : List Int} {f1 : Int} {f2 : Bool} {α : Type} {d : Kd α} {e : Nat} {base : Nat} {ok : Nat → Prop} {v : Value} {xs : List α} (h : IsS79 w0 W g f0 f1 f2) (ho : d.S e W base ok v xs) (ht : ∀ q, q ∈ e :: d.E → q ≠ 79) : d.S e W base (fun k => ok k ∧ k ≠ g) v xs := by
 obtain ⟨A0, c0, hb, hg, hr0⟩ := h
 exact Kd.S_types ho hb ht
theorem IsS79.own_neS {w0 W : World} {g : Nat} {f0 : List Int} {f1 : Int} {f2 : Bool} {α : Type} {d : Kd α} {e : Nat} {base : Nat} {ok : Nat → Prop} {v : Value} {xs : List α} (h : IsS79 w0 W g f0 f1 f2) (ho : d.S e W base ok v xs) (ht : e ≠ 79) : some g ≠ v.ownBlock := by
 obtain ⟨A0, c0, hb, hg, hr0⟩ := h
 exact Kd.S_ne ho hb ht
theorem IsS79.lt {w0 W : World} {g : Nat} {f0 : List Int} {f1 : Int} {f2 : Bool} (h : IsS79 w0 W g f0 f1 f2) : g < W.heap.size := by
 obtain ⟨A0, c0, hb, hg, hr0⟩ := h
 exact blk_lt hb
theorem IsS79.ge {w0 W : World} {g : Nat} {f0 : List Int} {f1 : Int} {f2 : Bool} (h : IsS79 w0 W g f0 f1 f2) : w0.heap.size ≤ g := by
 obtain ⟨A0, c0, hb, hg, hr0⟩ := h
 exact hg
theorem IsS79.far {w0 W : World} {g : Nat} {f0 : List Int} {f1 : Int} {f2 : Bool} {p : Addr} (h : IsS79 w0 W g f0 f1 f2) (hne : g ≠ p.block) (u : Value) : IsS79 w0 (W.setCell p u) g f0 f1 f2 := by
 obtain ⟨A0, c0, hb, hg, hr0⟩ := h
 exact ⟨A0, c0, blk_far hb hne u, hg, hr0⟩
theorem cellS79_0 {W : World} {g : Nat} {A0 : Option Addr} {c0 : Nat} {f0 : List Int} {f1 : Int} {f2 : Bool} (h : W.heap[g]? = some (.cells #[.slice A0 f0.length c0, .int .i64 f1, .bool f2] 79 (0, 0))) : W.cell? ⟨g, 0, none⟩ = some (.slice A0 f0.length c0) := (blk_cell h 0).trans rfl
theorem cellS79_1 {W : World} {g : Nat} {A0 : Option Addr} {c0 : Nat} {f0 : List Int} {f1 : Int} {f2 : Bool} (h : W.heap[g]? = some (.cells #[.slice A0 f0.length c0, .int .i64 f1, .bool f2] 79 (0, 0))) : W.cell? ⟨g, 1, none⟩ = some (.int .i64 f1) := (blk_cell h 1).trans rfl
theorem IsS79.set_1 {w0 W : World} {g : Nat} {f0 : List Int} {f1 : Int} {f2 : Bool} (h : IsS79 w0 W g f0 f1 f2) (x : Int) : IsS79 w0 (W.setCell ⟨g, 1, none⟩ (.int .i64 x)) g f0 x f2 := by
 obtain ⟨A0, c0, hb, hg, hr0⟩ := h
 exact ⟨A0, c0, by simpa using blk_set hb 1 (.int .i64 x), hg, hr0⟩
theorem cellS79_2 {W : World} {g : Nat} {A0 : Option Addr} {c0 : Nat} {f0 : List Int} {f1 : Int} {f2 : Bool} (h : W.heap[g]? = some (.cells #[.slice A0 f0.length c0, .int .i64 f1, .bool f2] 79 (0, 0))) : W.cell? ⟨g, 2, none⟩ = some (.bool f2) := (blk_cell h 2).trans rfl
theorem IsS79.set_2 {w0 W : World} {g : Nat} {f0 : List Int} {f1 : Int} {f2 : Bool} (h : IsS79 w0 W g f0 f1 f2) (x : Bool) : IsS79 w0 (W.setCell ⟨g, 2, none⟩ (.bool x)) g f0 f1 x := by
 obtain ⟨A0, c0, hb, hg, hr0⟩ := h
 exact ⟨A0, c0, by simpa using blk_set hb 2 (.bool x), hg, hr0⟩
def becketref01_Reader_Num.f (s0_0 : List Int) (s0_1 : Int) (s0_2 : Bool) (a1 : Int) : Option (Int × Int × Bool) := if Go.Proofs.Ytpbbgbikebcnbaa.MsgL.rdOk s0_0 s0_1 = true ∧ 0 ≤ a1 ∧ a1 ≤ Go.Proofs.Ytpbbgbikebcnbaa.MsgL.big31 then some ((Go.Proofs.Ytpbbgbikebcnbaa.MsgL.numOf s0_0 a1 s0_1.toNat s0_2).1, (((Go.Proofs.Ytpbbgbikebcnbaa.MsgL.numOf s0_0 a1 s0_1.toNat s0_2).2.1 : Nat) : Int), (Go.Proofs.Ytpbbgbikebcnbaa.MsgL.numOf s0_0 a1 s0_1.toNat s0_2).2.2) else none
theorem becketref01_Reader_Num.calls (g : Nat) (s0_0 : List Int) (s0_1 : Int) (s0_2 : Bool) (a1 : Int) (r1 : Int) (r2 : Int) (r3 : Bool) (w0 w : World) (hI : IsS79 w0 w g s0_0 s0_1 s0_2) (hB : Below w0.heap.size w0 w) (h : becketref01_Reader_Num.f s0_0 s0_1 s0_2 a1 = some (r1, r2, r3)) :
  Calls Try.prog 42 #[.pointer (some ⟨g, 0, none⟩), .int .u64 a1] w fun e w' => e = .returned (.int .i64 r1) ∧ IsS79 w0 w' g s0_0 r2 r3 ∧ Below w0.heap.size w0 w' ∧ KeepBut w w' g none := by
 unfold becketref01_Reader_Num.f at h
 split at h
 ·rename_i hc
  obtain ⟨A, c, hg, hge, hC, hcp⟩ := hI
  obtain ⟨hb, hl, at_, rfl, ha⟩ := Go.Proofs.Ytpbbgbikebcnbaa.MsgL.rdOk_iff hc.1
  rw [Int.toNat_natCast] at h
  have hc2 := Go.Proofs.Ytpbbgbikebcnbaa.MsgL.rnum_calls w0 w g A c s0_0 at_ s0_2 a1 hc.2 ⟨hg, hge, hB⟩ hC hcp hb hl ha
  simp only [Option.some.injEq, Prod.mk.injEq] at h
  obtain ⟨rfl, rfl, rfl⟩ := h
  refine hc2.mono ?_
  rintro e w' ⟨rfl, ⟨h1, h2, h3⟩, hk, hbl⟩
  exact ⟨rfl, ⟨A, c, h1, h2, hC, hcp⟩, h3, ⟨hk.1, fun i hi hn _ => hk.2 i hi hn⟩⟩
 ·cases h
def becketref01_Reader_Text.f (s0_0 : List Int) (s0_1 : Int) (s0_2 : Bool) : Option (ByteArray × Int × Bool) := if Go.Proofs.Ytpbbgbikebcnbaa.MsgL.rdOk s0_0 s0_1 = true then some ((Go.Proofs.Ytpbbgbikebcnbaa.MsgL.rtxt s0_0 s0_1.toNat s0_2).1, (((Go.Proofs.Ytpbbgbikebcnbaa.MsgL.rtxt s0_0 s0_1.toNat s0_2).2.1 : Nat) : Int), (Go.Proofs.Ytpbbgbikebcnbaa.MsgL.rtxt s0_0 s0_1.toNat s0_2).2.2) else none
theorem becketref01_Reader_Text.calls (g : Nat) (s0_0 : List Int) (s0_1 : Int) (s0_2 : Bool) (r1 : ByteArray) (r2 : Int) (r3 : Bool) (w0 w : World) (hI : IsS79 w0 w g s0_0 s0_1 s0_2) (hB : Below w0.heap.size w0 w) (h : becketref01_Reader_Text.f s0_0 s0_1 s0_2 = some (r1, r2, r3)) :
  Calls Try.prog 43 #[.pointer (some ⟨g, 0, none⟩)] w fun e w' => e = .returned (.string r1) ∧ IsS79 w0 w' g s0_0 r2 r3 ∧ Below w0.heap.size w0 w' ∧ KeepBut w w' g none := by
 unfold becketref01_Reader_Text.f at h
 split at h
 ·rename_i hc
  obtain ⟨A, c, hg, hge, hC, hcp⟩ := hI
  obtain ⟨hb, hl, at_, rfl, ha⟩ := Go.Proofs.Ytpbbgbikebcnbaa.MsgL.rdOk_iff hc
  rw [Int.toNat_natCast] at h
  have hc2 := Go.Proofs.Ytpbbgbikebcnbaa.MsgL.rtext_calls w0 w g A c s0_0 at_ s0_2 ⟨hg, hge, hB⟩ hC hcp hb hl ha
  simp only [Option.some.injEq, Prod.mk.injEq] at h
  obtain ⟨rfl, rfl, rfl⟩ := h
  refine hc2.mono ?_
  rintro e w' ⟨rfl, ⟨h1, h2, h3⟩, hk, hbl⟩
  exact ⟨rfl, ⟨A, c, h1, h2, hC, hcp⟩, h3, ⟨hk.1, fun i hi hn _ => hk.2 i hi hn⟩⟩
 ·cases h
mutual
def becketref12_get.l0 : Nat → List (S95) → Int → Int → List Int → Int → Bool → Option ((List (S95)) × Int × Bool)
 | 0, _, _, _, _, _, _ => none
 | k + 1, x3, x4, x5, x1000, x1001, x1002 => if x5 < x4 then (becketref12_get.j1 k x3 x4 x5 (!x1002) x1000 x1001 x1002) else (becketref12_get.j1 k x3 x4 x5 false x1000 x1001 x1002)
def becketref12_get.j1 : Nat → List (S95) → Int → Int → Bool → List Int → Int → Bool → Option ((List (S95)) × Int × Bool)
 | 0, _, _, _, _, _, _, _ => none
 | k + 1, x3, x4, x5, x20, x1000, x1001, x1002 => if x20 = true then ((becketref01_Reader_Num.f x1000 x1001 x1002 1000).bind fun bt387 => ((becketref01_Reader_Num.f x1000 bt387.2.1 bt387.2.2 1000).bind fun bt390 => ((becketref01_Reader_Text.f x1000 bt390.2.1 bt390.2.2).bind fun bt393 => ((becketref01_Reader_Num.f x1000 bt393.2.1 bt393.2.2 1000).bind fun bt396 => (becketref12_get.l1 k x3 x4 x5 bt396.1 0 x1000 bt396.2.1 bt396.2.2 bt387.1 bt390.1 bt393.1 ([] : List Int)))))) else (some (x3, x1001, x1002))
def becketref12_get.l1 : Nat → List (S95) → Int → Int → Int → Int → List Int → Int → Bool → Int → Int → ByteArray → List Int → Option ((List (S95)) × Int × Bool)
 | 0, _, _, _, _, _, _, _, _, _, _, _, _ => none
 | k + 1, x3, x4, x5, x7, x8, x1000, x1001, x1002, x387000, x387001, x387002, x387003 => if x8 < x7 then (if x1002 = true then (if x3.length < 2513169434916 then (becketref12_get.l0 k (x3 ++ [(⟨x387000, x387001, x387002, x387003⟩ : S95)]) x4 (wrap64 (x5 + 1)) x1000 x1001 x1002) else (none)) else ((becketref01_Reader_Num.f x1000 x1001 x1002 1000).bind fun bt402 => (if x387003.length < 17592186044416 then (becketref12_get.l1 k x3 x4 x5 x7 (wrap64 (x8 + 1)) x1000 bt402.2.1 bt402.2.2 x387000 x387001 x387002 (x387003 ++ [bt402.1])) else (none)))) else (if x3.length < 2513169434916 then (becketref12_get.l0 k (x3 ++ [(⟨x387000, x387001, x387002, x387003⟩ : S95)]) x4 (wrap64 (x5 + 1)) x1000 x1001 x1002) else (none))
end
def becketref12_get.f (k : Nat) (s0_0 : List Int) (s0_1 : Int) (s0_2 : Bool) : Option ((List (S95)) × Int × Bool) := (becketref01_Reader_Num.f s0_0 s0_1 s0_2 1000).bind fun bt383 => (becketref12_get.l0 k ([] : List (S95)) bt383.1 0 s0_0 bt383.2.1 bt383.2.2)
end Go.Proofs.Ytpbbgbikebcnbaa.Ms
