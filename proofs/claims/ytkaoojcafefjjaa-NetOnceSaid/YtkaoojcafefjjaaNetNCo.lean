-- Cut by a program of this session (wip/shake.py) out of a text of this seat: what this claim doesn't reach is struck out. Lean checks it.
import Derived.Test.YtkaoojcafefjjaaNetD0Co
import Derived.Lib.Hide
import Derived.BigRegion
namespace Go.Proofs.Ytkaoojcafefjjaa.Net
open Go.RowKit Go.Proofs.Ytkaoojcafefjjaa.Ms Go.Proofs.YtkaoojcafefjjaaW.PrintWords Go.Proofs.YtkaoojcafefjjaaW.PrintLast Go.Proofs.YtkaoojcafefjjaaW.PrintMore
attribute [local go_sem] Go.Proofs.Ytkaoojcafefjjaa.Ms.eqlErr Go.Proofs.Ytkaoojcafefjjaa.Ms.neqErr Go.Proofs.Ytkaoojcafefjjaa.Ms.eqlErrNil Go.Proofs.Ytkaoojcafefjjaa.Ms.neqErrNil
set_option linter.unusedVariables false
set_option linter.unusedSimpArgs false
def NetAt (W : World) (B : Nat) (ok : Nat → Prop) (g : Nat) (f : Int) (l : List S41) : Prop :=
  B ≤ g ∧ ok g ∧ l.length ≤ 50000 ∧ ∃ v, W.heap[g]? = some (.cells #[.int .i64 f, v] 60 (0, 0)) ∧ Kd.R k41 41 W B (fun k => ok k ∧ k ≠ g) v l
theorem NetAt.open_ {W : World} {B : Nat} {ok : Nat → Prop} {g : Nat} {f : Int} {l : List S41} (h : NetAt W B ok g f l) :
    ∃ A c, W.heap[g]? = some (.cells #[.int .i64 f, .slice A l.length c] 60 (0, 0)) ∧ Kd.R k41 41 W B (fun k => ok k ∧ k ≠ g) (.slice A l.length c) l ∧ B ≤ g ∧ ok g ∧ l.length ≤ 50000 := by
  obtain ⟨hB, hok, hl, v, hb, hr⟩ := h
  obtain ⟨A, c, rfl⟩ := Kd.R_slice hr
  exact ⟨A, c, hb, hr, hB, hok, hl⟩
theorem NetAt.mono {W : World} {B : Nat} {ok ok' : Nat → Prop} {g : Nat} {f : Int} {l : List S41} (h : NetAt W B ok g f l) (hk : ∀ k, ok k → ok' k) : NetAt W B ok' g f l := by
  obtain ⟨hB, hok, hl, v, hb, hr⟩ := h
  exact ⟨hB, hk _ hok, hl, v, hb, Kd.R_mono hr (fun k h => ⟨hk k h.1, h.2⟩)⟩
theorem NetAt.below {W W' : World} {B : Nat} {ok : Nat → Prop} {g : Nat} {f : Int} {l : List S41} (h : NetAt W B ok g f l) (hb : Below W.heap.size W W') : NetAt W' B ok g f l := by
  obtain ⟨hB, hok, hl, v, hg, hr⟩ := h
  exact ⟨hB, hok, hl, v, blk_below hg hb, Kd.R_below hr hb⟩
theorem NetAt.bound {W : World} {B : Nat} {ok : Nat → Prop} {g : Nat} {f : Int} {l : List S41} (h : NetAt W B ok g f l) : NetAt W B (fun k => ok k ∧ B ≤ k ∧ k < W.heap.size) g f l := by
  obtain ⟨hB, hok, hl, v, hg, hr⟩ := h
  exact ⟨hB, ⟨hok, hB, blk_lt hg⟩, hl, v, hg, Kd.R_mono (Kd.R_bound hr) (fun k h => ⟨⟨h.1.1, h.2.1, h.2.2.1⟩, h.1.2⟩)⟩
theorem NetAt.kept {W W' : World} {B : Nat} {ok S : Nat → Prop} {g : Nat} {f : Int} {l : List S41} (h : NetAt W B ok g f l) (hk : Kept W W' S) (hne : ∀ k, ok k → ¬ S k) : NetAt W' B ok g f l := by
  obtain ⟨hB, hok, hl, v, hg, hr⟩ := h
  exact ⟨hB, hok, hl, v, blk_kept hg hk (hne g hok), Kd.R_kept hr hk (fun k h => hne k h.1)⟩
theorem NetAt.drew {W : World} {B : Nat} {ok : Nat → Prop} {g : Nat} {f : Int} {l : List S41} (h : NetAt W B ok g f l) : NetAt W.drew B ok g f l := h.below (Below.refl _ W).drew
theorem NetAt.len {W : World} {B : Nat} {ok : Nat → Prop} {g : Nat} {f : Int} {l : List S41} (h : NetAt W B ok g f l) : l.length ≤ 50000 := h.2.2.1
theorem NetAt.glt {W : World} {B : Nat} {ok : Nat → Prop} {g : Nat} {f : Int} {l : List S41} (h : NetAt W B ok g f l) : g < W.heap.size := by
  obtain ⟨hB, hok, hl, v, hg, hr⟩ := h
  exact blk_lt hg
def NetTo (w w' : World) (B : Nat) (ok : Nat → Prop) (g : Nat) (f : Int) (l : List S41) : Prop :=
  NetAt w' B (fun k => ok k ∨ w.heap.size ≤ k) g f l ∧ Kept w w' ok ∧ Below B w w'
theorem net_New (w : World) (f : Int) (h1 : 1 ≤ f) (h4 : f ≤ 4) : Calls Try.prog 8 #[.int .i64 f] w fun e w' => e = .returned (.tuple #[.pointer (some ⟨w.heap.size, 0, none⟩), .nilIface]) ∧ NetAt w' w.heap.size (fun k => k = w.heap.size) w.heap.size f [] ∧ Below w.heap.size w w' := by
  have t1 : decide (f < 1) = false := by simp; omega
  have t2 : decide (4 < f) = false := by simp; omega
  go_enter Try.func8, Try.ntmps8
  go_wp2
  go_ret2
  exact ⟨rfl, ⟨Nat.le_refl _, rfl, by simp, .slice none 0 0, heap_alloc_new w _, Kd.R_nil _ _ _ _ _⟩, (Below.refl _ _).alloc (Nat.le_refl _) _⟩
theorem net_New_no (w : World) (f : Int) (h : f < 1 ∨ 4 < f) : Calls Try.prog 8 #[.int .i64 f] w fun e w' => e = .returned (.tuple #[.pointer none, .iface 49 (.int .i64 1)]) ∧ Below w.heap.size w w' := by
  by_cases t1 : f < 1
  · have t1 : decide (f < 1) = true := by simpa using t1
    go_enter Try.func8, Try.ntmps8
    go_wp2
    go_ret2
    exact ⟨rfl, Below.refl _ _⟩
  · have t2 : decide (4 < f) = true := by simp; omega
    have t1 : decide (f < 1) = false := by simpa using t1
    go_enter Try.func8, Try.ntmps8
    go_wp2
    go_ret2
    exact ⟨rfl, Below.refl _ _⟩
theorem net_All (w : World) (B : Nat) (ok : Nat → Prop) (g : Nat) (f : Int) (l : List S41) (h : NetAt w B ok g f l) :
    Calls Try.prog 10 #[.pointer (some ⟨g, 0, none⟩)] w fun e w' => ∃ v : Value, e = .returned v ∧ Kd.R k41 41 w' w.heap.size (fun _ => True) v l ∧ Below w.heap.size w w' := by
  obtain ⟨A, c, hb, hr, hB, hok, hl⟩ := h.open_
  have c0 : w.cell? ⟨g, 1, none⟩ = some (.slice A l.length c) := (blk_cell hb 1).trans rfl
  have HC := Lib.hid (Kd.R_reads' hr).2.2
  have HL := Lib.hid hl
  clear hb hr h
  go_enter Try.func10, Try.ntmps10
  go_wp2_with fail
  refine (clone_calls A c l _ HC.out (by have := HL.out; omega)).mono ?_
  rintro e w' ⟨v, rfl, hv, hbw⟩
  obtain ⟨A2, c2, rfl⟩ := Kd.R_slice hv
  have HV := Lib.hid hv
  have HW := Lib.hid hbw
  clear hv hbw
  go_wp2
  go_ret
  exact ⟨_, rfl, HV.out, HW.out⟩
theorem net_stored {w w3 : World} {B : Nat} {ok : Nat → Prop} {g : Nat} {f : Int} {v0 : Value} {l : List S41} {A1 : Option Addr} {c1 m : Nat} (hB : B ≤ g) (hok : ok g) (hl : l.length ≤ 50000) (hb3 : w3.heap[g]? = some (.cells #[.int .i64 f, v0] 60 (0, 0)))
    (hR : Kd.R k41 41 w3 B (fun k => (ok k ∨ w.heap.size ≤ k) ∧ k ≠ g) (.slice A1 l.length c1) l) (hm : m = l.length) (hK : Kept w w3 ok) (hBel : Below B w w3) :
    NetTo w (w3.setCell ⟨g, 1, none⟩ (.slice A1 m c1)) B ok g f l := by
  subst hm
  refine ⟨⟨hB, .inl hok, hl, .slice A1 l.length c1, ?_, ?_⟩, ?_, hBel.setCell hB _⟩
  · have := blk_set hb3 1 (.slice A1 l.length c1)
    simpa using this
  · exact Kd.R_far (p := ⟨g, 1, none⟩) hR (fun k hk => hk.2) _
  · exact Kept.setCell hK (.inl hok) _
theorem at_cells {w : World} {gr c : Nat} {l : List S41} (h : Kd.C k41 w (some ⟨gr, 0, none⟩) l.length l) (i : Nat) (hi : i < l.length) : w.cell? ⟨gr, i * 3, none⟩ = some (.int .i64 (rd_T41 l (i : Int)).f0) ∧ w.cell? ⟨gr, i * 3 + 1, none⟩ = some (.int .i64 (rd_T41 l (i : Int)).f1) ∧ w.cell? ⟨gr, i * 3 + 2, none⟩ = some (.string (rd_T41 l (i : Int)).f2) := by
  obtain ⟨ad, e, h0, h1, h2⟩ := at_T41 h (i : Int) (by omega) (by omega)
  injection e with e
  subst e
  simpa [Addr.add_lit] using And.intro h0 (And.intro h1 h2)
end Go.Proofs.Ytkaoojcafefjjaa.Net
