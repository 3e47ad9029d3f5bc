-- Cut by a program of this session (wip/shake.py) out of a text of this seat: what this claim doesn't reach is struck out. Lean checks it.
import Derived.Test.YtkaoojcafefjjaaNetNCp
import Derived.Lib.Hide
import Derived.BigRegion
namespace Go.Proofs.Ytkaoojcafefjjaa.Net
open Go.RowKit Go.Proofs.Ytkaoojcafefjjaa.Ms Go.Proofs.YtkaoojcafefjjaaW.PrintWords Go.Proofs.YtkaoojcafefjjaaW.PrintLast Go.Proofs.YtkaoojcafefjjaaW.PrintMore
attribute [local go_sem] Go.Proofs.Ytkaoojcafefjjaa.Ms.eqlErr Go.Proofs.Ytkaoojcafefjjaa.Ms.neqErr Go.Proofs.Ytkaoojcafefjjaa.Ms.eqlErrNil Go.Proofs.Ytkaoojcafefjjaa.Ms.neqErrNil
set_option linter.unusedVariables false
set_option linter.unusedSimpArgs false
theorem net_taken {w w2 w3 : World} {B : Nat} {ok : Nat → Prop} {g : Nat} {f : Int} {v0 u0 u1 u2 : Value} {l : List S41} {A1 : Option Addr} {c1 : Nat} (hB : B ≤ g) (hok : ok g) (hgl : g < w.heap.size) (hBw : B ≤ w.heap.size) (hl : l.length ≤ 50000) (hb3 : w3.heap[g]? = some (.cells #[.int .i64 f, v0] 60 (0, 0)))
    (hR3 : Kd.R k41 41 w3 B (fun k => (ok k ∧ k ≠ g) ∧ k < w.heap.size) (.slice A1 l.length c1) l) (hBl : Below w.heap.size w w2) (hK3 : Kept w2 w3 (fun k => (ok k ∧ k ≠ g) ∧ k < w.heap.size)) (hB3 : Below B w2 w3) (hX : w.heap.size < w3.heap.size) :
    NetTo w ((((w3.setCell ⟨g, 1, none⟩ (.slice A1 l.length c1)).setCell ⟨w.heap.size, 0, none⟩ u0).setCell ⟨w.heap.size, 1, none⟩ u1).setCell ⟨w.heap.size, 2, none⟩ u2) B ok g f l := by
  have hN := net_stored (ok := fun k => ok k ∧ k < w.heap.size) hB ⟨hok, hgl⟩ hl hb3 (Kd.R_mono hR3 (fun k hk => ⟨.inl ⟨hk.1.1, hk.2⟩, hk.1.2⟩)) rfl (Kept.refl w3 _) (Below.refl B w3)
  have hK4 : Kept w (w3.setCell ⟨g, 1, none⟩ (.slice A1 l.length c1)) ok := ((Kept.of_below hBl ok).then_ hK3 (fun k hk => .inl hk.1.1)).setCell (.inl hok) _
  have hB4 : Below B w (w3.setCell ⟨g, 1, none⟩ (.slice A1 l.length c1)) := ((hBl.mono hBw).trans hB3).setCell hB _
  generalize w3.setCell ⟨g, 1, none⟩ (.slice A1 l.length c1) = w4 at hN hK4 hB4 ⊢
  generalize hm : w.heap.size = m at *
  have k1 : Kept w4 (((w4.setCell ⟨m, 0, none⟩ u0).setCell ⟨m, 1, none⟩ u1).setCell ⟨m, 2, none⟩ u2) (fun k => k = m) := Kept.setCell (p := ⟨m, 2, none⟩) (Kept.setCell (p := ⟨m, 1, none⟩) (Kept.setCell (p := ⟨m, 0, none⟩) (Kept.refl w4 (fun k => k = m)) (.inl rfl) u0) (.inl rfl) u1) (.inl rfl) u2
  have k2 : Kept w (((w4.setCell ⟨m, 0, none⟩ u0).setCell ⟨m, 1, none⟩ u1).setCell ⟨m, 2, none⟩ u2) ok := Kept.setCell (p := ⟨m, 2, none⟩) (Kept.setCell (p := ⟨m, 1, none⟩) (Kept.setCell (p := ⟨m, 0, none⟩) hK4 (.inr (Nat.le_of_eq hm)) u0) (.inr (Nat.le_of_eq hm)) u1) (.inr (Nat.le_of_eq hm)) u2
  have k3 : Below B w (((w4.setCell ⟨m, 0, none⟩ u0).setCell ⟨m, 1, none⟩ u1).setCell ⟨m, 2, none⟩ u2) := Below.setCell (p := ⟨m, 2, none⟩) (Below.setCell (p := ⟨m, 1, none⟩) (Below.setCell (p := ⟨m, 0, none⟩) hB4 hBw u0) hBw u1) hBw u2
  refine ⟨(hN.1.kept k1 (fun k hk e => ?_)).mono (fun k hk => ?_), k2, k3⟩
  · rcases hk with hk | hk
    · have := hk.2; omega
    · omega
  · rcases hk with hk | hk
    · exact .inl hk.1
    · exact .inr (by omega)
set_option maxHeartbeats 4000000 in
set_option maxRecDepth 100000 in
theorem net_Take (w : World) (B : Nat) (ok : Nat → Prop) (g : Nat) (f : Int) (l : List S41) (h : NetAt w B ok g f l) (hBw : B ≤ w.heap.size) (i : Nat) (hi : i < l.length) :
    Calls Try.prog 12 #[.pointer (some ⟨g, 0, none⟩), .int .i64 (i : Int)] w fun e w' => e = .returned (.tuple #[.agg #[.int .i64 (rd_T41 l (i : Int)).f0, .int .i64 (rd_T41 l (i : Int)).f1, .string (rd_T41 l (i : Int)).f2], .bool true]) ∧ NetTo w w' B ok g f (l.eraseIdx i) := by
  have hgl := h.glt
  obtain ⟨A, c, hb, hr, hB, hok, hl⟩ := h.open_
  obtain ⟨gr, cap, he, hBg, hgrl, cells0, hcells0⟩ := Kd.R_form hr (by omega)
  injection he with e1 e2 e3
  subst e1 e3
  have hne := (hr.1 gr rfl)
  obtain ⟨hE0, hE1, hE2⟩ := at_cells (c := c) (Kd.R_reads' hr).2.2 i hi
  have c0 : w.cell? ⟨g, 1, none⟩ = some (.slice (some ⟨gr, 0, none⟩) l.length c) := (blk_cell hb 1).trans rfl
  have t0 : decide ((i : Int) < 0) = false := by simp
  have t1 : decide ((l.length : Int) ≤ (i : Int)) = false := by simp; omega
  have hwi : wrap64 ((i : Int) + 1) = (i : Int) + 1 := by unfold wrap64; omega
  have HB := Lib.hid hb
  have HR := Lib.hid hr
  have HBW := Lib.hid hBw
  have HBG := Lib.hid hB
  have HOK := Lib.hid hok
  have HLL := Lib.hid hl
  have HIL := Lib.hid hi
  clear hb hr h e2 hcells0 hne
  generalize rd_T41 l (i : Int) = x at hE0 hE1 hE2 ⊢
  go_enter Try.func12, Try.ntmps12
  go_wp2_with fail
  clear hE0 hE1 hE2 c0 t0 t1
  have HX := Lib.hid (heap_alloc_new (w.alloc (.cells #[.int .i64 0, .int .i64 0, .string ⟨#[]⟩] 41)) (.cells #[.int .i64 x.f0, .int .i64 x.f1, .string x.f2] 41))
  have HZ := Lib.hid (blk_below (heap_alloc_new w (.cells #[.int .i64 0, .int .i64 0, .string ⟨#[]⟩] 41)) ((Below.refl _ (w.alloc (.cells #[.int .i64 0, .int .i64 0, .string ⟨#[]⟩] 41))).alloc (Nat.le_refl _) (.cells #[.int .i64 x.f0, .int .i64 x.f1, .string x.f2] 41)))
  have HBl := Lib.hid (((Below.refl _ w).alloc (Nat.le_refl _) (.cells #[.int .i64 0, .int .i64 0, .string ⟨#[]⟩] 41)).alloc (by simp) (.cells #[.int .i64 x.f0, .int .i64 x.f1, .string x.f2] 41))
  have hs1 : (w.alloc (.cells #[.int .i64 0, .int .i64 0, .string ⟨#[]⟩] 41)).heap.size = w.heap.size + 1 := by simp
  rw [hs1] at HX
  clear hs1
  generalize (w.alloc (.cells #[.int .i64 0, .int .i64 0, .string ⟨#[]⟩] 41)).alloc (.cells #[.int .i64 x.f0, .int .i64 x.f1, .string x.f2] 41) = w2 at HX HZ HBl ⊢
  refine (delete_calls w2 B (fun k => (ok k ∧ k ≠ g) ∧ k < w.heap.size) (some ⟨gr, 0, none⟩) c l i HIL.out (by have := HLL.out; omega) (Kd.R_below (Kd.R_mono (Kd.R_bound HR.out) (fun k hk => ⟨hk.1, hk.2.2.1⟩)) HBl.out) (Nat.le_trans HBW.out HBl.out.size)).mono ?_
  rintro e w3 ⟨rfl, hR3, hK3, hB3⟩
  have HR3 := Lib.hid hR3
  have HK3 := Lib.hid hK3
  have HB3 := Lib.hid hB3
  have hg3 : w3.heap[g]? = some (.cells #[.int .i64 f, .slice (some ⟨gr, 0, none⟩) l.length c] 60 (0, 0)) := blk_kept (blk_below HB.out HBl.out) hK3 (fun hk => hk.1.2 rfl)
  have hx3 := blk_kept HX.out hK3 (fun hk => by have := hk.2; omega)
  have hz3 := blk_kept HZ.out hK3 (fun hk => by have := hk.2; omega)
  have c3 : w3.cell? ⟨g, 1, none⟩ = some (.slice (some ⟨gr, 0, none⟩) l.length c) := (blk_cell hg3 1).trans rfl
  have f3 := blk_frozen hg3 1
  have x0 : w3.cell? ⟨w.heap.size + 1, 0, none⟩ = some (.int .i64 x.f0) := (blk_cell hx3 0).trans rfl
  have x1 : w3.cell? ⟨w.heap.size + 1, 1, none⟩ = some (.int .i64 x.f1) := (blk_cell hx3 1).trans rfl
  have x2 : w3.cell? ⟨w.heap.size + 1, 2, none⟩ = some (.string x.f2) := (blk_cell hx3 2).trans rfl
  have z0 : w3.cell? ⟨w.heap.size, 0, none⟩ = some (.int .i64 0) := (blk_cell hz3 0).trans rfl
  have z1 : w3.cell? ⟨w.heap.size, 1, none⟩ = some (.int .i64 0) := (blk_cell hz3 1).trans rfl
  have z2 : w3.cell? ⟨w.heap.size, 2, none⟩ = some (.string ⟨#[]⟩) := (blk_cell hz3 2).trans rfl
  have y0 := blk_frozen hz3 0
  have y1 := blk_frozen hz3 1
  have y2 := blk_frozen hz3 2
  have hgw : g ≠ w.heap.size := by omega
  have hgw1 : g ≠ w.heap.size + 1 := by omega
  have hgw' : w.heap.size ≠ g := by omega
  have hgw1' : w.heap.size + 1 ≠ g := by omega
  have HG3 := Lib.hid hg3
  clear hR3 hK3 hB3 hg3 hx3 hz3
  have HX3 := Lib.hid (Nat.lt_of_lt_of_le (blk_lt HX.out) HK3.out.1)
  have hlen : (l.eraseIdx i).length ≤ 50000 := by have := HLL.out; rw [List.length_eraseIdx_of_lt HIL.out]; omega
  go_wp2
  refine bodyPost_ret (v := .tuple #[.agg #[.int .i64 x.f0, .int .i64 x.f1, .string x.f2], .bool true]) ?_ rfl ?_
  · unfold results
    go_simp
  exact ⟨rfl, net_taken HBG.out HOK.out hgl HBW.out hlen HG3.out HR3.out HBl.out HK3.out HB3.out (by have := HX3.out; omega)⟩
end Go.Proofs.Ytkaoojcafefjjaa.Net
