-- Cut by a program of this session (wip/shake.py) out of a text of this seat: what this claim doesn't reach is struck out. Lean checks it.
import Derived.Test.YtkaoojcafefjjaaNetL1Ct
import Derived.Lib.Hide
import Derived.BigRegion
namespace Go.Proofs.Ytkaoojcafefjjaa.Net
open Go.RowKit Go.Proofs.Ytkaoojcafefjjaa.Ms Go.Proofs.YtkaoojcafefjjaaW.PrintWords Go.Proofs.YtkaoojcafefjjaaW.PrintLast Go.Proofs.YtkaoojcafefjjaaW.PrintMore
attribute [local go_sem] Go.Proofs.Ytkaoojcafefjjaa.Ms.eqlErr Go.Proofs.Ytkaoojcafefjjaa.Ms.neqErr Go.Proofs.Ytkaoojcafefjjaa.Ms.eqlErrNil Go.Proofs.Ytkaoojcafefjjaa.Ms.neqErrNil
set_option linter.unusedVariables false
set_option linter.unusedSimpArgs false
set_option maxHeartbeats 16000000 in
set_option maxRecDepth 100000 in
attribute [local go_sem high] Go.Proofs.Ytkaoojcafefjjaa.Ms.eqA41 in
theorem twice_calls (f from_ : Int) (A0 : Option Addr) (c0 : Nat) (os : List S31) (i : Int) (w : World) (hO : Kd.C k31 w A0 os.length os) :
    Calls Try.prog 5 #[.int .i64 f, .int .i64 from_, .slice A0 os.length c0, .int .i64 i] w fun e w' => e = .returned (.bool true) ∧ Below w.heap.size w w' := by
  have HO := Lib.hid hO
  clear hO
  go_enter Try.func5, Try.ntmps5
  go_wp2_with fail
  refine (up_calls _).mono ?_
  rintro e w1 ⟨rfl, hb1⟩
  have HB1 := Lib.hid hb1
  clear hb1
  by_cases q1 : f < 1
  · have t1 : decide (f < 1) = true := by simpa using q1
    clear q1
    go_wp2
    go_ret
    exact ⟨rfl, HB1.out⟩
  have t1 : decide (f < 1) = false := by simpa using q1
  by_cases q2 : 4 < f
  · have t2 : decide (4 < f) = true := by simpa using q2
    clear q1 q2
    go_wp2
    go_ret
    exact ⟨rfl, HB1.out⟩
  have t2 : decide (4 < f) = false := by simpa using q2
  have HF1 : Hid (1 ≤ f) := Lib.hid (by omega)
  have HF4 : Hid (f ≤ 4) := Lib.hid (by omega)
  clear q1 q2
  by_cases q3 : 20 < (os.length : Int)
  · have t3 : decide (20 < (os.length : Int)) = true := by simpa using q3
    clear q3
    go_wp2
    go_ret
    exact ⟨rfl, HB1.out⟩
  have t3 : decide (20 < (os.length : Int)) = false := by simpa using q3
  have HL : Hid (os.length ≤ 20) := Lib.hid (by omega)
  clear q3
  go_wp2_with fail
  clear t1 t2 t3
  go_loopg [10] os.length (fun kq v10 w' => ∃ j : Nat, v10 = .int .i64 (j : Int) ∧ Hid (j + kq = os.length) ∧ Hid (Below w.heap.size w w'))
  case atStart => exact ⟨0, rfl, Lib.hid (by omega), HB1⟩
  case round =>
    obtain ⟨j, rfl, HJ, HB⟩ := hrel
    by_cases hj : j < os.length
    · have hd : decide (j < os.length) = true := by simpa using hj
      cases gk with
      | zero => have := HJ.out; omega
      | succ k1 =>
      obtain ⟨ad, A6, c6, A7, c7, rfl, x0, x1, x2, x3, x4, x5, x6, x7, l6, g6, l7, g7⟩ := at_T31 (Kd.C_below HO.out HB.out) (j : Int) (by omega) (by omega)
      rw [Int.toNat_natCast] at x0 x1 x2 x3 x4 x5 x6 x7
      have hwj : wrap64 ((j : Int) + 1) = ((j + 1 : Nat) : Int) := by have := HL.out; unfold wrap64; omega
      generalize rd_T31 os (j : Int) = o at x0 x1 x2 x3 x4 x5 x6 x7 l6 g6 l7 g7
      have HL6 := Lib.hid l6
      have HG6 := Lib.hid g6
      have HL7 := Lib.hid l7
      have HG7 := Lib.hid g7
      have HJJ := Lib.hid hj
      clear l6 g6 l7 g7 hj
      go_wp2_with fail
      refine (becketref12_Short.calls 1000 o.f1.f0 o.f1.f1 o.f1.f2 o.f1.f3 o.f1.f4 A6 c6 o.f1.f5 A7 c7 o.f1.f6 (MsgP.shortM o.f1.f4 o.f1.f5 o.f1.f6) _ HG6.out HL6.out HG7.out HL7.out (MsgP.Short_f _ _ _ _ _ _ _ 1000 (by decide))).mono ?_
      rintro e w2 ⟨rfl, hb2⟩
      have HB2 := Lib.hid (HB.out.trans (hb2.mono HB.out.size))
      clear hb2 x0 x1 x2 x3 x4 x5 x6 x7 HG6 HG7 HL6 HL7
      cases hs : MsgP.shortM o.f1.f4 o.f1.f5 o.f1.f6 with
      | false =>
        go_wp2
        go_ret
        exact ⟨rfl, HB2.out⟩
      | true =>
        go_wp2_with fail
        go_roundg k1
        case measure => omega
        case rel => exact ⟨j + 1, by first | (rw [hwj]; done) | (simp; done), Lib.hid (by have := HJ.out; omega), HB2⟩
    have hd : decide (j < os.length) = false := by simpa using hj
    clear hj
    go_wp2_with fail
    refine (net_New wr f HF1.out HF4.out).mono ?_
    rintro e w2 ⟨rfl, hn2, hb2⟩
    obtain ⟨g, hg⟩ : ∃ g, g = wr.heap.size := ⟨_, rfl⟩
    rw [← hg] at hn2 ⊢
    have HG := Lib.hid hg
    have HN2 := Lib.hid hn2
    have HB2 := Lib.hid hb2
    have HGE : Hid (w.heap.size ≤ g) := Lib.hid (by rw [hg]; exact HB.out.size)
    clear hn2 hb2 hg
    go_wp2_with fail
    refine (net_Send w2 g (fun k => k = g) g f [] HN2.out (by have := HN2.out.glt; omega) from_ A0 c0 os (fun W _ hb => Kd.C_below (Kd.C_below HO.out HB.out) (HB2.out.trans (by rw [← HG.out]; exact hb))) HF1.out HF4.out (by have := HL.out; simp; omega)).mono ?_
    rintro e w3 ⟨rfl, hn3⟩
    rw [List.nil_append] at hn3
    obtain ⟨L, hLd⟩ : ∃ L, L = sent f from_ os := ⟨_, rfl⟩
    have HLL : Hid (L.length ≤ 260) := Lib.hid (by have := sent_len HF4.out from_ os; rw [← hLd] at this; have := HL.out; omega)
    rw [← hLd] at hn3
    have HN3 := Lib.hid hn3.1.bound
    have HB3 := Lib.hid (HB2.out.trans (by rw [← HG.out]; exact hn3.2.2))
    clear hn3 HN2 HB2 hLd
    go_wp2_with fail
    refine (net_All _ _ _ _ _ _ HN3.out).mono ?_
    rintro e w4 ⟨v4, rfl, hr4, hb4⟩
    obtain ⟨A4, c4, rfl⟩ := Kd.R_slice hr4
    have HR4 := Lib.hid (Kd.R_mono (ok' := fun k => w3.heap.size ≤ k) (Kd.R_bound hr4) (fun k hk => hk.2.1))
    have HN4 : Hid (NetAt w4 g (fun k => k < w3.heap.size) g f L) := Lib.hid ((HN3.out.below hb4).mono (fun k hk => hk.2.2))
    have HB4 := Lib.hid (HB3.out.trans (hb4.mono HB3.out.size))
    have HS4 := Lib.hid hb4.size
    have HG4 : Hid (g ≤ w4.heap.size) := Lib.hid (by have := HN4.out.glt; omega)
    clear hr4 hb4 HN3 HB3
    go_wp2_with fail
    by_cases q : i < 0 ∨ (L.length : Int) ≤ i
    · have HQ := Lib.hid q
      clear q
      refine (net_Dup_no _ _ _ _ _ _ HN4.out i HQ.out).mono ?_
      rintro e w5 ⟨rfl, hb5⟩
      have HN5 := Lib.hid (HN4.out.below hb5)
      have HR5 := Lib.hid (Kd.R_below HR4.out hb5)
      have HB5 := Lib.hid (HB4.out.trans (hb5.mono HB4.out.size))
      clear hb5 HN4 HR4 HB4
      by_cases q0 : i < 0
      · have t1 : decide (i < 0) = true := by simpa using q0
        clear q0
        go_wp2_with fail
        refine (net_All _ _ _ _ _ _ HN5.out).mono ?_
        rintro e w6 ⟨v6, rfl, hr6, hb6⟩
        obtain ⟨A6, c6, rfl⟩ := Kd.R_slice hr6
        have HR6 := Lib.hid (Kd.R_reads' hr6)
        have HR56 := Lib.hid (Kd.R_reads' (Kd.R_below HR5.out hb6))
        have HB6 := Lib.hid (HB5.out.trans (hb6.mono HB5.out.size))
        clear hr6 hb6
        go_wp2_with fail
        refine (becketref18_Same.calls 100001 A6 c6 L A4 c4 L true _ HR6.out.2.2 HR6.out.2.1 HR56.out.2.2 HR56.out.2.1 (same_f _ (by have := HLL.out; omega))).mono ?_
        rintro e w7 ⟨rfl, hd7⟩
        have HB7 := Lib.hid (HB6.out.trans (hd7.below.mono HB6.out.size))
        clear hd7
        go_wp2
        go_ret
        exact ⟨rfl, HB.out.trans (HB7.out.mono HB.out.size)⟩
      · have t1 : decide (i < 0) = false := by simpa using q0
        have t2 : decide ((L.length : Int) ≤ i) = true := by have := HQ.out; simp; omega
        clear q0
        go_wp2_with fail
        refine (net_All _ _ _ _ _ _ HN5.out).mono ?_
        rintro e w6 ⟨v6, rfl, hr6, hb6⟩
        obtain ⟨A6, c6, rfl⟩ := Kd.R_slice hr6
        have HR6 := Lib.hid (Kd.R_reads' hr6)
        have HR56 := Lib.hid (Kd.R_reads' (Kd.R_below HR5.out hb6))
        have HB6 := Lib.hid (HB5.out.trans (hb6.mono HB5.out.size))
        clear hr6 hb6
        go_wp2_with fail
        refine (becketref18_Same.calls 100001 A6 c6 L A4 c4 L true _ HR6.out.2.2 HR6.out.2.1 HR56.out.2.2 HR56.out.2.1 (same_f _ (by have := HLL.out; omega))).mono ?_
        rintro e w7 ⟨rfl, hd7⟩
        have HB7 := Lib.hid (HB6.out.trans (hd7.below.mono HB6.out.size))
        clear hd7
        go_wp2
        go_ret
        exact ⟨rfl, HB.out.trans (HB7.out.mono HB.out.size)⟩
    obtain ⟨k, rfl⟩ : ∃ k : Nat, i = (k : Int) := ⟨i.toNat, by omega⟩
    have hk : k < L.length := by omega
    have HK := Lib.hid hk
    have t1 : decide ((k : Int) < 0) = false := by simp
    have t2 : decide (L.length ≤ k) = false := by simp; omega
    obtain ⟨gw, cap, he, hgw1, hgw2, cells0, hcells0⟩ := Kd.R_form HR4.out (by omega)
    injection he with e1 e2 e3
    subst e1 e3
    have HR4b := Lib.hid (Kd.R_mono (ok' := fun k => w3.heap.size ≤ k ∧ k < w4.heap.size) (Kd.R_bound HR4.out) (fun k hk => ⟨hk.1, hk.2.2.1⟩))
    clear q hk e2 hgw1 hgw2 hcells0 cells0 HR4
    obtain ⟨x, hx⟩ : ∃ x, x = rd_T41 L (k : Int) := ⟨_, rfl⟩
    refine (net_Dup _ _ _ _ _ _ HN4.out HG4.out k HK.out (by have := HLL.out; omega)).mono ?_
    rintro e w5 ⟨rfl, hn5⟩
    rw [← hx] at hn5
    have HX := Lib.hid hx
    clear hx
    have hxl : rd_T41 (L ++ [(⟨x.f0, x.f1, x.f2⟩ : S41)]) (L.length : Int) = x := by
      rw [rdF_get _ L.length (by simp)]
      simp
    have hel : (L ++ [(⟨x.f0, x.f1, x.f2⟩ : S41)]).eraseIdx L.length = L := by
      rw [List.eraseIdx_append_of_length_le (Nat.le_refl _)]
      simp
    have HN5 := Lib.hid (hn5.1.bound)
    have HR5 := Lib.hid (Kd.R_kept HR4b.out hn5.2.1 (fun k hk h => by have := hk.1; omega))
    have HB5 := Lib.hid (HB4.out.trans (by rw [← HG.out]; exact hn5.2.2))
    have HS5 := Lib.hid hn5.2.1.1
    have HXL := Lib.hid hxl
    have HEL := Lib.hid hel
    clear hn5 hxl hel HN4 HR4b HB4
    go_wp2_with fail
    refine (net_Take w5 g _ g f _ HN5.out (by have := HN5.out.glt; omega) L.length (by simp)).mono ?_
    rintro e w6 ⟨rfl, hn6⟩
    rw [HXL.out]
    rw [HEL.out] at hn6
    have HN6 := Lib.hid (hn6.1.bound)
    have HR6 := Lib.hid (Kd.R_kept HR5.out hn6.2.1 (fun j hj h => by
      have h2 := h.1
      have h3 := HS4.out
      rcases h2 with h2 | h2 <;> omega))
    have HB6 := Lib.hid (HB5.out.trans (by rw [← HG.out]; exact hn6.2.2))
    have HS6 := Lib.hid (Nat.le_trans HS5.out hn6.2.1.1)
    clear hn6 HN5 HR5 HB5 HXL HEL
    go_wp2_with fail
    obtain ⟨b1, hb1⟩ : ∃ b1, b1 = w6.heap.size := ⟨_, rfl⟩
    have hX6 := heap_alloc_new w6 (.cells #[.int .i64 x.f0, .int .i64 x.f1, .string x.f2] 41)
    have hBl6 : Below w6.heap.size w6 (w6.alloc (.cells #[.int .i64 x.f0, .int .i64 x.f1, .string x.f2] 41)) := (Below.refl _ w6).alloc (Nat.le_refl _) _
    have hs6 : (w6.alloc (.cells #[.int .i64 x.f0, .int .i64 x.f1, .string x.f2] 41)).heap.size = w6.heap.size + 1 := by simp
    generalize w6.alloc (.cells #[.int .i64 x.f0, .int .i64 x.f1, .string x.f2] 41) = wc at hX6 hBl6 hs6 ⊢
    rw [← hb1] at hX6 hs6 ⊢
    have HN7 : Hid (NetAt wc g (fun k => ((k < w3.heap.size ∨ w4.heap.size ≤ k) ∧ g ≤ k ∧ k < w5.heap.size ∨ w5.heap.size ≤ k) ∧ k < b1) g f L) := Lib.hid ((HN6.out.below hBl6).mono (fun k hk => ⟨hk.1, by rw [hb1]; exact hk.2.2⟩))
    have HR7 := Lib.hid (Kd.R_below HR6.out hBl6)
    have HB7 := Lib.hid (HB6.out.trans (hBl6.mono HB6.out.size))
    have HX6 := Lib.hid hX6
    have HBS : Hid (w4.heap.size ≤ b1) := Lib.hid (by rw [hb1]; exact HS6.out)
    have HS7 : Hid (wc.heap.size = b1 + 1) := Lib.hid hs6
    clear hX6 hBl6 hs6 hb1 HN6 HR6 HB6 HS6
    refine (net_Take wc g _ g f L HN7.out (by have := HN7.out.glt; omega) k HK.out).mono ?_
    rintro e w7 ⟨rfl, hn7⟩
    rw [← HX.out]
    have HN8 := Lib.hid hn7.1
    have HR8 := Lib.hid (Kd.R_kept HR7.out hn7.2.1 (fun j hj h => by
      have h2 := h.1
      have h3 := HS4.out
      have h5 := HS5.out
      rcases h2 with ⟨h2 | h2, _⟩ | h2 <;> omega))
    have HX7 := Lib.hid (blk_kept HX6.out hn7.2.1 (fun h => by have := h.2; omega))
    have HB8 := Lib.hid (HB7.out.trans (by rw [← HG.out]; exact hn7.2.2))
    have HS8 := Lib.hid hn7.2.1.1
    clear hn7 HN7 HR7 HB7 HX6
    go_wp2_with fail
    have hX8 := heap_alloc_new w7 (.cells #[.int .i64 x.f0, .int .i64 x.f1, .string x.f2] 41)
    have hBl8 : Below w7.heap.size w7 (w7.alloc (.cells #[.int .i64 x.f0, .int .i64 x.f1, .string x.f2] 41)) := (Below.refl _ w7).alloc (Nat.le_refl _) _
    generalize w7.alloc (.cells #[.int .i64 x.f0, .int .i64 x.f1, .string x.f2] 41) = wt at hX8 hBl8 ⊢
    obtain ⟨b2, hb2⟩ : ∃ b2, b2 = w7.heap.size := ⟨_, rfl⟩
    rw [← hb2] at hX8 ⊢
    have HN := Lib.hid (HN8.out.below hBl8)
    have hR := Kd.R_below HR8.out hBl8
    have HCW := Lib.hid (Kd.R_reads' hR).2.2
    have HLW := Lib.hid (Kd.R_reads' hR).2.1
    obtain ⟨hw0, hw1, hw2⟩ := at_cells (c := c4) (Kd.R_reads' hR).2.2 k HK.out
    rw [← HX.out] at hw0 hw1 hw2
    have HC20 := Lib.hid hw0
    have HC21 := Lib.hid hw1
    have HC22 := Lib.hid hw2
    have hX7 := blk_below HX7.out hBl8
    have HC00 : Hid (wt.cell? ⟨b1, 0, none⟩ = some (.int .i64 x.f0)) := Lib.hid ((blk_cell hX7 0).trans rfl)
    have HC01 : Hid (wt.cell? ⟨b1, 1, none⟩ = some (.int .i64 x.f1)) := Lib.hid ((blk_cell hX7 1).trans rfl)
    have HC02 : Hid (wt.cell? ⟨b1, 2, none⟩ = some (.string x.f2)) := Lib.hid ((blk_cell hX7 2).trans rfl)
    have HC10 : Hid (wt.cell? ⟨b2, 0, none⟩ = some (.int .i64 x.f0)) := Lib.hid ((blk_cell hX8 0).trans rfl)
    have HC11 : Hid (wt.cell? ⟨b2, 1, none⟩ = some (.int .i64 x.f1)) := Lib.hid ((blk_cell hX8 1).trans rfl)
    have HC12 : Hid (wt.cell? ⟨b2, 2, none⟩ = some (.string x.f2)) := Lib.hid ((blk_cell hX8 2).trans rfl)
    have HLT0 : Hid (b1 < wt.heap.size) := Lib.hid (blk_lt hX7)
    have HLT1 : Hid (b2 < wt.heap.size) := Lib.hid (blk_lt hX8)
    have HLT2 : Hid (gw < wt.heap.size) := Lib.hid (by obtain ⟨_, _, cur, hcur, _⟩ := R_cells hR; exact blk_lt hcur)
    have HL1 : Hid (L.length ≤ 100000) := Lib.hid (by have := HLL.out; omega)
    have HL2 : Hid ((L.eraseIdx k).length ≤ 100000) := Lib.hid (by have := HLL.out; rw [List.length_eraseIdx_of_lt HK.out]; omega)
    have HB9 := Lib.hid (HB8.out.trans (hBl8.mono HB8.out.size))
    have hkz : (0 : Int) ≤ (k : Int) := by omega
    have hkl : (k : Int) < (L.length : Int) := by have := HK.out; omega
    clear hX8 hBl8 hb2 hR hw0 hw1 hw2 hX7 HN8 HR8 HX7 HB8
    refine start_ (n := 29) (S := fun w' => w'.cell? ⟨b1, 0, none⟩ = some (.int .i64 x.f0) ∧ w'.cell? ⟨b1, 1, none⟩ = some (.int .i64 x.f1) ∧ w'.cell? ⟨b1, 2, none⟩ = some (.string x.f2) ∧ w'.cell? ⟨b2, 0, none⟩ = some (.int .i64 x.f0) ∧ w'.cell? ⟨b2, 1, none⟩ = some (.int .i64 x.f1) ∧ w'.cell? ⟨b2, 2, none⟩ = some (.string x.f2) ∧ w'.cell? ⟨gw, k * 3, none⟩ = some (.int .i64 x.f0) ∧ w'.cell? ⟨gw, k * 3 + 1, none⟩ = some (.int .i64 x.f1) ∧ w'.cell? ⟨gw, k * 3 + 2, none⟩ = some (.string x.f2)) (ds := []) #[false, false, false, false, false, false, false, false, false, false, false, false, false, false, false, false, false, false, false, false, false, false, false, false, false, false, false, false, false] (by kernel_rfl) rfl rfl ⟨(((Below.refl _ wt).drew).cell (p := ⟨b1, 0, none⟩) HLT0.out |>.trans HC00.out), (((Below.refl _ wt).drew).cell (p := ⟨b1, 1, none⟩) HLT0.out |>.trans HC01.out), (((Below.refl _ wt).drew).cell (p := ⟨b1, 2, none⟩) HLT0.out |>.trans HC02.out), (((Below.refl _ wt).drew).cell (p := ⟨b2, 0, none⟩) HLT1.out |>.trans HC10.out), (((Below.refl _ wt).drew).cell (p := ⟨b2, 1, none⟩) HLT1.out |>.trans HC11.out), (((Below.refl _ wt).drew).cell (p := ⟨b2, 2, none⟩) HLT1.out |>.trans HC12.out), (((Below.refl _ wt).drew).cell (p := ⟨gw, k * 3, none⟩) HLT2.out |>.trans HC20.out), (((Below.refl _ wt).drew).cell (p := ⟨gw, k * 3 + 1, none⟩) HLT2.out |>.trans HC21.out), (((Below.refl _ wt).drew).cell (p := ⟨gw, k * 3 + 2, none⟩) HLT2.out |>.trans HC22.out)⟩ (fun hHeld => ?_)
    refine pure_ (i := 0) (N := some 108) (v := ?_) (a' := ?_) #[true, false, false, false, false, false, false, false, false, false, false, false, false, false, false, false, false, false, false, false, false, false, false, false, false, false, false, false, false] rfl rfl (by kernel_rfl) (fun _ _ _ h => h) (Or.inl ⟨by rfl, ?_⟩) ?_ ?_
    rotate_left
    · intro w'
      go_simp
      with_reducible rfl
    rotate_left
    · simp only [Act.put, List.setIfInBounds_toArray, List.set_cons_zero, List.set_cons_succ, i64_w, i32_w]
      rfl
    refine pure_ (i := 1) (N := some 109) (v := ?_) (a' := ?_) #[true, true, false, false, false, false, false, false, false, false, false, false, false, false, false, false, false, false, false, false, false, false, false, false, false, false, false, false, false] rfl rfl (by kernel_rfl) (fun _ _ _ h => h) (Or.inl ⟨by rfl, ?_⟩) ?_ ?_
    rotate_left
    · intro w'
      go_simp
      with_reducible rfl
    rotate_left
    · simp only [Act.put, List.setIfInBounds_toArray, List.set_cons_zero, List.set_cons_succ, i64_w, i32_w]
      rfl
    refine pure_ (i := 2) (N := some 110) (v := ?_) (a' := ?_) #[true, true, true, false, false, false, false, false, false, false, false, false, false, false, false, false, false, false, false, false, false, false, false, false, false, false, false, false, false] rfl rfl (by kernel_rfl) (fun _ _ _ h => h) (Or.inl ⟨by rfl, ?_⟩) ?_ ?_
    rotate_left
    · intro w'
      go_simp
      with_reducible rfl
    rotate_left
    · simp only [Act.put, List.setIfInBounds_toArray, List.set_cons_zero, List.set_cons_succ, i64_w, i32_w]
      rfl
    refine pure_ (i := 3) (N := some 111) (v := ?_) (a' := ?_) #[true, true, true, true, false, false, false, false, false, false, false, false, false, false, false, false, false, false, false, false, false, false, false, false, false, false, false, false, false] rfl rfl (by kernel_rfl) (fun _ _ _ h => h) (Or.inl ⟨by rfl, ?_⟩) ?_ ?_
    rotate_left
    · intro w'
      go_simp
      with_reducible rfl
    rotate_left
    · simp only [Act.put, List.setIfInBounds_toArray, List.set_cons_zero, List.set_cons_succ, i64_w, i32_w]
      rfl
    refine pure_ (i := 4) (N := some 112) (v := ?_) (a' := ?_) #[true, true, true, true, true, false, false, false, false, false, false, false, false, false, false, false, false, false, false, false, false, false, false, false, false, false, false, false, false] rfl rfl (by kernel_rfl) (fun _ _ _ h => h) (Or.inl ⟨by rfl, ?_⟩) ?_ ?_
    rotate_left
    · intro w'
      go_simp
      with_reducible rfl
    rotate_left
    · simp only [Act.put, List.setIfInBounds_toArray, List.set_cons_zero, List.set_cons_succ, i64_w, i32_w]
      rfl
    refine pure_ (i := 5) (N := some 113) (v := ?_) (a' := ?_) #[true, true, true, true, true, true, false, false, false, false, false, false, false, false, false, false, false, false, false, false, false, false, false, false, false, false, false, false, false] rfl rfl (by kernel_rfl) (fun _ _ _ h => h) (Or.inl ⟨by rfl, ?_⟩) ?_ ?_
    rotate_left
    · intro w'
      go_simp
      with_reducible rfl
    rotate_left
    · simp only [Act.put, List.setIfInBounds_toArray, List.set_cons_zero, List.set_cons_succ, i64_w, i32_w]
      rfl
    refine pure_ (i := 6) (N := some 114) (v := ?_) (a' := ?_) #[true, true, true, true, true, true, true, false, false, false, false, false, false, false, false, false, false, false, false, false, false, false, false, false, false, false, false, false, false] rfl rfl (by kernel_rfl) (fun _ _ _ h => h) (Or.inl ⟨by rfl, ?_⟩) ?_ ?_
    rotate_left
    · intro w'
      go_simp
      with_reducible rfl
    rotate_left
    · simp only [Act.put, List.setIfInBounds_toArray, List.set_cons_zero, List.set_cons_succ, i64_w, i32_w]
      rfl
    refine pure_ (i := 7) (N := some 115) (v := ?_) (a' := ?_) #[true, true, true, true, true, true, true, true, false, false, false, false, false, false, false, false, false, false, false, false, false, false, false, false, false, false, false, false, false] rfl rfl (by kernel_rfl) (fun _ _ _ h => h) (Or.inl ⟨by rfl, ?_⟩) ?_ ?_
    rotate_left
    · intro w'
      go_simp
      with_reducible rfl
    rotate_left
    · simp only [Act.put, List.setIfInBounds_toArray, List.set_cons_zero, List.set_cons_succ, i64_w, i32_w]
      rfl
    refine take_ (i := 8) (N := some 116) (v := ?_) (a' := ?_) #[true, true, true, true, true, true, true, true, true, false, false, false, false, false, false, false, false, false, false, false, false, false, false, false, false, false, false, false, false] rfl rfl (by kernel_rfl) (fun _ _ _ h => h) (Or.inl ⟨by rfl, ?_⟩) hHeld ?_ ?_
    rotate_left
    · rintro w' ⟨s0, s1, s2, s3, s4, s5, s6, s7, s8⟩
      go_simp
      with_reducible rfl
    rotate_left
    · simp only [Act.put, List.setIfInBounds_toArray, List.set_cons_zero, List.set_cons_succ, i64_w, i32_w]
      rfl
    refine take_ (i := 9) (N := some 117) (v := ?_) (a' := ?_) #[true, true, true, true, true, true, true, true, true, true, false, false, false, false, false, false, false, false, false, false, false, false, false, false, false, false, false, false, false] rfl rfl (by kernel_rfl) (fun _ _ _ h => h) (Or.inl ⟨by rfl, ?_⟩) hHeld ?_ ?_
    rotate_left
    · rintro w' ⟨s0, s1, s2, s3, s4, s5, s6, s7, s8⟩
      go_simp
      with_reducible rfl
    rotate_left
    · simp only [Act.put, List.setIfInBounds_toArray, List.set_cons_zero, List.set_cons_succ, i64_w, i32_w]
      rfl
    refine pure_ (i := 10) (N := some 118) (v := ?_) (a' := ?_) #[true, true, true, true, true, true, true, true, true, true, true, false, false, false, false, false, false, false, false, false, false, false, false, false, false, false, false, false, false] rfl rfl (by kernel_rfl) (fun _ _ _ h => h) (Or.inl ⟨by rfl, ?_⟩) ?_ ?_
    rotate_left
    · intro w'
      go_simp
      with_reducible rfl
    rotate_left
    · simp only [Act.put, List.setIfInBounds_toArray, List.set_cons_zero, List.set_cons_succ, i64_w, i32_w]
      rfl
    refine pure_ (i := 11) (N := some 119) (v := ?_) (a' := ?_) #[true, true, true, true, true, true, true, true, true, true, true, true, false, false, false, false, false, false, false, false, false, false, false, false, false, false, false, false, false] rfl rfl (by kernel_rfl) (fun _ _ _ h => h) (Or.inl ⟨by rfl, ?_⟩) ?_ ?_
    rotate_left
    · intro w'
      go_simp
      with_reducible rfl
    rotate_left
    · simp only [Act.put, List.setIfInBounds_toArray, List.set_cons_zero, List.set_cons_succ, i64_w, i32_w]
      rfl
    refine pure_ (i := 12) (N := some 120) (v := ?_) (a' := ?_) #[true, true, true, true, true, true, true, true, true, true, true, true, true, false, false, false, false, false, false, false, false, false, false, false, false, false, false, false, false] rfl rfl (by kernel_rfl) (fun _ _ _ h => h) (Or.inl ⟨by rfl, ?_⟩) ?_ ?_
    rotate_left
    · intro w'
      go_simp
      with_reducible rfl
    rotate_left
    · simp only [Act.put, List.setIfInBounds_toArray, List.set_cons_zero, List.set_cons_succ, i64_w, i32_w]
      rfl
    refine pure_ (i := 14) (N := some 122) (v := ?_) (a' := ?_) #[true, true, true, true, true, true, true, true, true, true, true, true, true, false, true, false, false, false, false, false, false, false, false, false, false, false, false, false, false] rfl rfl (by kernel_rfl) (fun _ _ _ h => h) (Or.inl ⟨by rfl, ?_⟩) ?_ ?_
    rotate_left
    · intro w'
      go_simp
      with_reducible rfl
    rotate_left
    · simp only [Act.put, List.setIfInBounds_toArray, List.set_cons_zero, List.set_cons_succ, i64_w, i32_w]
      rfl
    refine pure_ (i := 15) (N := some 123) (v := ?_) (a' := ?_) #[true, true, true, true, true, true, true, true, true, true, true, true, true, false, true, true, false, false, false, false, false, false, false, false, false, false, false, false, false] rfl rfl (by kernel_rfl) (fun _ _ _ h => h) (Or.inl ⟨by rfl, ?_⟩) ?_ ?_
    rotate_left
    · intro w'
      go_simp
      with_reducible rfl
    rotate_left
    · simp only [Act.put, List.setIfInBounds_toArray, List.set_cons_zero, List.set_cons_succ, i64_w, i32_w]
      rfl
    refine pure_ (i := 16) (N := some 124) (v := ?_) (a' := ?_) #[true, true, true, true, true, true, true, true, true, true, true, true, true, false, true, true, true, false, false, false, false, false, false, false, false, false, false, false, false] rfl rfl (by kernel_rfl) (fun _ _ _ h => h) (Or.inl ⟨by rfl, ?_⟩) ?_ ?_
    rotate_left
    · intro w'
      go_simp
      with_reducible rfl
    rotate_left
    · simp only [Act.put, List.setIfInBounds_toArray, List.set_cons_zero, List.set_cons_succ, i64_w, i32_w]
      rfl
    refine take_ (i := 13) (N := some 121) (v := ?_) (a' := ?_) #[true, true, true, true, true, true, true, true, true, true, true, true, true, true, true, true, true, false, false, false, false, false, false, false, false, false, false, false, false] rfl rfl (by kernel_rfl) (fun _ _ _ h => h) (Or.inl ⟨by rfl, ?_⟩) hHeld ?_ ?_
    rotate_left
    · rintro w' ⟨s0, s1, s2, s3, s4, s5, s6, s7, s8⟩
      go_simp
      with_reducible rfl
    rotate_left
    · simp only [Act.put, List.setIfInBounds_toArray, List.set_cons_zero, List.set_cons_succ, i64_w, i32_w]
      rfl
    refine take_ (i := 17) (N := some 125) (v := ?_) (a' := ?_) #[true, true, true, true, true, true, true, true, true, true, true, true, true, true, true, true, true, true, false, false, false, false, false, false, false, false, false, false, false] rfl rfl (by kernel_rfl) (fun _ _ _ h => h) (Or.inl ⟨by rfl, ?_⟩) hHeld ?_ ?_
    rotate_left
    · rintro w' ⟨s0, s1, s2, s3, s4, s5, s6, s7, s8⟩
      go_simp
      with_reducible rfl
    rotate_left
    · simp only [Act.put, List.setIfInBounds_toArray, List.set_cons_zero, List.set_cons_succ, i64_w, i32_w]
      rfl
    refine pure_ (i := 18) (N := some 126) (v := ?_) (a' := ?_) #[true, true, true, true, true, true, true, true, true, true, true, true, true, true, true, true, true, true, true, false, false, false, false, false, false, false, false, false, false] rfl rfl (by kernel_rfl) (fun _ _ _ h => h) (Or.inl ⟨by rfl, ?_⟩) ?_ ?_
    rotate_left
    · intro w'
      go_simp
      with_reducible rfl
    rotate_left
    · simp only [Act.put, List.setIfInBounds_toArray, List.set_cons_zero, List.set_cons_succ, i64_w, i32_w]
      rfl
    refine pure_ (i := 19) (N := some 127) (v := ?_) (a' := ?_) #[true, true, true, true, true, true, true, true, true, true, true, true, true, true, true, true, true, true, true, true, false, false, false, false, false, false, false, false, false] rfl rfl (by kernel_rfl) (fun _ _ _ h => h) (Or.inl ⟨by rfl, ?_⟩) ?_ ?_
    rotate_left
    · intro w'
      go_simp
      with_reducible rfl
    rotate_left
    · simp only [Act.put, List.setIfInBounds_toArray, List.set_cons_zero, List.set_cons_succ, i64_w, i32_w]
      rfl
    refine pure_ (i := 20) (N := some 128) (v := ?_) (a' := ?_) #[true, true, true, true, true, true, true, true, true, true, true, true, true, true, true, true, true, true, true, true, true, false, false, false, false, false, false, false, false] rfl rfl (by kernel_rfl) (fun _ _ _ h => h) (Or.inl ⟨by rfl, ?_⟩) ?_ ?_
    rotate_left
    · intro w'
      go_simp
      with_reducible rfl
    rotate_left
    · simp only [Act.put, List.setIfInBounds_toArray, List.set_cons_zero, List.set_cons_succ, i64_w, i32_w]
      rfl
    refine pure_ (i := 21) (N := some 129) (v := ?_) (a' := ?_) #[true, true, true, true, true, true, true, true, true, true, true, true, true, true, true, true, true, true, true, true, true, true, false, false, false, false, false, false, false] rfl rfl (by kernel_rfl) (fun _ _ _ h => h) (Or.inl ⟨by rfl, ?_⟩) ?_ ?_
    rotate_left
    · intro w'
      go_simp
      with_reducible rfl
    rotate_left
    · simp only [Act.put, List.setIfInBounds_toArray, List.set_cons_zero, List.set_cons_succ, i64_w, i32_w]
      rfl
    refine pure_ (i := 23) (N := some 131) (v := ?_) (a' := ?_) #[true, true, true, true, true, true, true, true, true, true, true, true, true, true, true, true, true, true, true, true, true, true, false, true, false, false, false, false, false] rfl rfl (by kernel_rfl) (fun _ _ _ h => h) (Or.inl ⟨by rfl, ?_⟩) ?_ ?_
    rotate_left
    · intro w'
      go_simp
      with_reducible rfl
    rotate_left
    · simp only [Act.put, List.setIfInBounds_toArray, List.set_cons_zero, List.set_cons_succ, i64_w, i32_w]
      rfl
    refine pure_ (i := 24) (N := some 132) (v := ?_) (a' := ?_) #[true, true, true, true, true, true, true, true, true, true, true, true, true, true, true, true, true, true, true, true, true, true, false, true, true, false, false, false, false] rfl rfl (by kernel_rfl) (fun _ _ _ h => h) (Or.inl ⟨by rfl, ?_⟩) ?_ ?_
    rotate_left
    · intro w'
      go_simp
      with_reducible rfl
    rotate_left
    · simp only [Act.put, List.setIfInBounds_toArray, List.set_cons_zero, List.set_cons_succ, i64_w, i32_w]
      rfl
    refine one_ (i := 22) (N := some 130) #[true, true, true, true, true, true, true, true, true, true, true, true, true, true, true, true, true, true, true, true, true, true, true, true, true, false, false, false, false] rfl rfl (by kernel_rfl) (by decide) (fun K hK => ?_)
    refine goes_ Try.func10 (by kernel_rfl) rfl #[.pointer (some ⟨g, 0, none⟩)] (by rfl) rfl rfl (by simp only [List.map_toArray, List.map_cons, List.map_nil]; rfl) ?_
    with_reducible refine (net_All _ _ _ _ _ _ HN.out.drew).mono ?_
    rintro e wA ⟨vA, rfl, hrA, hbA⟩
    refine ⟨_, rfl, ?_⟩
    obtain ⟨AA, cA, rfl⟩ := Kd.R_slice hrA
    replace hbA : Below wt.heap.size wt wA := ((Below.refl _ wt).drew).trans hbA
    have HRA := Lib.hid (Kd.R_reads' hrA)
    have HBA := Lib.hid hbA
    clear hrA hbA
    refine hK.out _ _ ⟨(HBA.out.cell (p := ⟨b1, 0, none⟩) HLT0.out |>.trans HC00.out), (HBA.out.cell (p := ⟨b1, 1, none⟩) HLT0.out |>.trans HC01.out), (HBA.out.cell (p := ⟨b1, 2, none⟩) HLT0.out |>.trans HC02.out), (HBA.out.cell (p := ⟨b2, 0, none⟩) HLT1.out |>.trans HC10.out), (HBA.out.cell (p := ⟨b2, 1, none⟩) HLT1.out |>.trans HC11.out), (HBA.out.cell (p := ⟨b2, 2, none⟩) HLT1.out |>.trans HC12.out), (HBA.out.cell (p := ⟨gw, k * 3, none⟩) HLT2.out |>.trans HC20.out), (HBA.out.cell (p := ⟨gw, k * 3 + 1, none⟩) HLT2.out |>.trans HC21.out), (HBA.out.cell (p := ⟨gw, k * 3 + 2, none⟩) HLT2.out |>.trans HC22.out)⟩ (fun hHeld => ?_)
    clear hK K
    refine norm_ (a' := ?_) ?_ ?_
    rotate_left
    · show Act.put _ (some 130) _ = _
      simp only [Act.put, List.setIfInBounds_toArray, List.set_cons_zero, List.set_cons_succ, i64_w, i32_w]
      rfl
    refine one_ (i := 25) (N := some 133) #[true, true, true, true, true, true, true, true, true, true, true, true, true, true, true, true, true, true, true, true, true, true, true, true, true, true, false, false, false] rfl rfl (by kernel_rfl) (by decide) (fun K hK => ?_)
    refine goes_ Try.func13 (by kernel_rfl) rfl #[.slice (some ⟨gw, 0, none⟩) L.length c4, .int .i64 (k : Int)] (by rfl) rfl rfl (by simp only [List.map_toArray, List.map_cons, List.map_nil]; rfl) ?_
    with_reducible refine (becketref18_Without.calls 100001 (some ⟨gw, 0, none⟩) c4 L (k : Int) (L.eraseIdx k) _ (Kd.C_below HCW.out HBA.out) HLW.out (without_f L HL1.out k)).mono ?_
    rintro e wB ⟨vB, rfl, hrB, hbB⟩
    refine ⟨_, rfl, ?_⟩
    obtain ⟨AB, cB, rfl⟩ := Kd.R_slice hrB
    have HRB := Lib.hid (Kd.R_reads' hrB)
    have HRA2 := Lib.hid (Kd.C_below HRA.out.2.2 hbB)
    have HBB := Lib.hid (HBA.out.trans (hbB.mono HBA.out.size))
    clear hrB hbB
    refine hK.out _ _ ⟨(HBB.out.cell (p := ⟨b1, 0, none⟩) HLT0.out |>.trans HC00.out), (HBB.out.cell (p := ⟨b1, 1, none⟩) HLT0.out |>.trans HC01.out), (HBB.out.cell (p := ⟨b1, 2, none⟩) HLT0.out |>.trans HC02.out), (HBB.out.cell (p := ⟨b2, 0, none⟩) HLT1.out |>.trans HC10.out), (HBB.out.cell (p := ⟨b2, 1, none⟩) HLT1.out |>.trans HC11.out), (HBB.out.cell (p := ⟨b2, 2, none⟩) HLT1.out |>.trans HC12.out), (HBB.out.cell (p := ⟨gw, k * 3, none⟩) HLT2.out |>.trans HC20.out), (HBB.out.cell (p := ⟨gw, k * 3 + 1, none⟩) HLT2.out |>.trans HC21.out), (HBB.out.cell (p := ⟨gw, k * 3 + 2, none⟩) HLT2.out |>.trans HC22.out)⟩ (fun hHeld => ?_)
    clear hK K
    refine norm_ (a' := ?_) ?_ ?_
    rotate_left
    · show Act.put _ (some 133) _ = _
      simp only [Act.put, List.setIfInBounds_toArray, List.set_cons_zero, List.set_cons_succ, i64_w, i32_w]
      rfl
    refine one_ (i := 26) (N := some 134) #[true, true, true, true, true, true, true, true, true, true, true, true, true, true, true, true, true, true, true, true, true, true, true, true, true, true, true, false, false] rfl rfl (by kernel_rfl) (by decide) (fun K hK => ?_)
    refine goes_ Try.func14 (by kernel_rfl) rfl #[.slice AA (L.eraseIdx k).length cA, .slice AB (L.eraseIdx k).length cB] (by rfl) rfl rfl (by simp only [List.map_toArray, List.map_cons, List.map_nil]; rfl) ?_
    with_reducible refine (becketref18_Same.calls 100001 AA cA (L.eraseIdx k) AB cB (L.eraseIdx k) true _ HRA2.out HRA.out.2.1 HRB.out.2.2 HRB.out.2.1 (same_f _ HL2.out)).mono ?_
    rintro e wC ⟨rfl, hdC⟩
    refine ⟨_, rfl, ?_⟩
    have HBC := Lib.hid (HBB.out.trans (hdC.below.mono HBB.out.size))
    clear hdC
    refine hK.out _ _ ⟨(HBC.out.cell (p := ⟨b1, 0, none⟩) HLT0.out |>.trans HC00.out), (HBC.out.cell (p := ⟨b1, 1, none⟩) HLT0.out |>.trans HC01.out), (HBC.out.cell (p := ⟨b1, 2, none⟩) HLT0.out |>.trans HC02.out), (HBC.out.cell (p := ⟨b2, 0, none⟩) HLT1.out |>.trans HC10.out), (HBC.out.cell (p := ⟨b2, 1, none⟩) HLT1.out |>.trans HC11.out), (HBC.out.cell (p := ⟨b2, 2, none⟩) HLT1.out |>.trans HC12.out), (HBC.out.cell (p := ⟨gw, k * 3, none⟩) HLT2.out |>.trans HC20.out), (HBC.out.cell (p := ⟨gw, k * 3 + 1, none⟩) HLT2.out |>.trans HC21.out), (HBC.out.cell (p := ⟨gw, k * 3 + 2, none⟩) HLT2.out |>.trans HC22.out)⟩ (fun hHeld => ?_)
    clear hK K
    refine norm_ (a' := ?_) ?_ ?_
    rotate_left
    · show Act.put _ (some 134) _ = _
      simp only [Act.put, List.setIfInBounds_toArray, List.set_cons_zero, List.set_cons_succ, i64_w, i32_w]
      rfl
    refine pure_ (i := 27) (N := some 135) (v := ?_) (a' := ?_) #[true, true, true, true, true, true, true, true, true, true, true, true, true, true, true, true, true, true, true, true, true, true, true, true, true, true, true, true, false] rfl rfl (by kernel_rfl) (fun _ _ _ h => h) (Or.inl ⟨by rfl, ?_⟩) ?_ ?_
    rotate_left
    · intro w'
      go_simp
      with_reducible rfl
    rotate_left
    · simp only [Act.put, List.setIfInBounds_toArray, List.set_cons_zero, List.set_cons_succ, i64_w, i32_w]
      rfl
    refine pure_ (i := 28) (N := some 8) (v := ?_) (a' := ?_) #[true, true, true, true, true, true, true, true, true, true, true, true, true, true, true, true, true, true, true, true, true, true, true, true, true, true, true, true, true] rfl rfl (by kernel_rfl) (fun _ _ _ h => h) (Or.inl ⟨by rfl, ?_⟩) ?_ ?_
    rotate_left
    · intro w'
      go_simp
      with_reducible rfl
    rotate_left
    · simp only [Act.put, List.setIfInBounds_toArray, List.set_cons_zero, List.set_cons_succ, i64_w, i32_w]
      rfl
    refine done_ (by kernel_rfl) ?_
    go_wp2
    go_ret
    exact ⟨rfl, HB.out.trans ((HB9.out.trans (HBC.out.mono HB9.out.size)).mono HB.out.size)⟩
end Go.Proofs.Ytkaoojcafefjjaa.Net
