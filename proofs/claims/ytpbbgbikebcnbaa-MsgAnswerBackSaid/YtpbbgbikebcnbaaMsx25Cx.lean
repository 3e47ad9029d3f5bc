-- Cut by a program of this session (wip/shake.py) out of a text of this seat: what this claim doesn't reach is struck out. Lean checks it.
import Derived.Test.YtpbbgbikebcnbaaMsx0Cx
import Derived.Test.YtpbbgbikebcnbaaMsx24Cx
namespace Go.Proofs.Ytpbbgbikebcnbaa.Ms
open Go.RowKit Go.Proofs.YtpbbgbikebcnbaaW.PrintWords Go.Proofs.YtpbbgbikebcnbaaW.PrintLast Go.Proofs.YtpbbgbikebcnbaaW.PrintMore
attribute [local go_sem] max2_int min2_int max_two min_two max_three min_three max_four min_four   -- for this text's walks alone
set_option linter.unusedVariables false
set_option linter.unusedSimpArgs false
attribute [local go_sem] eqlErr neqErr eqlErrNil neqErrNil
open Go.Proofs.Ytpbbgbikebcnbaa.Mw
def becketref04_SameAll.l0 : Nat → List (S58) → List (S58) → Int → Option (Bool)
 | 0, _, _, _ => none
 | k + 1, x0, x1, x5 => if x5 < (x0.length : Int) then (if 0 ≤ x5 then (if x5 < (x1.length : Int) then ((becketref04_Same.f k ((rd_T58 x0 x5).f0) ((rd_T58 x0 x5).f1) ((rd_T58 x0 x5).f2) ((rd_T58 x1 x5).f0) ((rd_T58 x1 x5).f1) ((rd_T58 x1 x5).f2)).bind fun t786 => (if t786 = true then (becketref04_SameAll.l0 k x0 x1 (wrap64 (x5 + 1))) else (some false))) else (none)) else (none)) else (some true)
def becketref04_SameAll.f (k : Nat) (l0 : List (S58)) (l1 : List (S58)) : Option (Bool) := if (l0.length : Int) = (l1.length : Int) then (becketref04_SameAll.l0 k l0 l1 0) else (some false)
def becketref04_SameAll.T6 : Bool × List (List Nat × List Nat) := (true, [([], []), ([], []), ([0, 1], [0, 1]), ([2], [2]), ([], []), ([], []), ([4, 5], [4, 5]), ([6], [6]), ([3, 7], [3, 7]), ([8], [8])])
def becketref04_SameAll.B6 : List Nat := [0, 0, 3, 7, 0, 0, 48, 112, 255, 511]
theorem becketref04_SameAll.tab6 : rtab .any (opsOf Try.f73 6) = becketref04_SameAll.T6 := by kernel_rfl
theorem becketref04_SameAll.bits6 : waitsOk becketref04_SameAll.T6.2 becketref04_SameAll.B6 = true := by kernel_rfl
set_option maxHeartbeats 8000000 in
set_option maxRecDepth 100000 in
theorem becketref04_SameAll.calls (k : Nat) (A0 : Option Addr) (c0 : Nat) (l0 : List (S58)) (A1 : Option Addr) (c1 : Nat) (l1 : List (S58)) (r : Bool) (w : World) (hr0 : Kd.C k58 w A0 l0.length l0) (hc0 : l0.length ≤ c0) (hr1 : Kd.C k58 w A1 l1.length l1) (hc1 : l1.length ≤ c1) (h : becketref04_SameAll.f k l0 l1 = some r) :
  Calls Try.prog 73 #[.slice A0 l0.length c0, .slice A1 l1.length c1] w fun e w' => e = .returned (.bool r) ∧ Below w.heap.size w w' := by
 have hu58 := Try.underlying58
 have HR0 := Aside0.mk hr0
 have HC0 := Aside0.mk hc0
 clear hr0 hc0
 have HR1 := Aside0.mk hr1
 have HC1 := Aside0.mk hc1
 clear hr1 hc1
 have HB := Aside0.mk (Below.refl w.heap.size w)
 have H : (if (l0.length : Int) = (l1.length : Int) then (becketref04_SameAll.l0 k l0 l1 0) else (some false)) = some r := h
 clear h
 by_cases c3 : (l0.length : Int) = (l1.length : Int)
 ·rw [if_pos c3] at H
  have c3b0 : ((l0.length : Int) == (l1.length : Int)) = true := beq_iff_eq.mpr c3
  have c3b1 : ((l0.length : Int) != (l1.length : Int)) = false := bne_eq_false_iff_eq.mpr c3
  have c3b2 : (l0.length == l1.length) = true := by first | simpa using c3 | (simp at c3 ⊢; omega)
  clear c3
  have H' := Aside0.mk H
  clear H
  go_enter Try.func73, Try.ntmps73
  go_wp2
  go_loopg [5] k (fun kq v5 w' => ∃ (x5_1 : Int), v5 = .int .i64 x5_1 ∧ Aside0 (becketref04_SameAll.l0 kq l0 l1 x5_1 = some r) ∧ Aside0 (kq ≤ k) ∧ Aside0 (Below w.heap.size w w'))
  case atStart => exact ⟨(0), (by first | rfl | (simp; done) | (simp [*]; done)), H', ⟨Nat.le_refl _⟩, ⟨HB.out⟩⟩
  case round =>
   clear H'
   try clear c1
   try clear p2
   try clear c3
   try clear c3b0
   try clear c3b1
   try clear c3b2
   obtain ⟨x5_1, rfl, HA, HK1, HB⟩ := hrel
   cases gk with
   | zero => exact absurd HA.out (by simp [becketref04_SameAll.l0])
   | succ k1 =>
    have H := HA.out
    clear HA
    simp only [becketref04_SameAll.l0] at H
    by_cases c4 : x5_1 < (l0.length : Int)
    ·rw [if_pos c4] at H
     have c4b0 : decide (x5_1 < (l0.length : Int)) = true := decide_eq_true c4
     clear c4
     by_cases c5 : 0 ≤ x5_1
     ·rw [if_pos c5] at H
      have c5b0 : decide (0 ≤ x5_1) = true := decide_eq_true c5
      clear c5
      by_cases c6 : x5_1 < (l1.length : Int)
      ·rw [if_pos c6] at H
       have c6b0 : decide (x5_1 < (l1.length : Int)) = true := decide_eq_true c6
       clear c6
       replace H := Option.bind_eq_some_iff.mp H
       obtain ⟨t786, A70, H⟩ := H
       replace H : (if t786 = true then (becketref04_SameAll.l0 k1 l0 l1 (wrap64 (x5_1 + 1))) else (some false)) = some r := H
       have A7 := Aside0.mk A70
       clear A70
       by_cases c8 : t786 = true
       ·subst c8
        have H1 : (becketref04_SameAll.l0 k1 l0 l1 (wrap64 (x5_1 + 1))) = some r := by first | (rw [if_pos rfl] at H; with_reducible exact H) | exact (if_pos rfl).symm.trans H | (simp only [if_true, eq_self_iff_true] at H ⊢; exact H)
        clear H
        have H := H1
        clear H1
        have H' := Aside0.mk H
        clear H
        try go_wp2
        have n0_ := Aside0.mk (below_drew1 HB.out)
        clear HB
        have HB := n0_
        clear n0_
        have p784 : 0 ≤ (x5_1 : Int) := of_decide_eq_true (by first | (with_reducible assumption) | assumption)
        have q784 : x5_1 < (l0.length : Int) := of_decide_eq_true (by first | (with_reducible assumption) | assumption)
        obtain ⟨ad784, A784_2, c784_2, e784, hx784_0, hx784_1, hx784_2, hl784_2, hi784_2⟩ := at_T58 HR0.out x5_1 p784 q784
        have hw784_2 := hx784_2
        have hw784_1 := hx784_1
        have hw784_0 := hx784_0
        cases e784
        replace hx784_0 := (HB.out.cell (World.block_lt_of_cell? w _ hx784_0)).trans hx784_0
        replace hx784_1 := (HB.out.cell (World.block_lt_of_cell? w _ hx784_1)).trans hx784_1
        replace hx784_2 := (HB.out.cell (World.block_lt_of_cell? w _ hx784_2)).trans hx784_2
        have HR784_2 := Aside0.mk hi784_2
        have HC784_2 := Aside0.mk hl784_2
        clear hi784_2 hl784_2
        replace p784 := eq_true p784
        replace q784 := eq_true q784
        have p785 : 0 ≤ (x5_1 : Int) := of_decide_eq_true (by first | (with_reducible assumption) | assumption)
        have q785 : x5_1 < (l1.length : Int) := of_decide_eq_true (by first | (with_reducible assumption) | assumption)
        obtain ⟨ad785, A785_2, c785_2, e785, hx785_0, hx785_1, hx785_2, hl785_2, hi785_2⟩ := at_T58 HR1.out x5_1 p785 q785
        have hw785_2 := hx785_2
        have hw785_1 := hx785_1
        have hw785_0 := hx785_0
        cases e785
        replace hx785_0 := (HB.out.cell (World.block_lt_of_cell? w _ hx785_0)).trans hx785_0
        replace hx785_1 := (HB.out.cell (World.block_lt_of_cell? w _ hx785_1)).trans hx785_1
        replace hx785_2 := (HB.out.cell (World.block_lt_of_cell? w _ hx785_2)).trans hx785_2
        have HR785_2 := Aside0.mk hi785_2
        have HC785_2 := Aside0.mk hl785_2
        clear hi785_2 hl785_2
        replace p785 := eq_true p785
        replace q785 := eq_true q785
        refine start_ (n := 10) (S := fun w' => w'.cell? (ad784.add ((x5_1).toNat * 3)) = some (.string ((rd_T58 l0 x5_1).f0)) ∧ w'.cell? ⟨(ad784.add ((x5_1).toNat * 3)).block, (ad784.add ((x5_1).toNat * 3)).off + 1, none⟩ = some (.int .i64 ((rd_T58 l0 x5_1).f1)) ∧ w'.cell? ⟨(ad784.add ((x5_1).toNat * 3)).block, (ad784.add ((x5_1).toNat * 3)).off + 2, none⟩ = some (.slice A784_2 ((rd_T58 l0 x5_1).f2).length c784_2) ∧ w'.cell? (ad785.add ((x5_1).toNat * 3)) = some (.string ((rd_T58 l1 x5_1).f0)) ∧ w'.cell? ⟨(ad785.add ((x5_1).toNat * 3)).block, (ad785.add ((x5_1).toNat * 3)).off + 1, none⟩ = some (.int .i64 ((rd_T58 l1 x5_1).f1)) ∧ w'.cell? ⟨(ad785.add ((x5_1).toNat * 3)).block, (ad785.add ((x5_1).toNat * 3)).off + 2, none⟩ = some (.slice A785_2 ((rd_T58 l1 x5_1).f2).length c785_2)) (ds := []) #[false, false, false, false, false, false, false, false, false, false] (by kernel_rfl) rfl rfl ⟨((HB.out.cell (World.block_lt_of_cell? w _ hw784_0)).trans hw784_0), ((HB.out.cell (World.block_lt_of_cell? w _ hw784_1)).trans hw784_1), ((HB.out.cell (World.block_lt_of_cell? w _ hw784_2)).trans hw784_2), ((HB.out.cell (World.block_lt_of_cell? w _ hw785_0)).trans hw785_0), ((HB.out.cell (World.block_lt_of_cell? w _ hw785_1)).trans hw785_1), ((HB.out.cell (World.block_lt_of_cell? w _ hw785_2)).trans hw785_2)⟩ (fun hHeld => ?_); refine with_tabW becketref04_SameAll.tab6 becketref04_SameAll.bits6 (fun HT_ HW_ => ?_)
        generalize wr.drew = w9 at HB HR784_2 HR785_2 hx784_0 hx784_1 hx784_2 hx785_0 hx785_1 hx785_2 hHeld ⊢
        refine pure_ (i := 0) (N := some 17) (v := ?_) (a' := ?_) #[true, false, false, false, false, false, false, false, false, false] rfl rfl (any_of HT_.out (by kernel_rfl)) (fun _ _ _ h => h) (Or.inl ⟨by rfl, ?_⟩) ?_ ?_
        rotate_left
        ·intro w'
         go_simp
         with_reducible rfl
        rotate_left
        ·simp only [Act.put, List.setIfInBounds_toArray, List.set_cons_zero, List.set_cons_succ, i64_w, i32_w]
         rfl
        refine pure_ (i := 1) (N := some 18) (v := ?_) (a' := ?_) #[true, true, false, false, false, false, false, false, false, false] rfl rfl (any_of HT_.out (by kernel_rfl)) (fun _ _ _ h => h) (Or.inl ⟨by rfl, ?_⟩) ?_ ?_
        rotate_left
        ·intro w'
         go_simp
         with_reducible rfl
        rotate_left
        ·simp only [Act.put, List.setIfInBounds_toArray, List.set_cons_zero, List.set_cons_succ, i64_w, i32_w]
         rfl
        refine pure_ (i := 2) (N := some 19) (v := ?_) (a' := ?_) #[true, true, true, false, false, false, false, false, false, false] rfl rfl (any_of HT_.out (by kernel_rfl)) (fun _ _ _ h => h) (Or.inl ⟨by rfl, ?_⟩) ?_ ?_
        rotate_left
        ·intro w'
         go_simp
         with_reducible rfl
        rotate_left
        ·simp only [Act.put, List.setIfInBounds_toArray, List.set_cons_zero, List.set_cons_succ, i64_w, i32_w]
         rfl
        refine pure_ (i := 4) (N := some 21) (v := ?_) (a' := ?_) #[true, true, true, false, true, false, false, false, false, false] rfl rfl (any_of HT_.out (by kernel_rfl)) (fun _ _ _ h => h) (Or.inl ⟨by rfl, ?_⟩) ?_ ?_
        rotate_left
        ·intro w'
         go_simp
         with_reducible rfl
        rotate_left
        ·simp only [Act.put, List.setIfInBounds_toArray, List.set_cons_zero, List.set_cons_succ, i64_w, i32_w]
         rfl
        refine pure_ (i := 5) (N := some 22) (v := ?_) (a' := ?_) #[true, true, true, false, true, true, false, false, false, false] rfl rfl (any_of HT_.out (by kernel_rfl)) (fun _ _ _ h => h) (Or.inl ⟨by rfl, ?_⟩) ?_ ?_
        rotate_left
        ·intro w'
         go_simp
         with_reducible rfl
        rotate_left
        ·simp only [Act.put, List.setIfInBounds_toArray, List.set_cons_zero, List.set_cons_succ, i64_w, i32_w]
         rfl
        refine pure_ (i := 6) (N := some 23) (v := ?_) (a' := ?_) #[true, true, true, false, true, true, true, false, false, false] rfl rfl (any_of HT_.out (by kernel_rfl)) (fun _ _ _ h => h) (Or.inl ⟨by rfl, ?_⟩) ?_ ?_
        rotate_left
        ·intro w'
         go_simp
         with_reducible rfl
        rotate_left
        ·simp only [Act.put, List.setIfInBounds_toArray, List.set_cons_zero, List.set_cons_succ, i64_w, i32_w]
         rfl
        refine take_ (i := 3) (N := some 20) (v := ?_) (a' := ?_) #[true, true, true, true, true, true, true, false, false, false] rfl rfl (take_ofW HT_.out HW_.out (by kernel_rfl)) (fun _ _ _ h => h) (Or.inl ⟨by rfl, ?_⟩) hHeld ?_ ?_
        rotate_left
        ·rintro w' ⟨s0, s1, s2, s3, s4, s5⟩
         go_simp
         with_reducible rfl
        rotate_left
        ·simp only [Act.put, List.setIfInBounds_toArray, List.set_cons_zero, List.set_cons_succ, i64_w, i32_w]
         rfl
        refine take_ (i := 7) (N := some 24) (v := ?_) (a' := ?_) #[true, true, true, true, true, true, true, true, false, false] rfl rfl (take_ofW HT_.out HW_.out (by kernel_rfl)) (fun _ _ _ h => h) (Or.inl ⟨by rfl, ?_⟩) hHeld ?_ ?_
        rotate_left
        ·rintro w' ⟨s0, s1, s2, s3, s4, s5⟩
         go_simp
         with_reducible rfl
        rotate_left
        ·simp only [Act.put, List.setIfInBounds_toArray, List.set_cons_zero, List.set_cons_succ, i64_w, i32_w]
         rfl
        refine one_ (i := 8) (N := some 25) #[true, true, true, true, true, true, true, true, true, false] rfl rfl (one_of HT_.out (by kernel_rfl)) (by decide) (fun K hK => ?_)
        refine goes_ Try.func81 (by kernel_rfl) rfl #[.agg #[.string ((rd_T58 l0 x5_1).f0), .int .i64 ((rd_T58 l0 x5_1).f1), .slice A784_2 ((rd_T58 l0 x5_1).f2).length c784_2], .agg #[.string ((rd_T58 l1 x5_1).f0), .int .i64 ((rd_T58 l1 x5_1).f1), .slice A785_2 ((rd_T58 l1 x5_1).f2).length c785_2]] (by rfl) rfl rfl (by (try simp only [List.map_toArray, List.map_cons, List.map_nil]); first | done | rfl | (simp only [List.length_drop, List.length_take]; rfl)) ?_
        with_reducible refine (becketref04_Same.calls k1 ((rd_T58 l0 x5_1).f0) ((rd_T58 l0 x5_1).f1) _ _ ((rd_T58 l0 x5_1).f2) ((rd_T58 l1 x5_1).f0) ((rd_T58 l1 x5_1).f1) _ _ ((rd_T58 l1 x5_1).f2) true _ ?side1 ?side2 ?side3 ?side4 A7.out).mono ?_
        (case side1 => repeat (first | exact (Kd.C_below HR784_2.out HB.out) | (with_reducible refine Kd.C_alloc ?_ _) | (with_reducible refine Kd.C_drewN ?_ _) | (with_reducible refine Kd.C_drew ?_)))
        (case side2 => exact HC784_2.out)
        (case side3 => repeat (first | exact (Kd.C_below HR785_2.out HB.out) | (with_reducible refine Kd.C_alloc ?_ _) | (with_reducible refine Kd.C_drewN ?_ _) | (with_reducible refine Kd.C_drew ?_)))
        (case side4 => exact HC785_2.out)
        rintro e w10 ⟨rfl, hb⟩
        refine ⟨_, rfl, ?_⟩
        have n0_ := Aside0.mk (below_step (HB.out) hb)
        clear HB
        have HB := n0_
        clear n0_
        (try clear hb)
        (try clear hb2)
        (try clear hk)
        (try clear hi)
        refine hK.out _ _ ⟨((HB.out.cell (World.block_lt_of_cell? w _ hw784_0)).trans hw784_0), ((HB.out.cell (World.block_lt_of_cell? w _ hw784_1)).trans hw784_1), ((HB.out.cell (World.block_lt_of_cell? w _ hw784_2)).trans hw784_2), ((HB.out.cell (World.block_lt_of_cell? w _ hw785_0)).trans hw785_0), ((HB.out.cell (World.block_lt_of_cell? w _ hw785_1)).trans hw785_1), ((HB.out.cell (World.block_lt_of_cell? w _ hw785_2)).trans hw785_2)⟩ (fun hHeld => ?_)
        clear hK K
        refine norm_ (a' := ?_) ?_ ?_
        rotate_left
        ·show Act.put _ (some 25) _ = _
         simp only [Act.put, List.setIfInBounds_toArray, List.set_cons_zero, List.set_cons_succ, i64_w, i32_w]
         rfl
        refine pure_ (i := 9) (N := some 26) (v := ?_) (a' := ?_) #[true, true, true, true, true, true, true, true, true, true] rfl rfl (any_of HT_.out (by kernel_rfl)) (fun _ _ _ h => h) (Or.inl ⟨by rfl, ?_⟩) ?_ ?_
        rotate_left
        ·intro w'
         go_simp
         with_reducible rfl
        rotate_left
        ·simp only [Act.put, List.setIfInBounds_toArray, List.set_cons_zero, List.set_cons_succ, i64_w, i32_w]
         rfl
        refine done_ (done_of HT_.out (by kernel_rfl)) ?_
        try go_wp2
        go_roundg k1
        case measure => have := HK1.out; omega
        case rel => exact ⟨(wrap64 (x5_1 + 1)), (by first | rfl | (simp; done) | (simp [*]; done)), H', ⟨by have := HK1.out; omega⟩, ⟨HB.out⟩⟩
       ·replace c8 := Bool.eq_false_iff.mpr c8
        subst c8
        have H1 : (some false) = some r := by rw [if_neg (show ¬ (false = true) by decide)] at H; exact H
        clear H
        have H := H1
        clear H1
        obtain rfl := Option.some.inj H
        try go_wp2
        have n0_ := Aside0.mk (below_drew1 HB.out)
        clear HB
        have HB := n0_
        clear n0_
        have p784 : 0 ≤ (x5_1 : Int) := of_decide_eq_true (by first | (with_reducible assumption) | assumption)
        have q784 : x5_1 < (l0.length : Int) := of_decide_eq_true (by first | (with_reducible assumption) | assumption)
        obtain ⟨ad784, A784_2, c784_2, e784, hx784_0, hx784_1, hx784_2, hl784_2, hi784_2⟩ := at_T58 HR0.out x5_1 p784 q784
        have hw784_2 := hx784_2
        have hw784_1 := hx784_1
        have hw784_0 := hx784_0
        cases e784
        replace hx784_0 := (HB.out.cell (World.block_lt_of_cell? w _ hx784_0)).trans hx784_0
        replace hx784_1 := (HB.out.cell (World.block_lt_of_cell? w _ hx784_1)).trans hx784_1
        replace hx784_2 := (HB.out.cell (World.block_lt_of_cell? w _ hx784_2)).trans hx784_2
        have HR784_2 := Aside0.mk hi784_2
        have HC784_2 := Aside0.mk hl784_2
        clear hi784_2 hl784_2
        replace p784 := eq_true p784
        replace q784 := eq_true q784
        have p785 : 0 ≤ (x5_1 : Int) := of_decide_eq_true (by first | (with_reducible assumption) | assumption)
        have q785 : x5_1 < (l1.length : Int) := of_decide_eq_true (by first | (with_reducible assumption) | assumption)
        obtain ⟨ad785, A785_2, c785_2, e785, hx785_0, hx785_1, hx785_2, hl785_2, hi785_2⟩ := at_T58 HR1.out x5_1 p785 q785
        have hw785_2 := hx785_2
        have hw785_1 := hx785_1
        have hw785_0 := hx785_0
        cases e785
        replace hx785_0 := (HB.out.cell (World.block_lt_of_cell? w _ hx785_0)).trans hx785_0
        replace hx785_1 := (HB.out.cell (World.block_lt_of_cell? w _ hx785_1)).trans hx785_1
        replace hx785_2 := (HB.out.cell (World.block_lt_of_cell? w _ hx785_2)).trans hx785_2
        have HR785_2 := Aside0.mk hi785_2
        have HC785_2 := Aside0.mk hl785_2
        clear hi785_2 hl785_2
        replace p785 := eq_true p785
        replace q785 := eq_true q785
        refine start_ (n := 10) (S := fun w' => w'.cell? (ad784.add ((x5_1).toNat * 3)) = some (.string ((rd_T58 l0 x5_1).f0)) ∧ w'.cell? ⟨(ad784.add ((x5_1).toNat * 3)).block, (ad784.add ((x5_1).toNat * 3)).off + 1, none⟩ = some (.int .i64 ((rd_T58 l0 x5_1).f1)) ∧ w'.cell? ⟨(ad784.add ((x5_1).toNat * 3)).block, (ad784.add ((x5_1).toNat * 3)).off + 2, none⟩ = some (.slice A784_2 ((rd_T58 l0 x5_1).f2).length c784_2) ∧ w'.cell? (ad785.add ((x5_1).toNat * 3)) = some (.string ((rd_T58 l1 x5_1).f0)) ∧ w'.cell? ⟨(ad785.add ((x5_1).toNat * 3)).block, (ad785.add ((x5_1).toNat * 3)).off + 1, none⟩ = some (.int .i64 ((rd_T58 l1 x5_1).f1)) ∧ w'.cell? ⟨(ad785.add ((x5_1).toNat * 3)).block, (ad785.add ((x5_1).toNat * 3)).off + 2, none⟩ = some (.slice A785_2 ((rd_T58 l1 x5_1).f2).length c785_2)) (ds := []) #[false, false, false, false, false, false, false, false, false, false] (by kernel_rfl) rfl rfl ⟨((HB.out.cell (World.block_lt_of_cell? w _ hw784_0)).trans hw784_0), ((HB.out.cell (World.block_lt_of_cell? w _ hw784_1)).trans hw784_1), ((HB.out.cell (World.block_lt_of_cell? w _ hw784_2)).trans hw784_2), ((HB.out.cell (World.block_lt_of_cell? w _ hw785_0)).trans hw785_0), ((HB.out.cell (World.block_lt_of_cell? w _ hw785_1)).trans hw785_1), ((HB.out.cell (World.block_lt_of_cell? w _ hw785_2)).trans hw785_2)⟩ (fun hHeld => ?_); refine with_tabW becketref04_SameAll.tab6 becketref04_SameAll.bits6 (fun HT_ HW_ => ?_)
        generalize wr.drew = w11 at HB HR784_2 HR785_2 hx784_0 hx784_1 hx784_2 hx785_0 hx785_1 hx785_2 hHeld ⊢
        refine pure_ (i := 0) (N := some 17) (v := ?_) (a' := ?_) #[true, false, false, false, false, false, false, false, false, false] rfl rfl (any_of HT_.out (by kernel_rfl)) (fun _ _ _ h => h) (Or.inl ⟨by rfl, ?_⟩) ?_ ?_
        rotate_left
        ·intro w'
         go_simp
         with_reducible rfl
        rotate_left
        ·simp only [Act.put, List.setIfInBounds_toArray, List.set_cons_zero, List.set_cons_succ, i64_w, i32_w]
         rfl
        refine pure_ (i := 1) (N := some 18) (v := ?_) (a' := ?_) #[true, true, false, false, false, false, false, false, false, false] rfl rfl (any_of HT_.out (by kernel_rfl)) (fun _ _ _ h => h) (Or.inl ⟨by rfl, ?_⟩) ?_ ?_
        rotate_left
        ·intro w'
         go_simp
         with_reducible rfl
        rotate_left
        ·simp only [Act.put, List.setIfInBounds_toArray, List.set_cons_zero, List.set_cons_succ, i64_w, i32_w]
         rfl
        refine pure_ (i := 2) (N := some 19) (v := ?_) (a' := ?_) #[true, true, true, false, false, false, false, false, false, false] rfl rfl (any_of HT_.out (by kernel_rfl)) (fun _ _ _ h => h) (Or.inl ⟨by rfl, ?_⟩) ?_ ?_
        rotate_left
        ·intro w'
         go_simp
         with_reducible rfl
        rotate_left
        ·simp only [Act.put, List.setIfInBounds_toArray, List.set_cons_zero, List.set_cons_succ, i64_w, i32_w]
         rfl
        refine pure_ (i := 4) (N := some 21) (v := ?_) (a' := ?_) #[true, true, true, false, true, false, false, false, false, false] rfl rfl (any_of HT_.out (by kernel_rfl)) (fun _ _ _ h => h) (Or.inl ⟨by rfl, ?_⟩) ?_ ?_
        rotate_left
        ·intro w'
         go_simp
         with_reducible rfl
        rotate_left
        ·simp only [Act.put, List.setIfInBounds_toArray, List.set_cons_zero, List.set_cons_succ, i64_w, i32_w]
         rfl
        refine pure_ (i := 5) (N := some 22) (v := ?_) (a' := ?_) #[true, true, true, false, true, true, false, false, false, false] rfl rfl (any_of HT_.out (by kernel_rfl)) (fun _ _ _ h => h) (Or.inl ⟨by rfl, ?_⟩) ?_ ?_
        rotate_left
        ·intro w'
         go_simp
         with_reducible rfl
        rotate_left
        ·simp only [Act.put, List.setIfInBounds_toArray, List.set_cons_zero, List.set_cons_succ, i64_w, i32_w]
         rfl
        refine pure_ (i := 6) (N := some 23) (v := ?_) (a' := ?_) #[true, true, true, false, true, true, true, false, false, false] rfl rfl (any_of HT_.out (by kernel_rfl)) (fun _ _ _ h => h) (Or.inl ⟨by rfl, ?_⟩) ?_ ?_
        rotate_left
        ·intro w'
         go_simp
         with_reducible rfl
        rotate_left
        ·simp only [Act.put, List.setIfInBounds_toArray, List.set_cons_zero, List.set_cons_succ, i64_w, i32_w]
         rfl
        refine take_ (i := 3) (N := some 20) (v := ?_) (a' := ?_) #[true, true, true, true, true, true, true, false, false, false] rfl rfl (take_ofW HT_.out HW_.out (by kernel_rfl)) (fun _ _ _ h => h) (Or.inl ⟨by rfl, ?_⟩) hHeld ?_ ?_
        rotate_left
        ·rintro w' ⟨s0, s1, s2, s3, s4, s5⟩
         go_simp
         with_reducible rfl
        rotate_left
        ·simp only [Act.put, List.setIfInBounds_toArray, List.set_cons_zero, List.set_cons_succ, i64_w, i32_w]
         rfl
        refine take_ (i := 7) (N := some 24) (v := ?_) (a' := ?_) #[true, true, true, true, true, true, true, true, false, false] rfl rfl (take_ofW HT_.out HW_.out (by kernel_rfl)) (fun _ _ _ h => h) (Or.inl ⟨by rfl, ?_⟩) hHeld ?_ ?_
        rotate_left
        ·rintro w' ⟨s0, s1, s2, s3, s4, s5⟩
         go_simp
         with_reducible rfl
        rotate_left
        ·simp only [Act.put, List.setIfInBounds_toArray, List.set_cons_zero, List.set_cons_succ, i64_w, i32_w]
         rfl
        refine one_ (i := 8) (N := some 25) #[true, true, true, true, true, true, true, true, true, false] rfl rfl (one_of HT_.out (by kernel_rfl)) (by decide) (fun K hK => ?_)
        refine goes_ Try.func81 (by kernel_rfl) rfl #[.agg #[.string ((rd_T58 l0 x5_1).f0), .int .i64 ((rd_T58 l0 x5_1).f1), .slice A784_2 ((rd_T58 l0 x5_1).f2).length c784_2], .agg #[.string ((rd_T58 l1 x5_1).f0), .int .i64 ((rd_T58 l1 x5_1).f1), .slice A785_2 ((rd_T58 l1 x5_1).f2).length c785_2]] (by rfl) rfl rfl (by (try simp only [List.map_toArray, List.map_cons, List.map_nil]); first | done | rfl | (simp only [List.length_drop, List.length_take]; rfl)) ?_
        with_reducible refine (becketref04_Same.calls k1 ((rd_T58 l0 x5_1).f0) ((rd_T58 l0 x5_1).f1) _ _ ((rd_T58 l0 x5_1).f2) ((rd_T58 l1 x5_1).f0) ((rd_T58 l1 x5_1).f1) _ _ ((rd_T58 l1 x5_1).f2) false _ ?side1 ?side2 ?side3 ?side4 A7.out).mono ?_
        (case side1 => repeat (first | exact (Kd.C_below HR784_2.out HB.out) | (with_reducible refine Kd.C_alloc ?_ _) | (with_reducible refine Kd.C_drewN ?_ _) | (with_reducible refine Kd.C_drew ?_)))
        (case side2 => exact HC784_2.out)
        (case side3 => repeat (first | exact (Kd.C_below HR785_2.out HB.out) | (with_reducible refine Kd.C_alloc ?_ _) | (with_reducible refine Kd.C_drewN ?_ _) | (with_reducible refine Kd.C_drew ?_)))
        (case side4 => exact HC785_2.out)
        rintro e w12 ⟨rfl, hb⟩
        refine ⟨_, rfl, ?_⟩
        have n0_ := Aside0.mk (below_step (HB.out) hb)
        clear HB
        have HB := n0_
        clear n0_
        (try clear hb)
        (try clear hb2)
        (try clear hk)
        (try clear hi)
        refine hK.out _ _ ⟨((HB.out.cell (World.block_lt_of_cell? w _ hw784_0)).trans hw784_0), ((HB.out.cell (World.block_lt_of_cell? w _ hw784_1)).trans hw784_1), ((HB.out.cell (World.block_lt_of_cell? w _ hw784_2)).trans hw784_2), ((HB.out.cell (World.block_lt_of_cell? w _ hw785_0)).trans hw785_0), ((HB.out.cell (World.block_lt_of_cell? w _ hw785_1)).trans hw785_1), ((HB.out.cell (World.block_lt_of_cell? w _ hw785_2)).trans hw785_2)⟩ (fun hHeld => ?_)
        clear hK K
        refine norm_ (a' := ?_) ?_ ?_
        rotate_left
        ·show Act.put _ (some 25) _ = _
         simp only [Act.put, List.setIfInBounds_toArray, List.set_cons_zero, List.set_cons_succ, i64_w, i32_w]
         rfl
        refine pure_ (i := 9) (N := some 26) (v := ?_) (a' := ?_) #[true, true, true, true, true, true, true, true, true, true] rfl rfl (any_of HT_.out (by kernel_rfl)) (fun _ _ _ h => h) (Or.inl ⟨by rfl, ?_⟩) ?_ ?_
        rotate_left
        ·intro w'
         go_simp
         with_reducible rfl
        rotate_left
        ·simp only [Act.put, List.setIfInBounds_toArray, List.set_cons_zero, List.set_cons_succ, i64_w, i32_w]
         rfl
        refine done_ (done_of HT_.out (by kernel_rfl)) ?_
        try go_wp2
        go_ret
        exact ⟨by first | rfl | (simp [errW_none, errW_some] <;> rfl) | (simp [*, errW_none, errW_some] <;> rfl), HB.out⟩
      ·rw [if_neg c6] at H
       exact absurd H (by simp)
     ·rw [if_neg c5] at H
      exact absurd H (by simp)
    ·rw [if_neg c4] at H
     have c4b0 : decide (x5_1 < (l0.length : Int)) = false := decide_eq_false c4
     clear c4
     obtain rfl := Option.some.inj H
     go_wp2
     go_ret
     exact ⟨by first | rfl | (simp [errW_none, errW_some] <;> rfl) | (simp [*, errW_none, errW_some] <;> rfl), HB.out⟩
 ·rw [if_neg c3] at H
  have c3b0 : ((l0.length : Int) == (l1.length : Int)) = false := beq_eq_false_iff_ne.mpr c3
  have c3b1 : ((l0.length : Int) != (l1.length : Int)) = true := bne_iff_ne.mpr c3
  have c3b2 : (l0.length == l1.length) = false := by first | simpa using c3 | (simp at c3 ⊢; omega)
  obtain rfl := Option.some.inj H
  go_enter Try.func73, Try.ntmps73
  go_wp2
  go_ret
  exact ⟨by first | rfl | (simp [errW_none, errW_some] <;> rfl) | (simp [*, errW_none, errW_some] <;> rfl), HB.out⟩
def becketref09_Alike.f (k : Nat) (a0_0 : Int) (a0_1 : Int) (l0_2 : List ByteArray) (l0_3 : List ByteArray) (l0_4 : List (S58)) (a1_0 : Int) (a1_1 : Int) (l1_2 : List ByteArray) (l1_3 : List ByteArray) (l1_4 : List (S58)) : Option (Bool) := if a0_0 = a1_0 then (if a0_1 = a1_1 then ((becketref03_Same.f k l0_2 l1_2).bind fun t789 => (if t789 = true then ((becketref03_Same.f k l0_3 l1_3).bind fun t790 => (if t790 = true then ((becketref04_SameAll.f k l0_4 l1_4).bind fun t791 => (some t791)) else (some false))) else (some false))) else (some false)) else (some false)
set_option maxHeartbeats 8000000 in
set_option maxRecDepth 100000 in
theorem becketref09_Alike.calls (k : Nat) (a0_0 : Int) (a0_1 : Int) (A0_2 : Option Addr) (c0_2 : Nat) (l0_2 : List ByteArray) (A0_3 : Option Addr) (c0_3 : Nat) (l0_3 : List ByteArray) (A0_4 : Option Addr) (c0_4 : Nat) (l0_4 : List (S58)) (a1_0 : Int) (a1_1 : Int) (A1_2 : Option Addr) (c1_2 : Nat) (l1_2 : List ByteArray) (A1_3 : Option Addr) (c1_3 : Nat) (l1_3 : List ByteArray) (A1_4 : Option Addr) (c1_4 : Nat) (l1_4 : List (S58)) (r : Bool) (w : World) (hr0_2 : Kd.C Kd.string w A0_2 l0_2.length l0_2) (hc0_2 : l0_2.length ≤ c0_2) (hr0_3 : Kd.C Kd.string w A0_3 l0_3.length l0_3) (hc0_3 : l0_3.length ≤ c0_3) (hr0_4 : Kd.C k58 w A0_4 l0_4.length l0_4) (hc0_4 : l0_4.length ≤ c0_4) (hr1_2 : Kd.C Kd.string w A1_2 l1_2.length l1_2) (hc1_2 : l1_2.length ≤ c1_2) (hr1_3 : Kd.C Kd.string w A1_3 l1_3.length l1_3) (hc1_3 : l1_3.length ≤ c1_3) (hr1_4 : Kd.C k58 w A1_4 l1_4.length l1_4) (hc1_4 : l1_4.length ≤ c1_4) (h : becketref09_Alike.f k a0_0 a0_1 l0_2 l0_3 l0_4 a1_0 a1_1 l1_2 l1_3 l1_4 = some r) :
  Calls Try.prog 56 #[.agg #[.int .i64 a0_0, .int .i64 a0_1, .slice A0_2 l0_2.length c0_2, .slice A0_3 l0_3.length c0_3, .slice A0_4 l0_4.length c0_4], .agg #[.int .i64 a1_0, .int .i64 a1_1, .slice A1_2 l1_2.length c1_2, .slice A1_3 l1_3.length c1_3, .slice A1_4 l1_4.length c1_4]] w fun e w' => e = .returned (.bool r) ∧ Below w.heap.size w w' := by
 have hu48 := Try.underlying48
 have HR0_2 := Aside0.mk hr0_2
 have HC0_2 := Aside0.mk hc0_2
 clear hr0_2 hc0_2
 have HR0_3 := Aside0.mk hr0_3
 have HC0_3 := Aside0.mk hc0_3
 clear hr0_3 hc0_3
 have HR0_4 := Aside0.mk hr0_4
 have HC0_4 := Aside0.mk hc0_4
 clear hr0_4 hc0_4
 have HR1_2 := Aside0.mk hr1_2
 have HC1_2 := Aside0.mk hc1_2
 clear hr1_2 hc1_2
 have HR1_3 := Aside0.mk hr1_3
 have HC1_3 := Aside0.mk hc1_3
 clear hr1_3 hc1_3
 have HR1_4 := Aside0.mk hr1_4
 have HC1_4 := Aside0.mk hc1_4
 clear hr1_4 hc1_4
 have HB := Aside0.mk (Below.refl w.heap.size w)
 have H : (if a0_0 = a1_0 then (if a0_1 = a1_1 then ((becketref03_Same.f k l0_2 l1_2).bind fun t789 => (if t789 = true then ((becketref03_Same.f k l0_3 l1_3).bind fun t790 => (if t790 = true then ((becketref04_SameAll.f k l0_4 l1_4).bind fun t791 => (some t791)) else (some false))) else (some false))) else (some false)) else (some false)) = some r := h
 clear h
 by_cases c3 : a0_0 = a1_0
 ·rw [if_pos c3] at H
  have c3b0 : (a0_0 == a1_0) = true := beq_iff_eq.mpr c3
  have c3b1 : (a0_0 != a1_0) = false := bne_eq_false_iff_eq.mpr c3
  clear c3
  by_cases c4 : a0_1 = a1_1
  ·rw [if_pos c4] at H
   have c4b0 : (a0_1 == a1_1) = true := beq_iff_eq.mpr c4
   have c4b1 : (a0_1 != a1_1) = false := bne_eq_false_iff_eq.mpr c4
   clear c4
   replace H := Option.bind_eq_some_iff.mp H
   obtain ⟨t789, A50, H⟩ := H
   replace H : (if t789 = true then ((becketref03_Same.f k l0_3 l1_3).bind fun t790 => (if t790 = true then ((becketref04_SameAll.f k l0_4 l1_4).bind fun t791 => (some t791)) else (some false))) else (some false)) = some r := H
   have A5 := Aside0.mk A50
   clear A50
   by_cases c6 : t789 = true
   ·subst c6
    have H1 : ((becketref03_Same.f k l0_3 l1_3).bind fun t790 => (if t790 = true then ((becketref04_SameAll.f k l0_4 l1_4).bind fun t791 => (some t791)) else (some false))) = some r := by first | (rw [if_pos rfl] at H; with_reducible exact H) | exact (if_pos rfl).symm.trans H | (simp only [if_true, eq_self_iff_true] at H ⊢; exact H)
    clear H
    have H := H1
    clear H1
    replace H := Option.bind_eq_some_iff.mp H
    obtain ⟨t790, A70, H⟩ := H
    replace H : (if t790 = true then ((becketref04_SameAll.f k l0_4 l1_4).bind fun t791 => (some t791)) else (some false)) = some r := H
    have A7 := Aside0.mk A70
    clear A70
    by_cases c8 : t790 = true
    ·subst c8
     have H1 : ((becketref04_SameAll.f k l0_4 l1_4).bind fun t791 => (some t791)) = some r := by first | (rw [if_pos rfl] at H; with_reducible exact H) | exact (if_pos rfl).symm.trans H | (simp only [if_true, eq_self_iff_true] at H ⊢; exact H)
     clear H
     have H := H1
     clear H1
     replace H := Option.bind_eq_some_iff.mp H
     obtain ⟨t791, A90, H⟩ := H
     replace H : (some t791) = some r := H
     have A9 := Aside0.mk A90
     clear A90
     obtain rfl := Option.some.inj H
     go_enter Try.func56, Try.ntmps56
     go_wp2_with (first | ((with_reducible refine gate_dst (N := 2) rfl ?_); refine box_event ?hg (N := 2) ?hd (cs := #[.int .i64 a0_0, .int .i64 a0_1, .slice A0_2 l0_2.length c0_2, .slice A0_3 l0_3.length c0_3, .slice A0_4 l0_4.length c0_4]) (t := 48) ?hr ?_; (case hd => rfl); (case hg => rfl); (case hr => first | (go_simp; done) | (go_simp; rfl)); intro gb787 hg w10 hbox hb; have n0_ := Aside0.mk (below_step (by repeat (first | (with_reducible first | exact HB.out | apply below_alloc | apply pw_below_drewN | apply below_drew1) | exact HB.out)) hb); have n1_ := Aside0.mk (hbox); have n2_ := Aside0.mk ((by rw [hg]; exact (below_size (by repeat (first | (with_reducible first | exact HB.out | apply below_alloc | apply pw_below_drewN | apply below_drew1) | exact HB.out))) : w.heap.size ≤ gb787)); have n3_ := Aside0.mk ((by rw [hg]; exact (below_size (by repeat (first | (with_reducible first | exact HB.out | apply below_alloc | apply pw_below_drewN | apply below_drew1) | exact HB.out))) : w.heap.size ≤ gb787)); clear HB; have HB := n0_; have BK787 := n1_; have GW787 := n2_; have GE787 := n3_; clear n0_ n1_ n2_ n3_; clear hb hbox hg) | ((with_reducible refine gate_dst (N := 3) rfl ?_); refine box_event ?hg (N := 3) ?hd (cs := #[.int .i64 a1_0, .int .i64 a1_1, .slice A1_2 l1_2.length c1_2, .slice A1_3 l1_3.length c1_3, .slice A1_4 l1_4.length c1_4]) (t := 48) ?hr ?_; (case hd => rfl); (case hg => rfl); (case hr => first | (go_simp; done) | (go_simp; rfl)); intro gb788 hg w11 hbox hb; have n0_ := Aside0.mk (blk_below (g := gb787) (o := .cells #[.int .i64 a0_0, .int .i64 a0_1, .slice A0_2 l0_2.length c0_2, .slice A0_3 l0_3.length c0_3, .slice A0_4 l0_4.length c0_4] 48 (0, 0)) (by (with_reducible repeat (first | refine blk_drewN ?_ _ | refine blk_drew ?_ | refine blk_alloc ?_ _)); exact BK787.out) hb); have n1_ := Aside0.mk (below_step (by repeat (first | (with_reducible first | exact HB.out | apply below_alloc | apply pw_below_drewN | apply below_drew1 | refine below_set ?_ GE787.out) | exact HB.out)) hb); have n2_ := Aside0.mk (hbox); have n3_ := Aside0.mk ((by rw [hg]; exact (below_size (by repeat (first | (with_reducible first | exact HB.out | apply below_alloc | apply pw_below_drewN | apply below_drew1 | refine below_set ?_ GE787.out) | exact HB.out))) : w.heap.size ≤ gb788)); have n4_ := Aside0.mk ((by rw [hg]; exact (below_size (by repeat (first | (with_reducible first | exact HB.out | apply below_alloc | apply pw_below_drewN | apply below_drew1 | refine below_set ?_ GE787.out) | exact HB.out))) : w.heap.size ≤ gb788)); have n5_ := Aside0.mk ((by rw [hg]; exact Nat.ne_of_lt (blk_lt (g := gb787) (o := .cells #[.int .i64 a0_0, .int .i64 a0_1, .slice A0_2 l0_2.length c0_2, .slice A0_3 l0_3.length c0_3, .slice A0_4 l0_4.length c0_4] 48 (0, 0)) (by (with_reducible repeat (first | refine blk_drewN ?_ _ | refine blk_drew ?_ | refine blk_alloc ?_ _)); exact BK787.out)) : gb787 ≠ gb788)); have n6_ := Aside0.mk ((by rw [hg]; exact Nat.ne_of_gt (blk_lt (g := gb787) (o := .cells #[.int .i64 a0_0, .int .i64 a0_1, .slice A0_2 l0_2.length c0_2, .slice A0_3 l0_3.length c0_3, .slice A0_4 l0_4.length c0_4] 48 (0, 0)) (by (with_reducible repeat (first | refine blk_drewN ?_ _ | refine blk_drew ?_ | refine blk_alloc ?_ _)); exact BK787.out)) : gb788 ≠ gb787)); clear BK787; clear HB; have BK787 := n0_; have HB := n1_; have BK788 := n2_; have GW788 := n3_; have GE788 := n4_; have NB787_788 := n5_; have NB788_787 := n6_; clear n0_ n1_ n2_ n3_ n4_ n5_ n6_; clear hb hbox hg; have hnb12 := NB787_788.out; have hnc12 := NB788_787.out; have hcz13_0 : w11.cell? ⟨gb787, 0, none⟩ = some (.int .i64 a0_0) := (blk_cell BK787.out 0).trans rfl; have hcz13_1 : w11.cell? ⟨gb787, 1, none⟩ = some (.int .i64 a0_1) := (blk_cell BK787.out 1).trans rfl; have hcz13_2 : w11.cell? ⟨gb787, 2, none⟩ = some (.slice A0_2 l0_2.length c0_2) := (blk_cell BK787.out 2).trans rfl; have hcz13_3 : w11.cell? ⟨gb787, 3, none⟩ = some (.slice A0_3 l0_3.length c0_3) := (blk_cell BK787.out 3).trans rfl; have hcz13_4 : w11.cell? ⟨gb787, 4, none⟩ = some (.slice A0_4 l0_4.length c0_4) := (blk_cell BK787.out 4).trans rfl; have hfz13_0 := blk_frozen BK787.out 0; have hfz13_1 := blk_frozen BK787.out 1; have hfz13_2 := blk_frozen BK787.out 2; have hfz13_3 := blk_frozen BK787.out 3; have hfz13_4 := blk_frozen BK787.out 4; have hcz14_0 : w11.cell? ⟨gb788, 0, none⟩ = some (.int .i64 a1_0) := (blk_cell BK788.out 0).trans rfl; have hcz14_1 : w11.cell? ⟨gb788, 1, none⟩ = some (.int .i64 a1_1) := (blk_cell BK788.out 1).trans rfl; have hcz14_2 : w11.cell? ⟨gb788, 2, none⟩ = some (.slice A1_2 l1_2.length c1_2) := (blk_cell BK788.out 2).trans rfl; have hcz14_3 : w11.cell? ⟨gb788, 3, none⟩ = some (.slice A1_3 l1_3.length c1_3) := (blk_cell BK788.out 3).trans rfl; have hcz14_4 : w11.cell? ⟨gb788, 4, none⟩ = some (.slice A1_4 l1_4.length c1_4) := (blk_cell BK788.out 4).trans rfl; have hfz14_0 := blk_frozen BK788.out 0; have hfz14_1 := blk_frozen BK788.out 1; have hfz14_2 := blk_frozen BK788.out 2; have hfz14_3 := blk_frozen BK788.out 3; have hfz14_4 := blk_frozen BK788.out 4) | (go_at_call 72; (with_reducible refine (becketref03_Same.calls k _ _ l0_2 _ _ l1_2 true _ ?side1 ?side2 ?side3 ?side4 A5.out).mono ?_); (case side1 => repeat (first | exact (Kd.C_below HR0_2.out HB.out) | (with_reducible refine Kd.C_alloc ?_ _) | (with_reducible refine Kd.C_drewN ?_ _) | (with_reducible refine Kd.C_drew ?_))); (case side2 => exact HC0_2.out); (case side3 => repeat (first | exact (Kd.C_below HR1_2.out HB.out) | (with_reducible refine Kd.C_alloc ?_ _) | (with_reducible refine Kd.C_drewN ?_ _) | (with_reducible refine Kd.C_drew ?_))); (case side4 => exact HC1_2.out); rintro e w' ⟨rfl, ⟨nd, rfl⟩⟩) | (go_at_call 72; (with_reducible refine (becketref03_Same.calls k _ _ l0_3 _ _ l1_3 true _ ?side1 ?side2 ?side3 ?side4 A7.out).mono ?_); (case side1 => repeat (first | exact (Kd.C_below HR0_3.out (by repeat (first | (with_reducible first | exact HB.out | apply below_alloc | apply pw_below_drewN | apply below_drew1 | refine below_set ?_ GE787.out | refine below_set ?_ GE788.out) | exact HB.out))) | (with_reducible refine Kd.C_alloc ?_ _) | (with_reducible refine Kd.C_drewN ?_ _) | (with_reducible refine Kd.C_drew ?_))); (case side2 => exact HC0_3.out); (case side3 => repeat (first | exact (Kd.C_below HR1_3.out (by repeat (first | (with_reducible first | exact HB.out | apply below_alloc | apply pw_below_drewN | apply below_drew1 | refine below_set ?_ GE787.out | refine below_set ?_ GE788.out) | exact HB.out))) | (with_reducible refine Kd.C_alloc ?_ _) | (with_reducible refine Kd.C_drewN ?_ _) | (with_reducible refine Kd.C_drew ?_))); (case side4 => exact HC1_3.out); rintro e w' ⟨rfl, ⟨nd, rfl⟩⟩) | (go_at_call 73; (with_reducible refine (becketref04_SameAll.calls k _ _ l0_4 _ _ l1_4 t791 _ ?side1 ?side2 ?side3 ?side4 A9.out).mono ?_); (case side1 => repeat (first | exact (Kd.C_below HR0_4.out (by repeat (first | (with_reducible first | exact HB.out | apply below_alloc | apply pw_below_drewN | apply below_drew1 | refine below_set ?_ GE787.out | refine below_set ?_ GE788.out) | exact HB.out))) | (with_reducible refine Kd.C_alloc ?_ _) | (with_reducible refine Kd.C_drewN ?_ _) | (with_reducible refine Kd.C_drew ?_))); (case side2 => exact HC0_4.out); (case side3 => repeat (first | exact (Kd.C_below HR1_4.out (by repeat (first | (with_reducible first | exact HB.out | apply below_alloc | apply pw_below_drewN | apply below_drew1 | refine below_set ?_ GE787.out | refine below_set ?_ GE788.out) | exact HB.out))) | (with_reducible refine Kd.C_alloc ?_ _) | (with_reducible refine Kd.C_drewN ?_ _) | (with_reducible refine Kd.C_drew ?_))); (case side4 => exact HC1_4.out); rintro e w15 ⟨rfl, hb⟩; have n0_ := Aside0.mk (blk_below (g := gb787) (o := .cells #[.int .i64 a0_0, .int .i64 a0_1, .slice A0_2 l0_2.length c0_2, .slice A0_3 l0_3.length c0_3, .slice A0_4 l0_4.length c0_4] 48 (0, 0)) (by (with_reducible repeat (first | refine blk_drewN ?_ _ | refine blk_drew ?_ | refine blk_alloc ?_ _)); exact BK787.out) hb); have n1_ := Aside0.mk (blk_below (g := gb788) (o := .cells #[.int .i64 a1_0, .int .i64 a1_1, .slice A1_2 l1_2.length c1_2, .slice A1_3 l1_3.length c1_3, .slice A1_4 l1_4.length c1_4] 48 (0, 0)) (by (with_reducible repeat (first | refine blk_drewN ?_ _ | refine blk_drew ?_ | refine blk_alloc ?_ _)); exact BK788.out) hb); have n2_ := Aside0.mk (below_step (by repeat (first | (with_reducible first | exact HB.out | apply below_alloc | apply pw_below_drewN | apply below_drew1 | refine below_set ?_ GE787.out | refine below_set ?_ GE788.out) | exact HB.out)) hb); clear BK787; clear BK788; clear HB; have BK787 := n0_; have BK788 := n1_; have HB := n2_; clear n0_ n1_ n2_; (try clear hb); (try clear hb2); (try clear hk); (try clear hi)))
     go_ret
     exact ⟨by first | rfl | (simp [errW_none, errW_some] <;> rfl) | (simp [*, errW_none, errW_some] <;> rfl), HB.out⟩
    ·replace c8 := Bool.eq_false_iff.mpr c8
     subst c8
     have H1 : (some false) = some r := by rw [if_neg (show ¬ (false = true) by decide)] at H; exact H
     clear H
     have H := H1
     clear H1
     obtain rfl := Option.some.inj H
     go_enter Try.func56, Try.ntmps56
     go_wp2_with (first | ((with_reducible refine gate_dst (N := 2) rfl ?_); refine box_event ?hg (N := 2) ?hd (cs := #[.int .i64 a0_0, .int .i64 a0_1, .slice A0_2 l0_2.length c0_2, .slice A0_3 l0_3.length c0_3, .slice A0_4 l0_4.length c0_4]) (t := 48) ?hr ?_; (case hd => rfl); (case hg => rfl); (case hr => first | (go_simp; done) | (go_simp; rfl)); intro gb787 hg w16 hbox hb; have n0_ := Aside0.mk (below_step (HB.out) hb); have n1_ := Aside0.mk (hbox); have n2_ := Aside0.mk ((by rw [hg]; exact (below_size (HB.out)) : w.heap.size ≤ gb787)); have n3_ := Aside0.mk ((by rw [hg]; exact (below_size (HB.out)) : w.heap.size ≤ gb787)); clear HB; have HB := n0_; have BK787 := n1_; have GW787 := n2_; have GE787 := n3_; clear n0_ n1_ n2_ n3_; clear hb hbox hg) | ((with_reducible refine gate_dst (N := 3) rfl ?_); refine box_event ?hg (N := 3) ?hd (cs := #[.int .i64 a1_0, .int .i64 a1_1, .slice A1_2 l1_2.length c1_2, .slice A1_3 l1_3.length c1_3, .slice A1_4 l1_4.length c1_4]) (t := 48) ?hr ?_; (case hd => rfl); (case hg => rfl); (case hr => first | (go_simp; done) | (go_simp; rfl)); intro gb788 hg w17 hbox hb; have n0_ := Aside0.mk (blk_below (g := gb787) (o := .cells #[.int .i64 a0_0, .int .i64 a0_1, .slice A0_2 l0_2.length c0_2, .slice A0_3 l0_3.length c0_3, .slice A0_4 l0_4.length c0_4] 48 (0, 0)) (BK787.out) hb); have n1_ := Aside0.mk (below_step (HB.out) hb); have n2_ := Aside0.mk (hbox); have n3_ := Aside0.mk ((by rw [hg]; exact (below_size (HB.out)) : w.heap.size ≤ gb788)); have n4_ := Aside0.mk ((by rw [hg]; exact (below_size (HB.out)) : w.heap.size ≤ gb788)); have n5_ := Aside0.mk ((by rw [hg]; exact Nat.ne_of_lt (blk_lt (g := gb787) (o := .cells #[.int .i64 a0_0, .int .i64 a0_1, .slice A0_2 l0_2.length c0_2, .slice A0_3 l0_3.length c0_3, .slice A0_4 l0_4.length c0_4] 48 (0, 0)) (BK787.out)) : gb787 ≠ gb788)); have n6_ := Aside0.mk ((by rw [hg]; exact Nat.ne_of_gt (blk_lt (g := gb787) (o := .cells #[.int .i64 a0_0, .int .i64 a0_1, .slice A0_2 l0_2.length c0_2, .slice A0_3 l0_3.length c0_3, .slice A0_4 l0_4.length c0_4] 48 (0, 0)) (BK787.out)) : gb788 ≠ gb787)); clear BK787; clear HB; have BK787 := n0_; have HB := n1_; have BK788 := n2_; have GW788 := n3_; have GE788 := n4_; have NB787_788 := n5_; have NB788_787 := n6_; clear n0_ n1_ n2_ n3_ n4_ n5_ n6_; clear hb hbox hg; have hnb18 := NB787_788.out; have hnc18 := NB788_787.out; have hcz19_0 : w17.cell? ⟨gb787, 0, none⟩ = some (.int .i64 a0_0) := (blk_cell BK787.out 0).trans rfl; have hcz19_1 : w17.cell? ⟨gb787, 1, none⟩ = some (.int .i64 a0_1) := (blk_cell BK787.out 1).trans rfl; have hcz19_2 : w17.cell? ⟨gb787, 2, none⟩ = some (.slice A0_2 l0_2.length c0_2) := (blk_cell BK787.out 2).trans rfl; have hcz19_3 : w17.cell? ⟨gb787, 3, none⟩ = some (.slice A0_3 l0_3.length c0_3) := (blk_cell BK787.out 3).trans rfl; have hcz19_4 : w17.cell? ⟨gb787, 4, none⟩ = some (.slice A0_4 l0_4.length c0_4) := (blk_cell BK787.out 4).trans rfl; have hfz19_0 := blk_frozen BK787.out 0; have hfz19_1 := blk_frozen BK787.out 1; have hfz19_2 := blk_frozen BK787.out 2; have hfz19_3 := blk_frozen BK787.out 3; have hfz19_4 := blk_frozen BK787.out 4; have hcz20_0 : w17.cell? ⟨gb788, 0, none⟩ = some (.int .i64 a1_0) := (blk_cell BK788.out 0).trans rfl; have hcz20_1 : w17.cell? ⟨gb788, 1, none⟩ = some (.int .i64 a1_1) := (blk_cell BK788.out 1).trans rfl; have hcz20_2 : w17.cell? ⟨gb788, 2, none⟩ = some (.slice A1_2 l1_2.length c1_2) := (blk_cell BK788.out 2).trans rfl; have hcz20_3 : w17.cell? ⟨gb788, 3, none⟩ = some (.slice A1_3 l1_3.length c1_3) := (blk_cell BK788.out 3).trans rfl; have hcz20_4 : w17.cell? ⟨gb788, 4, none⟩ = some (.slice A1_4 l1_4.length c1_4) := (blk_cell BK788.out 4).trans rfl; have hfz20_0 := blk_frozen BK788.out 0; have hfz20_1 := blk_frozen BK788.out 1; have hfz20_2 := blk_frozen BK788.out 2; have hfz20_3 := blk_frozen BK788.out 3; have hfz20_4 := blk_frozen BK788.out 4) | (go_at_call 72; (with_reducible refine (becketref03_Same.calls k _ _ l0_2 _ _ l1_2 true _ ?side1 ?side2 ?side3 ?side4 A5.out).mono ?_); (case side1 => repeat (first | exact (Kd.C_below HR0_2.out HB.out) | (with_reducible refine Kd.C_alloc ?_ _) | (with_reducible refine Kd.C_drewN ?_ _) | (with_reducible refine Kd.C_drew ?_))); (case side2 => exact HC0_2.out); (case side3 => repeat (first | exact (Kd.C_below HR1_2.out HB.out) | (with_reducible refine Kd.C_alloc ?_ _) | (with_reducible refine Kd.C_drewN ?_ _) | (with_reducible refine Kd.C_drew ?_))); (case side4 => exact HC1_2.out); rintro e w' ⟨rfl, ⟨nd, rfl⟩⟩) | (go_at_call 72; (with_reducible refine (becketref03_Same.calls k _ _ l0_3 _ _ l1_3 false _ ?side1 ?side2 ?side3 ?side4 A7.out).mono ?_); (case side1 => repeat (first | exact (Kd.C_below HR0_3.out (HB.out)) | (with_reducible refine Kd.C_alloc ?_ _) | (with_reducible refine Kd.C_drewN ?_ _) | (with_reducible refine Kd.C_drew ?_))); (case side2 => exact HC0_3.out); (case side3 => repeat (first | exact (Kd.C_below HR1_3.out (HB.out)) | (with_reducible refine Kd.C_alloc ?_ _) | (with_reducible refine Kd.C_drewN ?_ _) | (with_reducible refine Kd.C_drew ?_))); (case side4 => exact HC1_3.out); rintro e w' ⟨rfl, ⟨nd, rfl⟩⟩))
     go_ret
     exact ⟨by first | rfl | (simp [errW_none, errW_some] <;> rfl) | (simp [*, errW_none, errW_some] <;> rfl), by repeat (first | (with_reducible first | exact HB.out | apply below_alloc | apply pw_below_drewN | apply below_drew1 | refine below_set ?_ GE787.out | refine below_set ?_ GE788.out) | exact HB.out)⟩
   ·replace c6 := Bool.eq_false_iff.mpr c6
    subst c6
    have H1 : (some false) = some r := by rw [if_neg (show ¬ (false = true) by decide)] at H; exact H
    clear H
    have H := H1
    clear H1
    obtain rfl := Option.some.inj H
    go_enter Try.func56, Try.ntmps56
    go_wp2_with (first | ((with_reducible refine gate_dst (N := 2) rfl ?_); refine box_event ?hg (N := 2) ?hd (cs := #[.int .i64 a0_0, .int .i64 a0_1, .slice A0_2 l0_2.length c0_2, .slice A0_3 l0_3.length c0_3, .slice A0_4 l0_4.length c0_4]) (t := 48) ?hr ?_; (case hd => rfl); (case hg => rfl); (case hr => first | (go_simp; done) | (go_simp; rfl)); intro gb787 hg w21 hbox hb; have n0_ := Aside0.mk (below_step (HB.out) hb); have n1_ := Aside0.mk (hbox); have n2_ := Aside0.mk ((by rw [hg]; exact (below_size (HB.out)) : w.heap.size ≤ gb787)); have n3_ := Aside0.mk ((by rw [hg]; exact (below_size (HB.out)) : w.heap.size ≤ gb787)); clear HB; have HB := n0_; have BK787 := n1_; have GW787 := n2_; have GE787 := n3_; clear n0_ n1_ n2_ n3_; clear hb hbox hg) | ((with_reducible refine gate_dst (N := 3) rfl ?_); refine box_event ?hg (N := 3) ?hd (cs := #[.int .i64 a1_0, .int .i64 a1_1, .slice A1_2 l1_2.length c1_2, .slice A1_3 l1_3.length c1_3, .slice A1_4 l1_4.length c1_4]) (t := 48) ?hr ?_; (case hd => rfl); (case hg => rfl); (case hr => first | (go_simp; done) | (go_simp; rfl)); intro gb788 hg w22 hbox hb; have n0_ := Aside0.mk (blk_below (g := gb787) (o := .cells #[.int .i64 a0_0, .int .i64 a0_1, .slice A0_2 l0_2.length c0_2, .slice A0_3 l0_3.length c0_3, .slice A0_4 l0_4.length c0_4] 48 (0, 0)) (BK787.out) hb); have n1_ := Aside0.mk (below_step (HB.out) hb); have n2_ := Aside0.mk (hbox); have n3_ := Aside0.mk ((by rw [hg]; exact (below_size (HB.out)) : w.heap.size ≤ gb788)); have n4_ := Aside0.mk ((by rw [hg]; exact (below_size (HB.out)) : w.heap.size ≤ gb788)); have n5_ := Aside0.mk ((by rw [hg]; exact Nat.ne_of_lt (blk_lt (g := gb787) (o := .cells #[.int .i64 a0_0, .int .i64 a0_1, .slice A0_2 l0_2.length c0_2, .slice A0_3 l0_3.length c0_3, .slice A0_4 l0_4.length c0_4] 48 (0, 0)) (BK787.out)) : gb787 ≠ gb788)); have n6_ := Aside0.mk ((by rw [hg]; exact Nat.ne_of_gt (blk_lt (g := gb787) (o := .cells #[.int .i64 a0_0, .int .i64 a0_1, .slice A0_2 l0_2.length c0_2, .slice A0_3 l0_3.length c0_3, .slice A0_4 l0_4.length c0_4] 48 (0, 0)) (BK787.out)) : gb788 ≠ gb787)); clear BK787; clear HB; have BK787 := n0_; have HB := n1_; have BK788 := n2_; have GW788 := n3_; have GE788 := n4_; have NB787_788 := n5_; have NB788_787 := n6_; clear n0_ n1_ n2_ n3_ n4_ n5_ n6_; clear hb hbox hg; have hnb23 := NB787_788.out; have hnc23 := NB788_787.out; have hcz24_0 : w22.cell? ⟨gb787, 0, none⟩ = some (.int .i64 a0_0) := (blk_cell BK787.out 0).trans rfl; have hcz24_1 : w22.cell? ⟨gb787, 1, none⟩ = some (.int .i64 a0_1) := (blk_cell BK787.out 1).trans rfl; have hcz24_2 : w22.cell? ⟨gb787, 2, none⟩ = some (.slice A0_2 l0_2.length c0_2) := (blk_cell BK787.out 2).trans rfl; have hcz24_3 : w22.cell? ⟨gb787, 3, none⟩ = some (.slice A0_3 l0_3.length c0_3) := (blk_cell BK787.out 3).trans rfl; have hcz24_4 : w22.cell? ⟨gb787, 4, none⟩ = some (.slice A0_4 l0_4.length c0_4) := (blk_cell BK787.out 4).trans rfl; have hfz24_0 := blk_frozen BK787.out 0; have hfz24_1 := blk_frozen BK787.out 1; have hfz24_2 := blk_frozen BK787.out 2; have hfz24_3 := blk_frozen BK787.out 3; have hfz24_4 := blk_frozen BK787.out 4; have hcz25_0 : w22.cell? ⟨gb788, 0, none⟩ = some (.int .i64 a1_0) := (blk_cell BK788.out 0).trans rfl; have hcz25_1 : w22.cell? ⟨gb788, 1, none⟩ = some (.int .i64 a1_1) := (blk_cell BK788.out 1).trans rfl; have hcz25_2 : w22.cell? ⟨gb788, 2, none⟩ = some (.slice A1_2 l1_2.length c1_2) := (blk_cell BK788.out 2).trans rfl; have hcz25_3 : w22.cell? ⟨gb788, 3, none⟩ = some (.slice A1_3 l1_3.length c1_3) := (blk_cell BK788.out 3).trans rfl; have hcz25_4 : w22.cell? ⟨gb788, 4, none⟩ = some (.slice A1_4 l1_4.length c1_4) := (blk_cell BK788.out 4).trans rfl; have hfz25_0 := blk_frozen BK788.out 0; have hfz25_1 := blk_frozen BK788.out 1; have hfz25_2 := blk_frozen BK788.out 2; have hfz25_3 := blk_frozen BK788.out 3; have hfz25_4 := blk_frozen BK788.out 4) | (go_at_call 72; (with_reducible refine (becketref03_Same.calls k _ _ l0_2 _ _ l1_2 false _ ?side1 ?side2 ?side3 ?side4 A5.out).mono ?_); (case side1 => repeat (first | exact (Kd.C_below HR0_2.out HB.out) | (with_reducible refine Kd.C_alloc ?_ _) | (with_reducible refine Kd.C_drewN ?_ _) | (with_reducible refine Kd.C_drew ?_))); (case side2 => exact HC0_2.out); (case side3 => repeat (first | exact (Kd.C_below HR1_2.out HB.out) | (with_reducible refine Kd.C_alloc ?_ _) | (with_reducible refine Kd.C_drewN ?_ _) | (with_reducible refine Kd.C_drew ?_))); (case side4 => exact HC1_2.out); rintro e w' ⟨rfl, ⟨nd, rfl⟩⟩))
    go_ret
    exact ⟨by first | rfl | (simp [errW_none, errW_some] <;> rfl) | (simp [*, errW_none, errW_some] <;> rfl), by repeat (first | (with_reducible first | exact HB.out | apply below_alloc | apply pw_below_drewN | apply below_drew1 | refine below_set ?_ GE787.out | refine below_set ?_ GE788.out) | exact HB.out)⟩
  ·rw [if_neg c4] at H
   have c4b0 : (a0_1 == a1_1) = false := beq_eq_false_iff_ne.mpr c4
   have c4b1 : (a0_1 != a1_1) = true := bne_iff_ne.mpr c4
   obtain rfl := Option.some.inj H
   go_enter Try.func56, Try.ntmps56
   go_wp2_with (first | ((with_reducible refine gate_dst (N := 2) rfl ?_); refine box_event ?hg (N := 2) ?hd (cs := #[.int .i64 a0_0, .int .i64 a0_1, .slice A0_2 l0_2.length c0_2, .slice A0_3 l0_3.length c0_3, .slice A0_4 l0_4.length c0_4]) (t := 48) ?hr ?_; (case hd => rfl); (case hg => rfl); (case hr => first | (go_simp; done) | (go_simp; rfl)); intro gb787 hg w26 hbox hb; have n0_ := Aside0.mk (below_step (HB.out) hb); have n1_ := Aside0.mk (hbox); have n2_ := Aside0.mk ((by rw [hg]; exact (below_size (HB.out)) : w.heap.size ≤ gb787)); have n3_ := Aside0.mk ((by rw [hg]; exact (below_size (HB.out)) : w.heap.size ≤ gb787)); clear HB; have HB := n0_; have BK787 := n1_; have GW787 := n2_; have GE787 := n3_; clear n0_ n1_ n2_ n3_; clear hb hbox hg) | ((with_reducible refine gate_dst (N := 3) rfl ?_); refine box_event ?hg (N := 3) ?hd (cs := #[.int .i64 a1_0, .int .i64 a1_1, .slice A1_2 l1_2.length c1_2, .slice A1_3 l1_3.length c1_3, .slice A1_4 l1_4.length c1_4]) (t := 48) ?hr ?_; (case hd => rfl); (case hg => rfl); (case hr => first | (go_simp; done) | (go_simp; rfl)); intro gb788 hg w27 hbox hb; have n0_ := Aside0.mk (blk_below (g := gb787) (o := .cells #[.int .i64 a0_0, .int .i64 a0_1, .slice A0_2 l0_2.length c0_2, .slice A0_3 l0_3.length c0_3, .slice A0_4 l0_4.length c0_4] 48 (0, 0)) (BK787.out) hb); have n1_ := Aside0.mk (below_step (HB.out) hb); have n2_ := Aside0.mk (hbox); have n3_ := Aside0.mk ((by rw [hg]; exact (below_size (HB.out)) : w.heap.size ≤ gb788)); have n4_ := Aside0.mk ((by rw [hg]; exact (below_size (HB.out)) : w.heap.size ≤ gb788)); have n5_ := Aside0.mk ((by rw [hg]; exact Nat.ne_of_lt (blk_lt (g := gb787) (o := .cells #[.int .i64 a0_0, .int .i64 a0_1, .slice A0_2 l0_2.length c0_2, .slice A0_3 l0_3.length c0_3, .slice A0_4 l0_4.length c0_4] 48 (0, 0)) (BK787.out)) : gb787 ≠ gb788)); have n6_ := Aside0.mk ((by rw [hg]; exact Nat.ne_of_gt (blk_lt (g := gb787) (o := .cells #[.int .i64 a0_0, .int .i64 a0_1, .slice A0_2 l0_2.length c0_2, .slice A0_3 l0_3.length c0_3, .slice A0_4 l0_4.length c0_4] 48 (0, 0)) (BK787.out)) : gb788 ≠ gb787)); clear BK787; clear HB; have BK787 := n0_; have HB := n1_; have BK788 := n2_; have GW788 := n3_; have GE788 := n4_; have NB787_788 := n5_; have NB788_787 := n6_; clear n0_ n1_ n2_ n3_ n4_ n5_ n6_; clear hb hbox hg; have hnb28 := NB787_788.out; have hnc28 := NB788_787.out; have hcz29_0 : w27.cell? ⟨gb787, 0, none⟩ = some (.int .i64 a0_0) := (blk_cell BK787.out 0).trans rfl; have hcz29_1 : w27.cell? ⟨gb787, 1, none⟩ = some (.int .i64 a0_1) := (blk_cell BK787.out 1).trans rfl; have hcz29_2 : w27.cell? ⟨gb787, 2, none⟩ = some (.slice A0_2 l0_2.length c0_2) := (blk_cell BK787.out 2).trans rfl; have hcz29_3 : w27.cell? ⟨gb787, 3, none⟩ = some (.slice A0_3 l0_3.length c0_3) := (blk_cell BK787.out 3).trans rfl; have hcz29_4 : w27.cell? ⟨gb787, 4, none⟩ = some (.slice A0_4 l0_4.length c0_4) := (blk_cell BK787.out 4).trans rfl; have hfz29_0 := blk_frozen BK787.out 0; have hfz29_1 := blk_frozen BK787.out 1; have hfz29_2 := blk_frozen BK787.out 2; have hfz29_3 := blk_frozen BK787.out 3; have hfz29_4 := blk_frozen BK787.out 4; have hcz30_0 : w27.cell? ⟨gb788, 0, none⟩ = some (.int .i64 a1_0) := (blk_cell BK788.out 0).trans rfl; have hcz30_1 : w27.cell? ⟨gb788, 1, none⟩ = some (.int .i64 a1_1) := (blk_cell BK788.out 1).trans rfl; have hcz30_2 : w27.cell? ⟨gb788, 2, none⟩ = some (.slice A1_2 l1_2.length c1_2) := (blk_cell BK788.out 2).trans rfl; have hcz30_3 : w27.cell? ⟨gb788, 3, none⟩ = some (.slice A1_3 l1_3.length c1_3) := (blk_cell BK788.out 3).trans rfl; have hcz30_4 : w27.cell? ⟨gb788, 4, none⟩ = some (.slice A1_4 l1_4.length c1_4) := (blk_cell BK788.out 4).trans rfl; have hfz30_0 := blk_frozen BK788.out 0; have hfz30_1 := blk_frozen BK788.out 1; have hfz30_2 := blk_frozen BK788.out 2; have hfz30_3 := blk_frozen BK788.out 3; have hfz30_4 := blk_frozen BK788.out 4))
   go_ret
   exact ⟨by first | rfl | (simp [errW_none, errW_some] <;> rfl) | (simp [*, errW_none, errW_some] <;> rfl), HB.out⟩
 ·rw [if_neg c3] at H
  have c3b0 : (a0_0 == a1_0) = false := beq_eq_false_iff_ne.mpr c3
  have c3b1 : (a0_0 != a1_0) = true := bne_iff_ne.mpr c3
  obtain rfl := Option.some.inj H
  go_enter Try.func56, Try.ntmps56
  go_wp2_with (first | ((with_reducible refine gate_dst (N := 2) rfl ?_); refine box_event ?hg (N := 2) ?hd (cs := #[.int .i64 a0_0, .int .i64 a0_1, .slice A0_2 l0_2.length c0_2, .slice A0_3 l0_3.length c0_3, .slice A0_4 l0_4.length c0_4]) (t := 48) ?hr ?_; (case hd => rfl); (case hg => rfl); (case hr => first | (go_simp; done) | (go_simp; rfl)); intro gb787 hg w31 hbox hb; have n0_ := Aside0.mk (below_step (HB.out) hb); have n1_ := Aside0.mk (hbox); have n2_ := Aside0.mk ((by rw [hg]; exact (below_size (HB.out)) : w.heap.size ≤ gb787)); have n3_ := Aside0.mk ((by rw [hg]; exact (below_size (HB.out)) : w.heap.size ≤ gb787)); clear HB; have HB := n0_; have BK787 := n1_; have GW787 := n2_; have GE787 := n3_; clear n0_ n1_ n2_ n3_; clear hb hbox hg) | ((with_reducible refine gate_dst (N := 3) rfl ?_); refine box_event ?hg (N := 3) ?hd (cs := #[.int .i64 a1_0, .int .i64 a1_1, .slice A1_2 l1_2.length c1_2, .slice A1_3 l1_3.length c1_3, .slice A1_4 l1_4.length c1_4]) (t := 48) ?hr ?_; (case hd => rfl); (case hg => rfl); (case hr => first | (go_simp; done) | (go_simp; rfl)); intro gb788 hg w32 hbox hb; have n0_ := Aside0.mk (blk_below (g := gb787) (o := .cells #[.int .i64 a0_0, .int .i64 a0_1, .slice A0_2 l0_2.length c0_2, .slice A0_3 l0_3.length c0_3, .slice A0_4 l0_4.length c0_4] 48 (0, 0)) (BK787.out) hb); have n1_ := Aside0.mk (below_step (HB.out) hb); have n2_ := Aside0.mk (hbox); have n3_ := Aside0.mk ((by rw [hg]; exact (below_size (HB.out)) : w.heap.size ≤ gb788)); have n4_ := Aside0.mk ((by rw [hg]; exact (below_size (HB.out)) : w.heap.size ≤ gb788)); have n5_ := Aside0.mk ((by rw [hg]; exact Nat.ne_of_lt (blk_lt (g := gb787) (o := .cells #[.int .i64 a0_0, .int .i64 a0_1, .slice A0_2 l0_2.length c0_2, .slice A0_3 l0_3.length c0_3, .slice A0_4 l0_4.length c0_4] 48 (0, 0)) (BK787.out)) : gb787 ≠ gb788)); have n6_ := Aside0.mk ((by rw [hg]; exact Nat.ne_of_gt (blk_lt (g := gb787) (o := .cells #[.int .i64 a0_0, .int .i64 a0_1, .slice A0_2 l0_2.length c0_2, .slice A0_3 l0_3.length c0_3, .slice A0_4 l0_4.length c0_4] 48 (0, 0)) (BK787.out)) : gb788 ≠ gb787)); clear BK787; clear HB; have BK787 := n0_; have HB := n1_; have BK788 := n2_; have GW788 := n3_; have GE788 := n4_; have NB787_788 := n5_; have NB788_787 := n6_; clear n0_ n1_ n2_ n3_ n4_ n5_ n6_; clear hb hbox hg; have hnb33 := NB787_788.out; have hnc33 := NB788_787.out; have hcz34_0 : w32.cell? ⟨gb787, 0, none⟩ = some (.int .i64 a0_0) := (blk_cell BK787.out 0).trans rfl; have hcz34_1 : w32.cell? ⟨gb787, 1, none⟩ = some (.int .i64 a0_1) := (blk_cell BK787.out 1).trans rfl; have hcz34_2 : w32.cell? ⟨gb787, 2, none⟩ = some (.slice A0_2 l0_2.length c0_2) := (blk_cell BK787.out 2).trans rfl; have hcz34_3 : w32.cell? ⟨gb787, 3, none⟩ = some (.slice A0_3 l0_3.length c0_3) := (blk_cell BK787.out 3).trans rfl; have hcz34_4 : w32.cell? ⟨gb787, 4, none⟩ = some (.slice A0_4 l0_4.length c0_4) := (blk_cell BK787.out 4).trans rfl; have hfz34_0 := blk_frozen BK787.out 0; have hfz34_1 := blk_frozen BK787.out 1; have hfz34_2 := blk_frozen BK787.out 2; have hfz34_3 := blk_frozen BK787.out 3; have hfz34_4 := blk_frozen BK787.out 4; have hcz35_0 : w32.cell? ⟨gb788, 0, none⟩ = some (.int .i64 a1_0) := (blk_cell BK788.out 0).trans rfl; have hcz35_1 : w32.cell? ⟨gb788, 1, none⟩ = some (.int .i64 a1_1) := (blk_cell BK788.out 1).trans rfl; have hcz35_2 : w32.cell? ⟨gb788, 2, none⟩ = some (.slice A1_2 l1_2.length c1_2) := (blk_cell BK788.out 2).trans rfl; have hcz35_3 : w32.cell? ⟨gb788, 3, none⟩ = some (.slice A1_3 l1_3.length c1_3) := (blk_cell BK788.out 3).trans rfl; have hcz35_4 : w32.cell? ⟨gb788, 4, none⟩ = some (.slice A1_4 l1_4.length c1_4) := (blk_cell BK788.out 4).trans rfl; have hfz35_0 := blk_frozen BK788.out 0; have hfz35_1 := blk_frozen BK788.out 1; have hfz35_2 := blk_frozen BK788.out 2; have hfz35_3 := blk_frozen BK788.out 3; have hfz35_4 := blk_frozen BK788.out 4))
  go_ret
  exact ⟨by first | rfl | (simp [errW_none, errW_some] <;> rfl) | (simp [*, errW_none, errW_some] <;> rfl), HB.out⟩
def becketlaw12_same.f (k : Nat) (a0_0 : Int) (a0_1 : Int) (l0_2 : List ByteArray) (l0_3 : List ByteArray) (l0_4 : List (S58)) (a1_0 : Int) (a1_1 : Int) (l1_2 : List ByteArray) (l1_3 : List ByteArray) (l1_4 : List (S58)) : Option (Bool) := (becketref09_Alike.f k a0_0 a0_1 l0_2 l0_3 l0_4 a1_0 a1_1 l1_2 l1_3 l1_4).bind fun t794 => (some t794)
set_option maxHeartbeats 8000000 in
set_option maxRecDepth 100000 in
theorem becketlaw12_same.calls (k : Nat) (a0_0 : Int) (a0_1 : Int) (A0_2 : Option Addr) (c0_2 : Nat) (l0_2 : List ByteArray) (A0_3 : Option Addr) (c0_3 : Nat) (l0_3 : List ByteArray) (A0_4 : Option Addr) (c0_4 : Nat) (l0_4 : List (S58)) (a1_0 : Int) (a1_1 : Int) (A1_2 : Option Addr) (c1_2 : Nat) (l1_2 : List ByteArray) (A1_3 : Option Addr) (c1_3 : Nat) (l1_3 : List ByteArray) (A1_4 : Option Addr) (c1_4 : Nat) (l1_4 : List (S58)) (r : Bool) (w : World) (hr0_2 : Kd.C Kd.string w A0_2 l0_2.length l0_2) (hc0_2 : l0_2.length ≤ c0_2) (hr0_3 : Kd.C Kd.string w A0_3 l0_3.length l0_3) (hc0_3 : l0_3.length ≤ c0_3) (hr0_4 : Kd.C k58 w A0_4 l0_4.length l0_4) (hc0_4 : l0_4.length ≤ c0_4) (hr1_2 : Kd.C Kd.string w A1_2 l1_2.length l1_2) (hc1_2 : l1_2.length ≤ c1_2) (hr1_3 : Kd.C Kd.string w A1_3 l1_3.length l1_3) (hc1_3 : l1_3.length ≤ c1_3) (hr1_4 : Kd.C k58 w A1_4 l1_4.length l1_4) (hc1_4 : l1_4.length ≤ c1_4) (h : becketlaw12_same.f k a0_0 a0_1 l0_2 l0_3 l0_4 a1_0 a1_1 l1_2 l1_3 l1_4 = some r) :
  Calls Try.prog 25 #[.agg #[.int .i64 a0_0, .int .i64 a0_1, .slice A0_2 l0_2.length c0_2, .slice A0_3 l0_3.length c0_3, .slice A0_4 l0_4.length c0_4], .agg #[.int .i64 a1_0, .int .i64 a1_1, .slice A1_2 l1_2.length c1_2, .slice A1_3 l1_3.length c1_3, .slice A1_4 l1_4.length c1_4]] w fun e w' => e = .returned (.bool r) ∧ Below w.heap.size w w' := by
 have hu48 := Try.underlying48
 have HR0_2 := Aside0.mk hr0_2
 have HC0_2 := Aside0.mk hc0_2
 clear hr0_2 hc0_2
 have HR0_3 := Aside0.mk hr0_3
 have HC0_3 := Aside0.mk hc0_3
 clear hr0_3 hc0_3
 have HR0_4 := Aside0.mk hr0_4
 have HC0_4 := Aside0.mk hc0_4
 clear hr0_4 hc0_4
 have HR1_2 := Aside0.mk hr1_2
 have HC1_2 := Aside0.mk hc1_2
 clear hr1_2 hc1_2
 have HR1_3 := Aside0.mk hr1_3
 have HC1_3 := Aside0.mk hc1_3
 clear hr1_3 hc1_3
 have HR1_4 := Aside0.mk hr1_4
 have HC1_4 := Aside0.mk hc1_4
 clear hr1_4 hc1_4
 have HB := Aside0.mk (Below.refl w.heap.size w)
 have H : ((becketref09_Alike.f k a0_0 a0_1 l0_2 l0_3 l0_4 a1_0 a1_1 l1_2 l1_3 l1_4).bind fun t794 => (some t794)) = some r := h
 clear h
 replace H := Option.bind_eq_some_iff.mp H
 obtain ⟨t794, A30, H⟩ := H
 replace H : (some t794) = some r := H
 have A3 := Aside0.mk A30
 clear A30
 obtain rfl := Option.some.inj H
 go_enter Try.func25, Try.ntmps25
 go_wp2_with (first | ((with_reducible refine gate_dst (N := 2) rfl ?_); refine box_event ?hg (N := 2) ?hd (cs := #[.int .i64 a0_0, .int .i64 a0_1, .slice A0_2 l0_2.length c0_2, .slice A0_3 l0_3.length c0_3, .slice A0_4 l0_4.length c0_4]) (t := 48) ?hr ?_; (case hd => rfl); (case hg => rfl); (case hr => first | (go_simp; done) | (go_simp; rfl)); intro gb792 hg w4 hbox hb; have n0_ := Aside0.mk (below_step (HB.out) hb); have n1_ := Aside0.mk (hbox); have n2_ := Aside0.mk ((by rw [hg]; exact (below_size (HB.out)) : w.heap.size ≤ gb792)); have n3_ := Aside0.mk ((by rw [hg]; exact (below_size (HB.out)) : w.heap.size ≤ gb792)); clear HB; have HB := n0_; have BK792 := n1_; have GW792 := n2_; have GE792 := n3_; clear n0_ n1_ n2_ n3_; clear hb hbox hg) | ((with_reducible refine gate_dst (N := 3) rfl ?_); refine box_event ?hg (N := 3) ?hd (cs := #[.int .i64 a1_0, .int .i64 a1_1, .slice A1_2 l1_2.length c1_2, .slice A1_3 l1_3.length c1_3, .slice A1_4 l1_4.length c1_4]) (t := 48) ?hr ?_; (case hd => rfl); (case hg => rfl); (case hr => first | (go_simp; done) | (go_simp; rfl)); intro gb793 hg w5 hbox hb; have n0_ := Aside0.mk (blk_below (g := gb792) (o := .cells #[.int .i64 a0_0, .int .i64 a0_1, .slice A0_2 l0_2.length c0_2, .slice A0_3 l0_3.length c0_3, .slice A0_4 l0_4.length c0_4] 48 (0, 0)) (BK792.out) hb); have n1_ := Aside0.mk (below_step (HB.out) hb); have n2_ := Aside0.mk (hbox); have n3_ := Aside0.mk ((by rw [hg]; exact (below_size (HB.out)) : w.heap.size ≤ gb793)); have n4_ := Aside0.mk ((by rw [hg]; exact (below_size (HB.out)) : w.heap.size ≤ gb793)); have n5_ := Aside0.mk ((by rw [hg]; exact Nat.ne_of_lt (blk_lt (g := gb792) (o := .cells #[.int .i64 a0_0, .int .i64 a0_1, .slice A0_2 l0_2.length c0_2, .slice A0_3 l0_3.length c0_3, .slice A0_4 l0_4.length c0_4] 48 (0, 0)) (BK792.out)) : gb792 ≠ gb793)); have n6_ := Aside0.mk ((by rw [hg]; exact Nat.ne_of_gt (blk_lt (g := gb792) (o := .cells #[.int .i64 a0_0, .int .i64 a0_1, .slice A0_2 l0_2.length c0_2, .slice A0_3 l0_3.length c0_3, .slice A0_4 l0_4.length c0_4] 48 (0, 0)) (BK792.out)) : gb793 ≠ gb792)); clear BK792; clear HB; have BK792 := n0_; have HB := n1_; have BK793 := n2_; have GW793 := n3_; have GE793 := n4_; have NB792_793 := n5_; have NB793_792 := n6_; clear n0_ n1_ n2_ n3_ n4_ n5_ n6_; clear hb hbox hg; have hnb6 := NB792_793.out; have hnc6 := NB793_792.out; have hcz7_0 : w5.cell? ⟨gb792, 0, none⟩ = some (.int .i64 a0_0) := (blk_cell BK792.out 0).trans rfl; have hcz7_1 : w5.cell? ⟨gb792, 1, none⟩ = some (.int .i64 a0_1) := (blk_cell BK792.out 1).trans rfl; have hcz7_2 : w5.cell? ⟨gb792, 2, none⟩ = some (.slice A0_2 l0_2.length c0_2) := (blk_cell BK792.out 2).trans rfl; have hcz7_3 : w5.cell? ⟨gb792, 3, none⟩ = some (.slice A0_3 l0_3.length c0_3) := (blk_cell BK792.out 3).trans rfl; have hcz7_4 : w5.cell? ⟨gb792, 4, none⟩ = some (.slice A0_4 l0_4.length c0_4) := (blk_cell BK792.out 4).trans rfl; have hfz7_0 := blk_frozen BK792.out 0; have hfz7_1 := blk_frozen BK792.out 1; have hfz7_2 := blk_frozen BK792.out 2; have hfz7_3 := blk_frozen BK792.out 3; have hfz7_4 := blk_frozen BK792.out 4; have hcz8_0 : w5.cell? ⟨gb793, 0, none⟩ = some (.int .i64 a1_0) := (blk_cell BK793.out 0).trans rfl; have hcz8_1 : w5.cell? ⟨gb793, 1, none⟩ = some (.int .i64 a1_1) := (blk_cell BK793.out 1).trans rfl; have hcz8_2 : w5.cell? ⟨gb793, 2, none⟩ = some (.slice A1_2 l1_2.length c1_2) := (blk_cell BK793.out 2).trans rfl; have hcz8_3 : w5.cell? ⟨gb793, 3, none⟩ = some (.slice A1_3 l1_3.length c1_3) := (blk_cell BK793.out 3).trans rfl; have hcz8_4 : w5.cell? ⟨gb793, 4, none⟩ = some (.slice A1_4 l1_4.length c1_4) := (blk_cell BK793.out 4).trans rfl; have hfz8_0 := blk_frozen BK793.out 0; have hfz8_1 := blk_frozen BK793.out 1; have hfz8_2 := blk_frozen BK793.out 2; have hfz8_3 := blk_frozen BK793.out 3; have hfz8_4 := blk_frozen BK793.out 4) | ((with_reducible refine gate_callee (f := 56) rfl ?_); refine goesL_ (some 7) rfl rfl Try.func56 (by kernel_rfl) rfl #[.agg #[.int .i64 a0_0, .int .i64 a0_1, .slice A0_2 l0_2.length c0_2, .slice A0_3 l0_3.length c0_3, .slice A0_4 l0_4.length c0_4], .agg #[.int .i64 a1_0, .int .i64 a1_1, .slice A1_2 l1_2.length c1_2, .slice A1_3 l1_3.length c1_3, .slice A1_4 l1_4.length c1_4]] rfl (by (try simp only [List.map_toArray, List.map_cons, List.map_nil]); first | done | rfl | (simp only [List.length_drop, List.length_take]; rfl)) ?_; (with_reducible refine (becketref09_Alike.calls k a0_0 a0_1 _ _ l0_2 _ _ l0_3 _ _ l0_4 a1_0 a1_1 _ _ l1_2 _ _ l1_3 _ _ l1_4 t794 _ ?side1 ?side2 ?side3 ?side4 ?side5 ?side6 ?side7 ?side8 ?side9 ?side10 ?side11 ?side12 A3.out).mono ?_); (case side1 => repeat (first | exact (Kd.C_below HR0_2.out HB.out) | (with_reducible refine Kd.C_alloc ?_ _) | (with_reducible refine Kd.C_drewN ?_ _) | (with_reducible refine Kd.C_drew ?_))); (case side2 => exact HC0_2.out); (case side3 => repeat (first | exact (Kd.C_below HR0_3.out HB.out) | (with_reducible refine Kd.C_alloc ?_ _) | (with_reducible refine Kd.C_drewN ?_ _) | (with_reducible refine Kd.C_drew ?_))); (case side4 => exact HC0_3.out); (case side5 => repeat (first | exact (Kd.C_below HR0_4.out HB.out) | (with_reducible refine Kd.C_alloc ?_ _) | (with_reducible refine Kd.C_drewN ?_ _) | (with_reducible refine Kd.C_drew ?_))); (case side6 => exact HC0_4.out); (case side7 => repeat (first | exact (Kd.C_below HR1_2.out HB.out) | (with_reducible refine Kd.C_alloc ?_ _) | (with_reducible refine Kd.C_drewN ?_ _) | (with_reducible refine Kd.C_drew ?_))); (case side8 => exact HC1_2.out); (case side9 => repeat (first | exact (Kd.C_below HR1_3.out HB.out) | (with_reducible refine Kd.C_alloc ?_ _) | (with_reducible refine Kd.C_drewN ?_ _) | (with_reducible refine Kd.C_drew ?_))); (case side10 => exact HC1_3.out); (case side11 => repeat (first | exact (Kd.C_below HR1_4.out HB.out) | (with_reducible refine Kd.C_alloc ?_ _) | (with_reducible refine Kd.C_drewN ?_ _) | (with_reducible refine Kd.C_drew ?_))); (case side12 => exact HC1_4.out); rintro e w9 ⟨rfl, hb⟩; refine ⟨_, rfl, ?_⟩; have n0_ := Aside0.mk (blk_below (g := gb792) (o := .cells #[.int .i64 a0_0, .int .i64 a0_1, .slice A0_2 l0_2.length c0_2, .slice A0_3 l0_3.length c0_3, .slice A0_4 l0_4.length c0_4] 48 (0, 0)) (BK792.out) hb); have n1_ := Aside0.mk (blk_below (g := gb793) (o := .cells #[.int .i64 a1_0, .int .i64 a1_1, .slice A1_2 l1_2.length c1_2, .slice A1_3 l1_3.length c1_3, .slice A1_4 l1_4.length c1_4] 48 (0, 0)) (BK793.out) hb); have n2_ := Aside0.mk (below_step (HB.out) hb); clear BK792; clear BK793; clear HB; have BK792 := n0_; have BK793 := n1_; have HB := n2_; clear n0_ n1_ n2_; (try clear hb); (try clear hb2); (try clear hk); (try clear hi)))
 go_ret
 exact ⟨by first | rfl | (simp [errW_none, errW_some] <;> rfl) | (simp [*, errW_none, errW_some] <;> rfl), HB.out⟩
end Go.Proofs.Ytpbbgbikebcnbaa.Ms
