-- Cut by a program of this session (wip/shake.py) out of a text of this seat: what this claim doesn't reach is struck out. Lean checks it.
import Derived.Test.YtkaoojcafefjjaaMsx0Cp
namespace Go.Proofs.Ytkaoojcafefjjaa.Ms
open Go.RowKit Go.Proofs.YtkaoojcafefjjaaW.PrintWords Go.Proofs.YtkaoojcafefjjaaW.PrintLast Go.Proofs.YtkaoojcafefjjaaW.PrintMore
attribute [local go_sem] max2_int min2_int max_two min_two max_three min_three max_four min_four   -- for this text's walks alone
set_option linter.unusedVariables false
set_option linter.unusedSimpArgs false
attribute [local go_sem] eqlErr neqErr eqlErrNil neqErrNil
open Go.Proofs.Ytkaoojcafefjjaa.Mw
def becketref12_short.l0 : Nat → List (S68) → Int → Option (Bool)
  | 0, _, _ => none
  | k + 1, x0, x3 => if x3 < (x0.length : Int) then (if 0 ≤ x3 then (if (((rd_T68 x0 x3).f2).size : Int) > 5000 then (some false) else (if (((rd_T68 x0 x3).f3).length : Int) > 100 then (some false) else (becketref12_short.l0 k x0 (wrap64 (x3 + 1))))) else (none)) else (some true)
def becketref12_short.f (k : Nat) (l0 : List (S68)) : Option (Bool) := if (l0.length : Int) > 200 then (some false) else (becketref12_short.l0 k l0 0)
set_option maxHeartbeats 8000000 in
set_option maxRecDepth 100000 in
theorem becketref12_short.calls (k : Nat) (A0 : Option Addr) (c0 : Nat) (l0 : List (S68)) (r : Bool) (w : World) (hr0 : Kd.C k68 w A0 l0.length l0) (hc0 : l0.length ≤ c0) (h : becketref12_short.f k l0 = some r) :
    Calls Try.prog 17 #[.slice A0 l0.length c0] w fun e w' => e = .returned (.bool r) ∧ Drawn0 w w' := by
  have HR0 := Aside0.mk hr0
  have HC0 := Aside0.mk hc0
  clear hr0 hc0
  have H : (if (l0.length : Int) > 200 then (some false) else (becketref12_short.l0 k l0 0)) = some r := h
  clear h
  by_cases c2 : (l0.length : Int) > 200
  · rw [if_pos c2] at H
    have c2b0 : decide (200 < (l0.length : Int)) = true := decide_eq_true c2
    have c2b1 : decide (200 < l0.length) = true := decide_eq_true (by omega)
    clear c2
    obtain rfl := Option.some.inj H
    go_enter Try.func17, Try.ntmps17
    go_wp2
    go_ret
    exact ⟨by first | rfl | (simp; done) | (simp [*]; done), by repeat (first | exact Drawn0.refl _ | apply Drawn0.step)⟩
  · rw [if_neg c2] at H
    have c2b0 : decide (200 < (l0.length : Int)) = false := decide_eq_false c2
    have c2b1 : decide (200 < l0.length) = false := decide_eq_false (by omega)
    clear c2
    have H' := Aside0.mk H
    clear H
    go_enter Try.func17, Try.ntmps17
    go_wp2
    go_loopg [3] k (fun kq v3 w' => ∃ (x3_1 : Int), v3 = .int .i64 x3_1 ∧ Aside0 (becketref12_short.l0 kq l0 x3_1 = some r) ∧ Aside0 (kq ≤ k) ∧ Drawn0 w w')
    case atStart => exact ⟨(0), (by first | rfl | (simp; done) | (simp [*]; done)), H', ⟨Nat.le_refl _⟩, by repeat (first | exact Drawn0.refl _ | apply Drawn0.step)⟩
    case round =>
      clear H'
      try clear c1
      try clear c2
      try clear c2b0
      try clear c2b1
      try clear p2
      obtain ⟨x3_1, rfl, HA, HK1, ⟨m1, rfl⟩⟩ := hrel
      cases gk with
      | zero => exact absurd HA.out (by simp [becketref12_short.l0])
      | succ k1 =>
        have H := HA.out
        clear HA
        simp only [becketref12_short.l0] at H
        by_cases c3 : x3_1 < (l0.length : Int)
        · rw [if_pos c3] at H
          have c3b0 : decide (x3_1 < (l0.length : Int)) = true := decide_eq_true c3
          clear c3
          by_cases c4 : 0 ≤ x3_1
          · rw [if_pos c4] at H
            have c4b0 : decide (0 ≤ x3_1) = true := decide_eq_true c4
            clear c4
            by_cases c5 : (((rd_T68 l0 x3_1).f2).size : Int) > 5000
            · rw [if_pos c5] at H
              have c5b0 : decide (5000 < (((rd_T68 l0 x3_1).f2).size : Int)) = true := decide_eq_true c5
              have c5b1 : decide (5000 < ((rd_T68 l0 x3_1).f2).size) = true := decide_eq_true (by omega)
              clear c5
              obtain rfl := Option.some.inj H
              have p290 : 0 ≤ (x3_1 : Int) := of_decide_eq_true (by first | (with_reducible assumption) | assumption)
              have q290 : x3_1 < (l0.length : Int) := of_decide_eq_true (by first | (with_reducible assumption) | assumption)
              obtain ⟨ad290, A290_3, c290_3, e290, hx290_0, hx290_1, hx290_2, hx290_3, hl290_3, hi290_3⟩ := at_T68 HR0.out x3_1 p290 q290
              cases e290
              have HR290_3 := Aside0.mk hi290_3
              have HC290_3 := Aside0.mk hl290_3
              clear hi290_3 hl290_3
              replace p290 := eq_true p290
              replace q290 := eq_true q290
              go_wp2
              go_ret
              exact ⟨by first | rfl | (simp; done) | (simp [*]; done), by repeat (first | exact Drawn0.refl _ | apply Drawn0.step)⟩
            · rw [if_neg c5] at H
              have c5b0 : decide (5000 < (((rd_T68 l0 x3_1).f2).size : Int)) = false := decide_eq_false c5
              have c5b1 : decide (5000 < ((rd_T68 l0 x3_1).f2).size) = false := decide_eq_false (by omega)
              clear c5
              by_cases c6 : (((rd_T68 l0 x3_1).f3).length : Int) > 100
              · rw [if_pos c6] at H
                have c6b0 : decide (100 < (((rd_T68 l0 x3_1).f3).length : Int)) = true := decide_eq_true c6
                have c6b1 : decide (100 < ((rd_T68 l0 x3_1).f3).length) = true := decide_eq_true (by omega)
                clear c6
                obtain rfl := Option.some.inj H
                have p290 : 0 ≤ (x3_1 : Int) := of_decide_eq_true (by first | (with_reducible assumption) | assumption)
                have q290 : x3_1 < (l0.length : Int) := of_decide_eq_true (by first | (with_reducible assumption) | assumption)
                obtain ⟨ad290, A290_3, c290_3, e290, hx290_0, hx290_1, hx290_2, hx290_3, hl290_3, hi290_3⟩ := at_T68 HR0.out x3_1 p290 q290
                cases e290
                have HR290_3 := Aside0.mk hi290_3
                have HC290_3 := Aside0.mk hl290_3
                clear hi290_3 hl290_3
                replace p290 := eq_true p290
                replace q290 := eq_true q290
                have p291 : 0 ≤ (x3_1 : Int) := of_decide_eq_true (by first | (with_reducible assumption) | assumption)
                have q291 : x3_1 < (l0.length : Int) := of_decide_eq_true (by first | (with_reducible assumption) | assumption)
                obtain ⟨ad291, A291_3, c291_3, e291, hx291_0, hx291_1, hx291_2, hx291_3, hl291_3, hi291_3⟩ := at_T68 HR0.out x3_1 p291 q291
                obtain rfl : ad290 = ad291 := (by injection e291)
                have HR291_3 := Aside0.mk hi291_3
                have HC291_3 := Aside0.mk hl291_3
                clear hi291_3 hl291_3
                replace p291 := eq_true p291
                replace q291 := eq_true q291
                have ea_ := Option.some.inj (hx290_3.symm.trans hx291_3)
                injection ea_ with ea_ en_ ec_
                subst ea_
                subst ec_
                clear en_
                go_wp2
                go_ret
                exact ⟨by first | rfl | (simp; done) | (simp [*]; done), by repeat (first | exact Drawn0.refl _ | apply Drawn0.step)⟩
              · rw [if_neg c6] at H
                have c6b0 : decide (100 < (((rd_T68 l0 x3_1).f3).length : Int)) = false := decide_eq_false c6
                have c6b1 : decide (100 < ((rd_T68 l0 x3_1).f3).length) = false := decide_eq_false (by omega)
                clear c6
                have H' := Aside0.mk H
                clear H
                have p290 : 0 ≤ (x3_1 : Int) := of_decide_eq_true (by first | (with_reducible assumption) | assumption)
                have q290 : x3_1 < (l0.length : Int) := of_decide_eq_true (by first | (with_reducible assumption) | assumption)
                obtain ⟨ad290, A290_3, c290_3, e290, hx290_0, hx290_1, hx290_2, hx290_3, hl290_3, hi290_3⟩ := at_T68 HR0.out x3_1 p290 q290
                cases e290
                have HR290_3 := Aside0.mk hi290_3
                have HC290_3 := Aside0.mk hl290_3
                clear hi290_3 hl290_3
                replace p290 := eq_true p290
                replace q290 := eq_true q290
                have p291 : 0 ≤ (x3_1 : Int) := of_decide_eq_true (by first | (with_reducible assumption) | assumption)
                have q291 : x3_1 < (l0.length : Int) := of_decide_eq_true (by first | (with_reducible assumption) | assumption)
                obtain ⟨ad291, A291_3, c291_3, e291, hx291_0, hx291_1, hx291_2, hx291_3, hl291_3, hi291_3⟩ := at_T68 HR0.out x3_1 p291 q291
                obtain rfl : ad290 = ad291 := (by injection e291)
                have HR291_3 := Aside0.mk hi291_3
                have HC291_3 := Aside0.mk hl291_3
                clear hi291_3 hl291_3
                replace p291 := eq_true p291
                replace q291 := eq_true q291
                have ea_ := Option.some.inj (hx290_3.symm.trans hx291_3)
                injection ea_ with ea_ en_ ec_
                subst ea_
                subst ec_
                clear en_
                go_wp2
                go_roundg k1
                case measure => have := HK1.out; omega
                case rel => exact ⟨(wrap64 (x3_1 + 1)), (by first | rfl | (simp; done) | (simp [*]; done)), H', ⟨by have := HK1.out; omega⟩, by repeat (first | exact Drawn0.refl _ | apply Drawn0.step)⟩
          · rw [if_neg c4] at H
            exact absurd H (by simp)
        · rw [if_neg c3] at H
          have c3b0 : decide (x3_1 < (l0.length : Int)) = false := decide_eq_false c3
          clear c3
          obtain rfl := Option.some.inj H
          go_wp2
          go_ret
          exact ⟨by first | rfl | (simp; done) | (simp [*]; done), by repeat (first | exact Drawn0.refl _ | apply Drawn0.step)⟩
mutual
def becketref12_Short.j0 : Nat → Bool → Int → Int → Int → Int → ByteArray → List (S68) → List (S58) → Option (Bool)
  | 0, _, _, _, _, _, _, _, _ => none
  | k + 1, x22, x293000, x293001, x293002, x293003, x293004, x293005, x293006 => if x22 = true then (some false) else (becketref12_Short.l0 k 0 x293000 x293001 x293002 x293003 x293004 x293005 x293006)
def becketref12_Short.l0 : Nat → Int → Int → Int → Int → Int → ByteArray → List (S68) → List (S58) → Option (Bool)
  | 0, _, _, _, _, _, _, _, _ => none
  | k + 1, x4, x293000, x293001, x293002, x293003, x293004, x293005, x293006 => if x4 < (x293006.length : Int) then (if 0 ≤ x4 then ((becketref12_short.f k ((rd_T58 x293006 x4).f2)).bind fun t295 => (if t295 = true then (becketref12_Short.l0 k (wrap64 (x4 + 1)) x293000 x293001 x293002 x293003 x293004 x293005 x293006) else (some false))) else (none)) else (some true)
end
def becketref12_Short.f (k : Nat) (a0_0 : Int) (a0_1 : Int) (a0_2 : Int) (a0_3 : Int) (a0_4 : ByteArray) (l0_5 : List (S68)) (l0_6 : List (S58)) : Option (Bool) := (becketref12_short.f k l0_5).bind fun t293 => (if t293 = true then (if (a0_4.size : Int) > 5000 then (becketref12_Short.j0 k true a0_0 a0_1 a0_2 a0_3 a0_4 l0_5 l0_6) else (becketref12_Short.j0 k (decide ((l0_6.length : Int) > 50)) a0_0 a0_1 a0_2 a0_3 a0_4 l0_5 l0_6)) else (becketref12_Short.j0 k true a0_0 a0_1 a0_2 a0_3 a0_4 l0_5 l0_6))
set_option maxHeartbeats 8000000 in
set_option maxRecDepth 100000 in
theorem becketref12_Short.calls (k : Nat) (a0_0 : Int) (a0_1 : Int) (a0_2 : Int) (a0_3 : Int) (a0_4 : ByteArray) (A0_5 : Option Addr) (c0_5 : Nat) (l0_5 : List (S68)) (A0_6 : Option Addr) (c0_6 : Nat) (l0_6 : List (S58)) (r : Bool) (w : World) (hr0_5 : Kd.C k68 w A0_5 l0_5.length l0_5) (hc0_5 : l0_5.length ≤ c0_5) (hr0_6 : Kd.C k58 w A0_6 l0_6.length l0_6) (hc0_6 : l0_6.length ≤ c0_6) (h : becketref12_Short.f k a0_0 a0_1 a0_2 a0_3 a0_4 l0_5 l0_6 = some r) :
    Calls Try.prog 7 #[.agg #[.int .i64 a0_0, .int .i64 a0_1, .int .i64 a0_2, .int .i64 a0_3, .string a0_4, .slice A0_5 l0_5.length c0_5, .slice A0_6 l0_6.length c0_6]] w fun e w' => e = .returned (.bool r) ∧ Below w.heap.size w w' := by
  have hu29 := Try.underlying29
  have HR0_5 := Aside0.mk hr0_5
  have HC0_5 := Aside0.mk hc0_5
  clear hr0_5 hc0_5
  have HR0_6 := Aside0.mk hr0_6
  have HC0_6 := Aside0.mk hc0_6
  clear hr0_6 hc0_6
  have HB := Aside0.mk (Below.refl w.heap.size w)
  have H : ((becketref12_short.f k l0_5).bind fun t293 => (if t293 = true then (if (a0_4.size : Int) > 5000 then (becketref12_Short.j0 k true a0_0 a0_1 a0_2 a0_3 a0_4 l0_5 l0_6) else (becketref12_Short.j0 k (decide ((l0_6.length : Int) > 50)) a0_0 a0_1 a0_2 a0_3 a0_4 l0_5 l0_6)) else (becketref12_Short.j0 k true a0_0 a0_1 a0_2 a0_3 a0_4 l0_5 l0_6))) = some r := h
  clear h
  replace H := Option.bind_eq_some_iff.mp H
  obtain ⟨t293, A20, H⟩ := H
  replace H : (if t293 = true then (if (a0_4.size : Int) > 5000 then (becketref12_Short.j0 k true a0_0 a0_1 a0_2 a0_3 a0_4 l0_5 l0_6) else (becketref12_Short.j0 k (decide ((l0_6.length : Int) > 50)) a0_0 a0_1 a0_2 a0_3 a0_4 l0_5 l0_6)) else (becketref12_Short.j0 k true a0_0 a0_1 a0_2 a0_3 a0_4 l0_5 l0_6)) = some r := H
  have A2 := Aside0.mk A20
  clear A20
  have HC3 := Aside0.mk H
  clear H
  go_enter Try.func7, Try.ntmps7
  go_upto_region 2 with (first | ((with_reducible refine gate_dst (N := 1) rfl ?_); (try (refine gate_guard (by rfl) ?_; dsimp only)); refine box_event ?hg (N := 1) ?hd (cs := #[.int .i64 a0_0, .int .i64 a0_1, .int .i64 a0_2, .int .i64 a0_3, .string a0_4, .slice A0_5 l0_5.length c0_5, .slice A0_6 l0_6.length c0_6]) (t := 29) ?hr ?_; (case hd => rfl); (case hg => rfl); (case hr => first | (go_simp; done) | (go_simp; rfl)); intro gb292 hg w4 hbox hb; have n0_ := Aside0.mk (below_step (by repeat (first | (with_reducible first | exact HB.out | apply below_alloc | apply pw_below_drewN | apply below_drew1) | exact HB.out)) hb); have n1_ := Aside0.mk (hbox); have n2_ := Aside0.mk ((by rw [hg]; exact (below_size (by repeat (first | (with_reducible first | exact HB.out | apply below_alloc | apply pw_below_drewN | apply below_drew1) | exact HB.out))) : w.heap.size ≤ gb292)); have n3_ := Aside0.mk ((by rw [hg]; exact (below_size (by repeat (first | (with_reducible first | exact HB.out | apply below_alloc | apply pw_below_drewN | apply below_drew1) | exact HB.out))) : w.heap.size ≤ gb292)); clear HB; have HB := n0_; have BK292 := n1_; have GW292 := n2_; have GE292 := n3_; clear n0_ n1_ n2_ n3_; clear hb hbox hg; have hcz5_0 : w4.cell? ⟨gb292, 0, none⟩ = some (.int .i64 a0_0) := (blk_cell BK292.out 0).trans rfl; have hcz5_1 : w4.cell? ⟨gb292, 1, none⟩ = some (.int .i64 a0_1) := (blk_cell BK292.out 1).trans rfl; have hcz5_2 : w4.cell? ⟨gb292, 2, none⟩ = some (.int .i64 a0_2) := (blk_cell BK292.out 2).trans rfl; have hcz5_3 : w4.cell? ⟨gb292, 3, none⟩ = some (.int .i64 a0_3) := (blk_cell BK292.out 3).trans rfl; have hcz5_4 : w4.cell? ⟨gb292, 4, none⟩ = some (.string a0_4) := (blk_cell BK292.out 4).trans rfl; have hcz5_5 : w4.cell? ⟨gb292, 5, none⟩ = some (.slice A0_5 l0_5.length c0_5) := (blk_cell BK292.out 5).trans rfl; have hcz5_6 : w4.cell? ⟨gb292, 6, none⟩ = some (.slice A0_6 l0_6.length c0_6) := (blk_cell BK292.out 6).trans rfl; have hfz5_0 := blk_frozen BK292.out 0; have hfz5_1 := blk_frozen BK292.out 1; have hfz5_2 := blk_frozen BK292.out 2; have hfz5_3 := blk_frozen BK292.out 3; have hfz5_4 := blk_frozen BK292.out 4; have hfz5_5 := blk_frozen BK292.out 5; have hfz5_6 := blk_frozen BK292.out 6) | ((with_reducible refine gate_callee (f := 17) rfl ?_); refine goesL_ (some 8) rfl rfl Try.func17 (by kernel_rfl) rfl #[.slice A0_5 l0_5.length c0_5] rfl (by (try simp only [List.map_toArray, List.map_cons, List.map_nil]); first | done | rfl | (simp only [List.length_drop, List.length_take]; rfl)) ?_; (with_reducible refine (becketref12_short.calls k _ _ l0_5 t293 _ ?side1 ?side2 A2.out).mono ?_); (case side1 => repeat (first | exact (Kd.C_below HR0_5.out HB.out) | (with_reducible refine Kd.C_alloc ?_ _) | (with_reducible refine Kd.C_drewN ?_ _) | (with_reducible refine Kd.C_drew ?_))); (case side2 => exact HC0_5.out); rintro e w' ⟨rfl, ⟨nd, rfl⟩⟩; refine ⟨_, rfl, ?_⟩))
  (try simp only [Act.put, List.setIfInBounds_toArray, List.set_cons_zero, List.set_cons_succ])
  go_cut [22] (fun v22 wc => ∃ (kq : Nat) (x22_2 : Bool), v22 = .bool x22_2 ∧ Aside0 (becketref12_Short.j0 kq x22_2 a0_0 a0_1 a0_2 a0_3 a0_4 l0_5 l0_6 = some r) ∧ Aside0 (kq ≤ k) ∧ Aside0 (wc.heap[gb292]? = some (.cells #[.int .i64 a0_0, .int .i64 a0_1, .int .i64 a0_2, .int .i64 a0_3, .string a0_4, (.slice A0_5 l0_5.length c0_5), (.slice A0_6 l0_6.length c0_6)] 29 (0, 0))) ∧ Aside0 (Below w.heap.size w wc))
  case first =>
    have H := HC3.out
    clear HC3
    by_cases c6 : t293 = true
    · subst c6
      have H1 : (if (a0_4.size : Int) > 5000 then (becketref12_Short.j0 k true a0_0 a0_1 a0_2 a0_3 a0_4 l0_5 l0_6) else (becketref12_Short.j0 k (decide ((l0_6.length : Int) > 50)) a0_0 a0_1 a0_2 a0_3 a0_4 l0_5 l0_6)) = some r := by first | (rw [if_pos rfl] at H; with_reducible exact H) | exact (if_pos rfl).symm.trans H | (simp only [if_true, eq_self_iff_true] at H ⊢; exact H)
      clear H
      have H := H1
      clear H1
      by_cases c7 : (a0_4.size : Int) > 5000
      · rw [if_pos c7] at H
        have c7b0 : decide (5000 < (a0_4.size : Int)) = true := decide_eq_true c7
        have c7b1 : decide (5000 < a0_4.size) = true := decide_eq_true (by omega)
        clear c7
        (first | rw [c7b0] | (simp only [i64_w, i32_w]; rw [c7b0]) | skip)
        have H' := Aside0.mk H
        clear H
        have hcz8_0 : w4.cell? ⟨gb292, 0, none⟩ = some (.int .i64 a0_0) := (blk_cell BK292.out 0).trans rfl
        have hcz8_1 : w4.cell? ⟨gb292, 1, none⟩ = some (.int .i64 a0_1) := (blk_cell BK292.out 1).trans rfl
        have hcz8_2 : w4.cell? ⟨gb292, 2, none⟩ = some (.int .i64 a0_2) := (blk_cell BK292.out 2).trans rfl
        have hcz8_3 : w4.cell? ⟨gb292, 3, none⟩ = some (.int .i64 a0_3) := (blk_cell BK292.out 3).trans rfl
        have hcz8_4 : w4.cell? ⟨gb292, 4, none⟩ = some (.string a0_4) := (blk_cell BK292.out 4).trans rfl
        have hcz8_5 : w4.cell? ⟨gb292, 5, none⟩ = some (.slice A0_5 l0_5.length c0_5) := (blk_cell BK292.out 5).trans rfl
        have hcz8_6 : w4.cell? ⟨gb292, 6, none⟩ = some (.slice A0_6 l0_6.length c0_6) := (blk_cell BK292.out 6).trans rfl
        have hfz8_0 := blk_frozen BK292.out 0
        have hfz8_1 := blk_frozen BK292.out 1
        have hfz8_2 := blk_frozen BK292.out 2
        have hfz8_3 := blk_frozen BK292.out 3
        have hfz8_4 := blk_frozen BK292.out 4
        have hfz8_5 := blk_frozen BK292.out 5
        have hfz8_6 := blk_frozen BK292.out 6
        go_wp2
        go_meet
        case rel => exact ⟨_, (true), (by first | rfl | (simp; done) | (simp [*]; done)), H', ⟨by first | omega | exact Nat.le_refl _⟩, ⟨by (with_reducible repeat (first | refine blk_drewN ?_ _ | refine blk_drew ?_ | refine blk_alloc ?_ _)); exact BK292.out⟩, ⟨by repeat (first | (with_reducible first | exact HB.out | apply below_alloc | apply pw_below_drewN | apply below_drew1 | refine below_set ?_ GE292.out) | exact HB.out)⟩⟩
      · rw [if_neg c7] at H
        have c7b0 : decide (5000 < (a0_4.size : Int)) = false := decide_eq_false c7
        have c7b1 : decide (5000 < a0_4.size) = false := decide_eq_false (by omega)
        clear c7
        (first | rw [c7b0] | (simp only [i64_w, i32_w]; rw [c7b0]) | skip)
        have H' := Aside0.mk H
        clear H
        have hcz9_0 : w4.cell? ⟨gb292, 0, none⟩ = some (.int .i64 a0_0) := (blk_cell BK292.out 0).trans rfl
        have hcz9_1 : w4.cell? ⟨gb292, 1, none⟩ = some (.int .i64 a0_1) := (blk_cell BK292.out 1).trans rfl
        have hcz9_2 : w4.cell? ⟨gb292, 2, none⟩ = some (.int .i64 a0_2) := (blk_cell BK292.out 2).trans rfl
        have hcz9_3 : w4.cell? ⟨gb292, 3, none⟩ = some (.int .i64 a0_3) := (blk_cell BK292.out 3).trans rfl
        have hcz9_4 : w4.cell? ⟨gb292, 4, none⟩ = some (.string a0_4) := (blk_cell BK292.out 4).trans rfl
        have hcz9_5 : w4.cell? ⟨gb292, 5, none⟩ = some (.slice A0_5 l0_5.length c0_5) := (blk_cell BK292.out 5).trans rfl
        have hcz9_6 : w4.cell? ⟨gb292, 6, none⟩ = some (.slice A0_6 l0_6.length c0_6) := (blk_cell BK292.out 6).trans rfl
        have hfz9_0 := blk_frozen BK292.out 0
        have hfz9_1 := blk_frozen BK292.out 1
        have hfz9_2 := blk_frozen BK292.out 2
        have hfz9_3 := blk_frozen BK292.out 3
        have hfz9_4 := blk_frozen BK292.out 4
        have hfz9_5 := blk_frozen BK292.out 5
        have hfz9_6 := blk_frozen BK292.out 6
        go_wp2
        go_meet
        case rel => exact ⟨_, (decide ((l0_6.length : Int) > 50)), (by first | rfl | (simp; done) | (simp [*]; done)), H', ⟨by first | omega | exact Nat.le_refl _⟩, ⟨by (with_reducible repeat (first | refine blk_drewN ?_ _ | refine blk_drew ?_ | refine blk_alloc ?_ _)); exact BK292.out⟩, ⟨by repeat (first | (with_reducible first | exact HB.out | apply below_alloc | apply pw_below_drewN | apply below_drew1 | refine below_set ?_ GE292.out) | exact HB.out)⟩⟩
    · replace c6 := Bool.eq_false_iff.mpr c6
      subst c6
      have H1 : (becketref12_Short.j0 k true a0_0 a0_1 a0_2 a0_3 a0_4 l0_5 l0_6) = some r := by rw [if_neg (show ¬ (false = true) by decide)] at H; exact H
      clear H
      have H := H1
      clear H1
      have H' := Aside0.mk H
      clear H
      go_wp2
      go_meet
      case rel => exact ⟨_, (true), (by first | rfl | (simp; done) | (simp [*]; done)), H', ⟨by first | omega | exact Nat.le_refl _⟩, ⟨by (with_reducible repeat (first | refine blk_drewN ?_ _ | refine blk_drew ?_ | refine blk_alloc ?_ _)); exact BK292.out⟩, ⟨by repeat (first | (with_reducible first | exact HB.out | apply below_alloc | apply pw_below_drewN | apply below_drew1 | refine below_set ?_ GE292.out) | exact HB.out)⟩⟩
  case rest =>
    clear HC3
    try clear c1
    try clear p2
    try clear c6
    try clear c7
    try clear c7b0
    try clear c7b1
    try clear hcz5_0
    try clear hcz5_1
    try clear hcz5_2
    try clear hcz5_3
    try clear hcz5_4
    try clear hcz5_5
    try clear hcz5_6
    try clear hcz8_0
    try clear hcz8_1
    try clear hcz8_2
    try clear hcz8_3
    try clear hcz8_4
    try clear hcz8_5
    try clear hcz8_6
    try clear hcz9_0
    try clear hcz9_1
    try clear hcz9_2
    try clear hcz9_3
    try clear hcz9_4
    try clear hcz9_5
    try clear hcz9_6
    try clear hfz5_0
    try clear hfz5_1
    try clear hfz5_2
    try clear hfz5_3
    try clear hfz5_4
    try clear hfz5_5
    try clear hfz5_6
    try clear hfz8_0
    try clear hfz8_1
    try clear hfz8_2
    try clear hfz8_3
    try clear hfz8_4
    try clear hfz8_5
    try clear hfz8_6
    try clear hfz9_0
    try clear hfz9_1
    try clear hfz9_2
    try clear hfz9_3
    try clear hfz9_4
    try clear hfz9_5
    try clear hfz9_6
    obtain ⟨kq, x22_2, rfl, HA, HJ2, BK292, HB⟩ := hcut
    cases kq with
    | zero => exact absurd HA.out (by simp [becketref12_Short.j0])
    | succ kj2 =>
      have H := HA.out
      clear HA
      simp only [becketref12_Short.j0] at H
      by_cases c10 : x22_2 = true
      · subst c10
        have H1 : (some false) = some r := by first | (rw [if_pos rfl] at H; with_reducible exact H) | exact (if_pos rfl).symm.trans H | (simp only [if_true, eq_self_iff_true] at H ⊢; exact H)
        clear H
        have H := H1
        clear H1
        obtain rfl := Option.some.inj H
        go_wp2
        go_ret
        exact ⟨by first | rfl | (simp [errW_none, errW_some] <;> rfl) | (simp [*, errW_none, errW_some] <;> rfl), by repeat (first | (with_reducible first | exact HB.out | apply below_alloc | apply pw_below_drewN | apply below_drew1 | refine below_set ?_ GE292.out) | exact HB.out)⟩
      · replace c10 := Bool.eq_false_iff.mpr c10
        subst c10
        have H1 : (becketref12_Short.l0 kj2 0 a0_0 a0_1 a0_2 a0_3 a0_4 l0_5 l0_6) = some r := by rw [if_neg (show ¬ (false = true) by decide)] at H; exact H
        clear H
        have H := H1
        clear H1
        have H' := Aside0.mk H
        clear H
        go_wp2
        go_loopg [4] kj2 (fun kq v4 w' => ∃ (x4_2 : Int), v4 = .int .i64 x4_2 ∧ Aside0 (becketref12_Short.l0 kq x4_2 a0_0 a0_1 a0_2 a0_3 a0_4 l0_5 l0_6 = some r) ∧ Aside0 (kq ≤ kj2) ∧ Aside0 (w'.heap[gb292]? = some (.cells #[.int .i64 a0_0, .int .i64 a0_1, .int .i64 a0_2, .int .i64 a0_3, .string a0_4, (.slice A0_5 l0_5.length c0_5), (.slice A0_6 l0_6.length c0_6)] 29 (0, 0))) ∧ Aside0 (Below w.heap.size w w'))
        case atStart => exact ⟨(0), (by first | rfl | (simp; done) | (simp [*]; done)), H', ⟨Nat.le_refl _⟩, ⟨by (with_reducible repeat (first | refine blk_drewN ?_ _ | refine blk_drew ?_ | refine blk_alloc ?_ _)); exact BK292.out⟩, ⟨by repeat (first | (with_reducible first | exact HB.out | apply below_alloc | apply pw_below_drewN | apply below_drew1 | refine below_set ?_ GE292.out) | exact HB.out)⟩⟩
        case round =>
          clear H'
          try clear c1
          try clear p2
          try clear c6
          try clear c7
          try clear c7b0
          try clear c7b1
          try clear c10
          try clear hcz5_0
          try clear hcz5_1
          try clear hcz5_2
          try clear hcz5_3
          try clear hcz5_4
          try clear hcz5_5
          try clear hcz5_6
          try clear hcz8_0
          try clear hcz8_1
          try clear hcz8_2
          try clear hcz8_3
          try clear hcz8_4
          try clear hcz8_5
          try clear hcz8_6
          try clear hcz9_0
          try clear hcz9_1
          try clear hcz9_2
          try clear hcz9_3
          try clear hcz9_4
          try clear hcz9_5
          try clear hcz9_6
          try clear hfz5_0
          try clear hfz5_1
          try clear hfz5_2
          try clear hfz5_3
          try clear hfz5_4
          try clear hfz5_5
          try clear hfz5_6
          try clear hfz8_0
          try clear hfz8_1
          try clear hfz8_2
          try clear hfz8_3
          try clear hfz8_4
          try clear hfz8_5
          try clear hfz8_6
          try clear hfz9_0
          try clear hfz9_1
          try clear hfz9_2
          try clear hfz9_3
          try clear hfz9_4
          try clear hfz9_5
          try clear hfz9_6
          try clear p2
          obtain ⟨x4_2, rfl, HA, HK2, BK292, HB⟩ := hrel
          cases gk with
          | zero => exact absurd HA.out (by simp [becketref12_Short.l0])
          | succ k2 =>
            have H := HA.out
            clear HA
            simp only [becketref12_Short.l0] at H
            by_cases c11 : x4_2 < (l0_6.length : Int)
            · rw [if_pos c11] at H
              have c11b0 : decide (x4_2 < (l0_6.length : Int)) = true := decide_eq_true c11
              clear c11
              by_cases c12 : 0 ≤ x4_2
              · rw [if_pos c12] at H
                have c12b0 : decide (0 ≤ x4_2) = true := decide_eq_true c12
                clear c12
                replace H := Option.bind_eq_some_iff.mp H
                obtain ⟨t295, A130, H⟩ := H
                replace H : (if t295 = true then (becketref12_Short.l0 k2 (wrap64 (x4_2 + 1)) a0_0 a0_1 a0_2 a0_3 a0_4 l0_5 l0_6) else (some false)) = some r := H
                have A13 := Aside0.mk A130
                clear A130
                by_cases c14 : t295 = true
                · subst c14
                  have H1 : (becketref12_Short.l0 k2 (wrap64 (x4_2 + 1)) a0_0 a0_1 a0_2 a0_3 a0_4 l0_5 l0_6) = some r := by first | (rw [if_pos rfl] at H; with_reducible exact H) | exact (if_pos rfl).symm.trans H | (simp only [if_true, eq_self_iff_true] at H ⊢; exact H)
                  clear H
                  have H := H1
                  clear H1
                  have H' := Aside0.mk H
                  clear H
                  have hcz15_0 : wr.cell? ⟨gb292, 0, none⟩ = some (.int .i64 a0_0) := (blk_cell BK292.out 0).trans rfl
                  have hcz15_1 : wr.cell? ⟨gb292, 1, none⟩ = some (.int .i64 a0_1) := (blk_cell BK292.out 1).trans rfl
                  have hcz15_2 : wr.cell? ⟨gb292, 2, none⟩ = some (.int .i64 a0_2) := (blk_cell BK292.out 2).trans rfl
                  have hcz15_3 : wr.cell? ⟨gb292, 3, none⟩ = some (.int .i64 a0_3) := (blk_cell BK292.out 3).trans rfl
                  have hcz15_4 : wr.cell? ⟨gb292, 4, none⟩ = some (.string a0_4) := (blk_cell BK292.out 4).trans rfl
                  have hcz15_5 : wr.cell? ⟨gb292, 5, none⟩ = some (.slice A0_5 l0_5.length c0_5) := (blk_cell BK292.out 5).trans rfl
                  have hcz15_6 : wr.cell? ⟨gb292, 6, none⟩ = some (.slice A0_6 l0_6.length c0_6) := (blk_cell BK292.out 6).trans rfl
                  have hfz15_0 := blk_frozen BK292.out 0
                  have hfz15_1 := blk_frozen BK292.out 1
                  have hfz15_2 := blk_frozen BK292.out 2
                  have hfz15_3 := blk_frozen BK292.out 3
                  have hfz15_4 := blk_frozen BK292.out 4
                  have hfz15_5 := blk_frozen BK292.out 5
                  have hfz15_6 := blk_frozen BK292.out 6
                  have p294 : 0 ≤ (x4_2 : Int) := of_decide_eq_true (by first | (with_reducible assumption) | assumption)
                  have q294 : x4_2 < (l0_6.length : Int) := of_decide_eq_true (by first | (with_reducible assumption) | assumption)
                  obtain ⟨ad294, A294_2, c294_2, e294, hx294_0, hx294_1, hx294_2, hl294_2, hi294_2⟩ := at_T58 HR0_6.out x4_2 p294 q294
                  cases e294
                  replace hx294_0 := (HB.out.cell (World.block_lt_of_cell? w _ hx294_0)).trans hx294_0
                  replace hx294_1 := (HB.out.cell (World.block_lt_of_cell? w _ hx294_1)).trans hx294_1
                  replace hx294_2 := (HB.out.cell (World.block_lt_of_cell? w _ hx294_2)).trans hx294_2
                  have HR294_2 := Aside0.mk hi294_2
                  have HC294_2 := Aside0.mk hl294_2
                  clear hi294_2 hl294_2
                  replace p294 := eq_true p294
                  replace q294 := eq_true q294
                  go_wp2_with (first | ((with_reducible refine gate_callee (f := 17) rfl ?_); refine goesL_ (some 36) rfl rfl Try.func17 (by kernel_rfl) rfl #[.slice A294_2 ((rd_T58 l0_6 x4_2).f2).length c294_2] rfl (by (try simp only [List.map_toArray, List.map_cons, List.map_nil]); first | done | rfl | (simp only [List.length_drop, List.length_take]; rfl)) ?_; (with_reducible refine (becketref12_short.calls k2 _ _ ((rd_T58 l0_6 x4_2).f2) true _ ?side1 ?side2 A13.out).mono ?_); (case side1 => repeat (first | exact (Kd.C_below HR294_2.out HB.out) | (with_reducible refine Kd.C_alloc ?_ _) | (with_reducible refine Kd.C_drewN ?_ _) | (with_reducible refine Kd.C_drew ?_))); (case side2 => exact HC294_2.out); rintro e w' ⟨rfl, ⟨nd, rfl⟩⟩; refine ⟨_, rfl, ?_⟩))
                  go_roundg k2
                  case measure => have := HJ2.out; have := HK2.out; omega
                  case rel => exact ⟨(wrap64 (x4_2 + 1)), (by first | rfl | (simp; done) | (simp [*]; done)), H', ⟨by have := HJ2.out; have := HK2.out; omega⟩, ⟨by (with_reducible repeat (first | refine blk_drewN ?_ _ | refine blk_drew ?_ | refine blk_alloc ?_ _)); exact BK292.out⟩, ⟨by repeat (first | (with_reducible first | exact HB.out | apply below_alloc | apply pw_below_drewN | apply below_drew1 | refine below_set ?_ GE292.out) | exact HB.out)⟩⟩
                · replace c14 := Bool.eq_false_iff.mpr c14
                  subst c14
                  have H1 : (some false) = some r := by rw [if_neg (show ¬ (false = true) by decide)] at H; exact H
                  clear H
                  have H := H1
                  clear H1
                  obtain rfl := Option.some.inj H
                  have hcz16_0 : wr.cell? ⟨gb292, 0, none⟩ = some (.int .i64 a0_0) := (blk_cell BK292.out 0).trans rfl
                  have hcz16_1 : wr.cell? ⟨gb292, 1, none⟩ = some (.int .i64 a0_1) := (blk_cell BK292.out 1).trans rfl
                  have hcz16_2 : wr.cell? ⟨gb292, 2, none⟩ = some (.int .i64 a0_2) := (blk_cell BK292.out 2).trans rfl
                  have hcz16_3 : wr.cell? ⟨gb292, 3, none⟩ = some (.int .i64 a0_3) := (blk_cell BK292.out 3).trans rfl
                  have hcz16_4 : wr.cell? ⟨gb292, 4, none⟩ = some (.string a0_4) := (blk_cell BK292.out 4).trans rfl
                  have hcz16_5 : wr.cell? ⟨gb292, 5, none⟩ = some (.slice A0_5 l0_5.length c0_5) := (blk_cell BK292.out 5).trans rfl
                  have hcz16_6 : wr.cell? ⟨gb292, 6, none⟩ = some (.slice A0_6 l0_6.length c0_6) := (blk_cell BK292.out 6).trans rfl
                  have hfz16_0 := blk_frozen BK292.out 0
                  have hfz16_1 := blk_frozen BK292.out 1
                  have hfz16_2 := blk_frozen BK292.out 2
                  have hfz16_3 := blk_frozen BK292.out 3
                  have hfz16_4 := blk_frozen BK292.out 4
                  have hfz16_5 := blk_frozen BK292.out 5
                  have hfz16_6 := blk_frozen BK292.out 6
                  have p294 : 0 ≤ (x4_2 : Int) := of_decide_eq_true (by first | (with_reducible assumption) | assumption)
                  have q294 : x4_2 < (l0_6.length : Int) := of_decide_eq_true (by first | (with_reducible assumption) | assumption)
                  obtain ⟨ad294, A294_2, c294_2, e294, hx294_0, hx294_1, hx294_2, hl294_2, hi294_2⟩ := at_T58 HR0_6.out x4_2 p294 q294
                  cases e294
                  replace hx294_0 := (HB.out.cell (World.block_lt_of_cell? w _ hx294_0)).trans hx294_0
                  replace hx294_1 := (HB.out.cell (World.block_lt_of_cell? w _ hx294_1)).trans hx294_1
                  replace hx294_2 := (HB.out.cell (World.block_lt_of_cell? w _ hx294_2)).trans hx294_2
                  have HR294_2 := Aside0.mk hi294_2
                  have HC294_2 := Aside0.mk hl294_2
                  clear hi294_2 hl294_2
                  replace p294 := eq_true p294
                  replace q294 := eq_true q294
                  go_wp2_with (first | ((with_reducible refine gate_callee (f := 17) rfl ?_); refine goesL_ (some 36) rfl rfl Try.func17 (by kernel_rfl) rfl #[.slice A294_2 ((rd_T58 l0_6 x4_2).f2).length c294_2] rfl (by (try simp only [List.map_toArray, List.map_cons, List.map_nil]); first | done | rfl | (simp only [List.length_drop, List.length_take]; rfl)) ?_; (with_reducible refine (becketref12_short.calls k2 _ _ ((rd_T58 l0_6 x4_2).f2) false _ ?side1 ?side2 A13.out).mono ?_); (case side1 => repeat (first | exact (Kd.C_below HR294_2.out HB.out) | (with_reducible refine Kd.C_alloc ?_ _) | (with_reducible refine Kd.C_drewN ?_ _) | (with_reducible refine Kd.C_drew ?_))); (case side2 => exact HC294_2.out); rintro e w' ⟨rfl, ⟨nd, rfl⟩⟩; refine ⟨_, rfl, ?_⟩))
                  go_ret
                  exact ⟨by first | rfl | (simp [errW_none, errW_some] <;> rfl) | (simp [*, errW_none, errW_some] <;> rfl), by repeat (first | (with_reducible first | exact HB.out | apply below_alloc | apply pw_below_drewN | apply below_drew1 | refine below_set ?_ GE292.out) | exact HB.out)⟩
              · rw [if_neg c12] at H
                exact absurd H (by simp)
            · rw [if_neg c11] at H
              have c11b0 : decide (x4_2 < (l0_6.length : Int)) = false := decide_eq_false c11
              clear c11
              obtain rfl := Option.some.inj H
              have hcz17_0 : wr.cell? ⟨gb292, 0, none⟩ = some (.int .i64 a0_0) := (blk_cell BK292.out 0).trans rfl
              have hcz17_1 : wr.cell? ⟨gb292, 1, none⟩ = some (.int .i64 a0_1) := (blk_cell BK292.out 1).trans rfl
              have hcz17_2 : wr.cell? ⟨gb292, 2, none⟩ = some (.int .i64 a0_2) := (blk_cell BK292.out 2).trans rfl
              have hcz17_3 : wr.cell? ⟨gb292, 3, none⟩ = some (.int .i64 a0_3) := (blk_cell BK292.out 3).trans rfl
              have hcz17_4 : wr.cell? ⟨gb292, 4, none⟩ = some (.string a0_4) := (blk_cell BK292.out 4).trans rfl
              have hcz17_5 : wr.cell? ⟨gb292, 5, none⟩ = some (.slice A0_5 l0_5.length c0_5) := (blk_cell BK292.out 5).trans rfl
              have hcz17_6 : wr.cell? ⟨gb292, 6, none⟩ = some (.slice A0_6 l0_6.length c0_6) := (blk_cell BK292.out 6).trans rfl
              have hfz17_0 := blk_frozen BK292.out 0
              have hfz17_1 := blk_frozen BK292.out 1
              have hfz17_2 := blk_frozen BK292.out 2
              have hfz17_3 := blk_frozen BK292.out 3
              have hfz17_4 := blk_frozen BK292.out 4
              have hfz17_5 := blk_frozen BK292.out 5
              have hfz17_6 := blk_frozen BK292.out 6
              go_wp2
              go_ret
              exact ⟨by first | rfl | (simp [errW_none, errW_some] <;> rfl) | (simp [*, errW_none, errW_some] <;> rfl), by repeat (first | (with_reducible first | exact HB.out | apply below_alloc | apply pw_below_drewN | apply below_drew1 | refine below_set ?_ GE292.out) | exact HB.out)⟩
end Go.Proofs.Ytkaoojcafefjjaa.Ms
