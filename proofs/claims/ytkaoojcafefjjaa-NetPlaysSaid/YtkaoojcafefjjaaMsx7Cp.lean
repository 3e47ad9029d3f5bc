-- Cut by a program of this session (wip/shake.py) out of a text of this seat: what this claim doesn't reach is struck out. Lean checks it.
import Derived.Test.YtkaoojcafefjjaaMsx0Cp
namespace Go.Proofs.Ytkaoojcafefjjaa.Ms
open Go.RowKit Go.Proofs.YtkaoojcafefjjaaW.PrintWords Go.Proofs.YtkaoojcafefjjaaW.PrintLast Go.Proofs.YtkaoojcafefjjaaW.PrintMore
attribute [local go_sem] max2_int min2_int max_two min_two max_three min_three max_four min_four   -- for this text's walks alone
set_option linter.unusedVariables false
set_option linter.unusedSimpArgs false
attribute [local go_sem] eqlErr neqErr eqlErrNil neqErrNil
open Go.Proofs.Ytkaoojcafefjjaa.Mw
def becketref12_in.f (a0 : Int) (a1 : Int) : Option (Bool) := if a0 ≥ 0 then (some (decide (a0 ≤ a1))) else (some false)
set_option maxHeartbeats 8000000 in
set_option maxRecDepth 100000 in
theorem becketref12_in.calls (a0 : Int) (a1 : Int) (r : Bool) (w : World) (h : becketref12_in.f a0 a1 = some r) :
    Calls Try.prog 27 #[.int .i64 a0, .int .i64 a1] w fun e w' => e = .returned (.bool r) ∧ Drawn0 w w' := by
  have H : (if a0 ≥ 0 then (some (decide (a0 ≤ a1))) else (some false)) = some r := h
  clear h
  by_cases c3 : a0 ≥ 0
  · rw [if_pos c3] at H
    have c3b0 : decide (0 ≤ a0) = true := decide_eq_true c3
    clear c3
    obtain rfl := Option.some.inj H
    go_enter Try.func27, Try.ntmps27
    go_wp2
    go_ret
    exact ⟨by first | rfl | (simp; done) | (simp [*]; done), by repeat (first | exact Drawn0.refl _ | apply Drawn0.step)⟩
  · rw [if_neg c3] at H
    have c3b0 : decide (0 ≤ a0) = false := decide_eq_false c3
    clear c3
    obtain rfl := Option.some.inj H
    go_enter Try.func27, Try.ntmps27
    go_wp2
    go_ret
    exact ⟨by first | rfl | (simp; done) | (simp [*]; done), by repeat (first | exact Drawn0.refl _ | apply Drawn0.step)⟩
mutual
def becketref12_proofs.l0 : Nat → List (S68) → Int → Option (Bool)
  | 0, _, _ => none
  | k + 1, x0, x3 => if x3 < (x0.length : Int) then (if 0 ≤ x3 then ((becketref12_in.f ((rd_T68 x0 x3).f0) 64).bind fun t172 => (if t172 = true then ((becketref12_in.f ((rd_T68 x0 x3).f1) 64).bind fun t173 => (if t173 = true then (if (((rd_T68 x0 x3).f2).size : Int) > 4096 then (becketref12_proofs.j1 k x0 x3 true ((rd_T68 x0 x3).f0) ((rd_T68 x0 x3).f1) ((rd_T68 x0 x3).f2) ((rd_T68 x0 x3).f3)) else (becketref12_proofs.j1 k x0 x3 (decide ((((rd_T68 x0 x3).f3).length : Int) > 13)) ((rd_T68 x0 x3).f0) ((rd_T68 x0 x3).f1) ((rd_T68 x0 x3).f2) ((rd_T68 x0 x3).f3))) else (becketref12_proofs.j1 k x0 x3 true ((rd_T68 x0 x3).f0) ((rd_T68 x0 x3).f1) ((rd_T68 x0 x3).f2) ((rd_T68 x0 x3).f3)))) else (becketref12_proofs.j1 k x0 x3 true ((rd_T68 x0 x3).f0) ((rd_T68 x0 x3).f1) ((rd_T68 x0 x3).f2) ((rd_T68 x0 x3).f3)))) else (none)) else (some true)
def becketref12_proofs.j1 : Nat → List (S68) → Int → Bool → Int → Int → ByteArray → List Int → Option (Bool)
  | 0, _, _, _, _, _, _, _ => none
  | k + 1, x0, x3, x40, x172000, x172001, x172002, x172003 => if x40 = true then (some false) else (becketref12_proofs.l1 k x0 x3 0 x172000 x172001 x172002 x172003)
def becketref12_proofs.l1 : Nat → List (S68) → Int → Int → Int → Int → ByteArray → List Int → Option (Bool)
  | 0, _, _, _, _, _, _, _ => none
  | k + 1, x0, x3, x5, x172000, x172001, x172002, x172003 => if x5 < (x172003.length : Int) then (if 0 ≤ x5 then ((becketref12_in.f (rd x172003 x5) 12).bind fun t175 => (if t175 = true then (becketref12_proofs.l1 k x0 x3 (wrap64 (x5 + 1)) x172000 x172001 x172002 x172003) else (some false))) else (none)) else (becketref12_proofs.l0 k x0 (wrap64 (x3 + 1)))
end
def becketref12_proofs.f (k : Nat) (l0 : List (S68)) : Option (Bool) := if (l0.length : Int) > 64 then (some false) else (becketref12_proofs.l0 k l0 0)
set_option maxHeartbeats 8000000 in
set_option maxRecDepth 100000 in
theorem becketref12_proofs.calls (k : Nat) (A0 : Option Addr) (c0 : Nat) (l0 : List (S68)) (r : Bool) (w : World) (hr0 : Kd.C k68 w A0 l0.length l0) (hc0 : l0.length ≤ c0) (h : becketref12_proofs.f k l0 = some r) :
    Calls Try.prog 28 #[.slice A0 l0.length c0] w fun e w' => e = .returned (.bool r) ∧ Below w.heap.size w w' := by
  have hu68 := Try.underlying68
  have HR0 := Aside0.mk hr0
  have HC0 := Aside0.mk hc0
  clear hr0 hc0
  have HB := Aside0.mk (Below.refl w.heap.size w)
  have H : (if (l0.length : Int) > 64 then (some false) else (becketref12_proofs.l0 k l0 0)) = some r := h
  clear h
  by_cases c2 : (l0.length : Int) > 64
  · rw [if_pos c2] at H
    have c2b0 : decide (64 < (l0.length : Int)) = true := decide_eq_true c2
    have c2b1 : decide (64 < l0.length) = true := decide_eq_true (by omega)
    clear c2
    obtain rfl := Option.some.inj H
    go_enter Try.func28, Try.ntmps28
    go_wp2
    go_ret
    exact ⟨by first | rfl | (simp [errW_none, errW_some] <;> rfl) | (simp [*, errW_none, errW_some] <;> rfl), by repeat (first | (with_reducible first | exact HB.out | apply below_alloc | apply pw_below_drewN | apply below_drew1) | exact HB.out)⟩
  · rw [if_neg c2] at H
    have c2b0 : decide (64 < (l0.length : Int)) = false := decide_eq_false c2
    have c2b1 : decide (64 < l0.length) = false := decide_eq_false (by omega)
    clear c2
    have H' := Aside0.mk H
    clear H
    go_enter Try.func28, Try.ntmps28
    go_wp2
    go_loopg [3] k (fun kq v3 w' => ∃ (x3_1 : Int), v3 = .int .i64 x3_1 ∧ Aside0 (becketref12_proofs.l0 kq l0 x3_1 = some r) ∧ Aside0 (kq ≤ k) ∧ Aside0 (Below w.heap.size w w'))
    case atStart => exact ⟨(0), (by first | rfl | (simp; done) | (simp [*]; done)), H', ⟨Nat.le_refl _⟩, ⟨by repeat (first | (with_reducible first | exact HB.out | apply below_alloc | apply pw_below_drewN | apply below_drew1) | exact HB.out)⟩⟩
    case round =>
      clear H'
      try clear c2
      try clear c2b0
      try clear c2b1
      try clear p2
      obtain ⟨x3_1, rfl, HA, HK1, HB⟩ := hrel
      cases gk with
      | zero => exact absurd HA.out (by simp [becketref12_proofs.l0])
      | succ k1 =>
        have H := HA.out
        clear HA
        simp only [becketref12_proofs.l0] at H
        by_cases c3 : x3_1 < (l0.length : Int)
        · rw [if_pos c3] at H
          have c3b0 : decide (x3_1 < (l0.length : Int)) = true := decide_eq_true c3
          clear c3
          by_cases c4 : 0 ≤ x3_1
          · rw [if_pos c4] at H
            have c4b0 : decide (0 ≤ x3_1) = true := decide_eq_true c4
            clear c4
            have HC5 := Aside0.mk H
            clear H
            have p170 : 0 ≤ (x3_1 : Int) := of_decide_eq_true (by first | (with_reducible assumption) | assumption)
            have q170 : x3_1 < (l0.length : Int) := of_decide_eq_true (by first | (with_reducible assumption) | assumption)
            obtain ⟨ad170, A170_3, c170_3, e170, hx170_0, hx170_1, hx170_2, hx170_3, hl170_3, hi170_3⟩ := at_T68 HR0.out x3_1 p170 q170
            cases e170
            replace hx170_0 := (HB.out.cell (World.block_lt_of_cell? w _ hx170_0)).trans hx170_0
            replace hx170_1 := (HB.out.cell (World.block_lt_of_cell? w _ hx170_1)).trans hx170_1
            replace hx170_2 := (HB.out.cell (World.block_lt_of_cell? w _ hx170_2)).trans hx170_2
            replace hx170_3 := (HB.out.cell (World.block_lt_of_cell? w _ hx170_3)).trans hx170_3
            have HR170_3 := Aside0.mk hi170_3
            have HC170_3 := Aside0.mk hl170_3
            clear hi170_3 hl170_3
            replace p170 := eq_true p170
            replace q170 := eq_true q170
            go_upto_region 7 with (first | ((with_reducible refine gate_dst (N := 4) rfl ?_); (try (refine gate_guard (by rfl) ?_; dsimp only)); refine box_event ?hg (N := 4) ?hd (cs := #[.int .i64 0, .int .i64 0, .string (⟨#[]⟩ : ByteArray), .slice none 0 0]) (t := 68) ?hr ?_; (case hd => rfl); (case hg => rfl); (case hr => first | (go_simp; done) | (go_simp; rfl)); intro gb171 hg w6 hbox hb; have n0_ := Aside0.mk (below_step (by repeat (first | (with_reducible first | exact HB.out | apply below_alloc | apply pw_below_drewN | apply below_drew1) | exact HB.out)) hb); have n1_ := Aside0.mk (hbox); have n2_ := Aside0.mk ((by rw [hg]; exact (below_size (by repeat (first | (with_reducible first | exact HB.out | apply below_alloc | apply pw_below_drewN | apply below_drew1) | exact HB.out))) : w.heap.size ≤ gb171)); have n3_ := Aside0.mk ((by rw [hg]; exact (below_size (by repeat (first | (with_reducible first | exact HB.out | apply below_alloc | apply pw_below_drewN | apply below_drew1) | exact HB.out))) : w.heap.size ≤ gb171)); clear HB; have HB := n0_; have BK171 := n1_; have GW171 := n2_; have GE171 := n3_; clear n0_ n1_ n2_ n3_; clear hb hbox hg; have hcz7_0 : w6.cell? ⟨gb171, 0, none⟩ = some (.int .i64 0) := (blk_cell BK171.out 0).trans rfl; have hcz7_1 : w6.cell? ⟨gb171, 1, none⟩ = some (.int .i64 0) := (blk_cell BK171.out 1).trans rfl; have hcz7_2 : w6.cell? ⟨gb171, 2, none⟩ = some (.string (⟨#[]⟩ : ByteArray)) := (blk_cell BK171.out 2).trans rfl; have hcz7_3 : w6.cell? ⟨gb171, 3, none⟩ = some (.slice none 0 0) := (blk_cell BK171.out 3).trans rfl; have hfz7_0 := blk_frozen BK171.out 0; have hfz7_1 := blk_frozen BK171.out 1; have hfz7_2 := blk_frozen BK171.out 2; have hfz7_3 := blk_frozen BK171.out 3))
            (try simp only [Act.put, List.setIfInBounds_toArray, List.set_cons_zero, List.set_cons_succ])
            go_cut [40] (fun v40 wc => ∃ (kq : Nat) (x40_4 : Bool), v40 = .bool x40_4 ∧ Aside0 (becketref12_proofs.j1 kq l0 x3_1 x40_4 ((rd_T68 l0 x3_1).f0) ((rd_T68 l0 x3_1).f1) ((rd_T68 l0 x3_1).f2) ((rd_T68 l0 x3_1).f3) = some r) ∧ Aside0 (kq ≤ k1) ∧ Aside0 (wc.heap[gb171]? = some (.cells #[.int .i64 ((rd_T68 l0 x3_1).f0), .int .i64 ((rd_T68 l0 x3_1).f1), .string ((rd_T68 l0 x3_1).f2), (.slice A170_3 ((rd_T68 l0 x3_1).f3).length c170_3)] 68 (0, 0))) ∧ Aside0 (Below w.heap.size w wc))
            case first =>
              have H := HC5.out
              clear HC5
              replace H := Option.bind_eq_some_iff.mp H
              obtain ⟨t172, A80, H⟩ := H
              replace H : (if t172 = true then ((becketref12_in.f ((rd_T68 l0 x3_1).f1) 64).bind fun t173 => (if t173 = true then (if (((rd_T68 l0 x3_1).f2).size : Int) > 4096 then (becketref12_proofs.j1 k1 l0 x3_1 true ((rd_T68 l0 x3_1).f0) ((rd_T68 l0 x3_1).f1) ((rd_T68 l0 x3_1).f2) ((rd_T68 l0 x3_1).f3)) else (becketref12_proofs.j1 k1 l0 x3_1 (decide ((((rd_T68 l0 x3_1).f3).length : Int) > 13)) ((rd_T68 l0 x3_1).f0) ((rd_T68 l0 x3_1).f1) ((rd_T68 l0 x3_1).f2) ((rd_T68 l0 x3_1).f3))) else (becketref12_proofs.j1 k1 l0 x3_1 true ((rd_T68 l0 x3_1).f0) ((rd_T68 l0 x3_1).f1) ((rd_T68 l0 x3_1).f2) ((rd_T68 l0 x3_1).f3)))) else (becketref12_proofs.j1 k1 l0 x3_1 true ((rd_T68 l0 x3_1).f0) ((rd_T68 l0 x3_1).f1) ((rd_T68 l0 x3_1).f2) ((rd_T68 l0 x3_1).f3))) = some r := H
              have A8 := Aside0.mk A80
              clear A80
              by_cases c9 : t172 = true
              · subst c9
                have H1 : ((becketref12_in.f ((rd_T68 l0 x3_1).f1) 64).bind fun t173 => (if t173 = true then (if (((rd_T68 l0 x3_1).f2).size : Int) > 4096 then (becketref12_proofs.j1 k1 l0 x3_1 true ((rd_T68 l0 x3_1).f0) ((rd_T68 l0 x3_1).f1) ((rd_T68 l0 x3_1).f2) ((rd_T68 l0 x3_1).f3)) else (becketref12_proofs.j1 k1 l0 x3_1 (decide ((((rd_T68 l0 x3_1).f3).length : Int) > 13)) ((rd_T68 l0 x3_1).f0) ((rd_T68 l0 x3_1).f1) ((rd_T68 l0 x3_1).f2) ((rd_T68 l0 x3_1).f3))) else (becketref12_proofs.j1 k1 l0 x3_1 true ((rd_T68 l0 x3_1).f0) ((rd_T68 l0 x3_1).f1) ((rd_T68 l0 x3_1).f2) ((rd_T68 l0 x3_1).f3)))) = some r := by first | (rw [if_pos rfl] at H; with_reducible exact H) | exact (if_pos rfl).symm.trans H | (simp only [if_true, eq_self_iff_true] at H ⊢; exact H)
                clear H
                have H := H1
                clear H1
                replace H := Option.bind_eq_some_iff.mp H
                obtain ⟨t173, A100, H⟩ := H
                replace H : (if t173 = true then (if (((rd_T68 l0 x3_1).f2).size : Int) > 4096 then (becketref12_proofs.j1 k1 l0 x3_1 true ((rd_T68 l0 x3_1).f0) ((rd_T68 l0 x3_1).f1) ((rd_T68 l0 x3_1).f2) ((rd_T68 l0 x3_1).f3)) else (becketref12_proofs.j1 k1 l0 x3_1 (decide ((((rd_T68 l0 x3_1).f3).length : Int) > 13)) ((rd_T68 l0 x3_1).f0) ((rd_T68 l0 x3_1).f1) ((rd_T68 l0 x3_1).f2) ((rd_T68 l0 x3_1).f3))) else (becketref12_proofs.j1 k1 l0 x3_1 true ((rd_T68 l0 x3_1).f0) ((rd_T68 l0 x3_1).f1) ((rd_T68 l0 x3_1).f2) ((rd_T68 l0 x3_1).f3))) = some r := H
                have A10 := Aside0.mk A100
                clear A100
                by_cases c11 : t173 = true
                · subst c11
                  have H1 : (if (((rd_T68 l0 x3_1).f2).size : Int) > 4096 then (becketref12_proofs.j1 k1 l0 x3_1 true ((rd_T68 l0 x3_1).f0) ((rd_T68 l0 x3_1).f1) ((rd_T68 l0 x3_1).f2) ((rd_T68 l0 x3_1).f3)) else (becketref12_proofs.j1 k1 l0 x3_1 (decide ((((rd_T68 l0 x3_1).f3).length : Int) > 13)) ((rd_T68 l0 x3_1).f0) ((rd_T68 l0 x3_1).f1) ((rd_T68 l0 x3_1).f2) ((rd_T68 l0 x3_1).f3))) = some r := by first | (rw [if_pos rfl] at H; with_reducible exact H) | exact (if_pos rfl).symm.trans H | (simp only [if_true, eq_self_iff_true] at H ⊢; exact H)
                  clear H
                  have H := H1
                  clear H1
                  by_cases c12 : (((rd_T68 l0 x3_1).f2).size : Int) > 4096
                  · rw [if_pos c12] at H
                    have c12b0 : decide (4096 < (((rd_T68 l0 x3_1).f2).size : Int)) = true := decide_eq_true c12
                    have c12b1 : decide (4096 < ((rd_T68 l0 x3_1).f2).size) = true := decide_eq_true (by omega)
                    clear c12
                    (first | rw [c12b0] | (simp only [i64_w, i32_w]; rw [c12b0]) | skip)
                    have H' := Aside0.mk H
                    clear H
                    have hcz13_0 : w6.cell? ⟨gb171, 0, none⟩ = some (.int .i64 0) := (blk_cell BK171.out 0).trans rfl
                    have hcz13_1 : w6.cell? ⟨gb171, 1, none⟩ = some (.int .i64 0) := (blk_cell BK171.out 1).trans rfl
                    have hcz13_2 : w6.cell? ⟨gb171, 2, none⟩ = some (.string (⟨#[]⟩ : ByteArray)) := (blk_cell BK171.out 2).trans rfl
                    have hcz13_3 : w6.cell? ⟨gb171, 3, none⟩ = some (.slice none 0 0) := (blk_cell BK171.out 3).trans rfl
                    have hfz13_0 := blk_frozen BK171.out 0
                    have hfz13_1 := blk_frozen BK171.out 1
                    have hfz13_2 := blk_frozen BK171.out 2
                    have hfz13_3 := blk_frozen BK171.out 3
                    go_wp2_with (first | ((with_reducible refine gate_callee (f := 27) rfl ?_); refine goesL_ (some 21) rfl rfl Try.func27 (by kernel_rfl) rfl #[.int .i64 ((rd_T68 l0 x3_1).f0), .int .i64 64] rfl (by (try simp only [List.map_toArray, List.map_cons, List.map_nil]); first | done | rfl | (simp only [List.length_drop, List.length_take]; rfl)) ?_; (with_reducible refine (becketref12_in.calls ((rd_T68 l0 x3_1).f0) 64 true _ A8.out).mono ?_); rintro e w' ⟨rfl, ⟨nd, rfl⟩⟩; refine ⟨_, rfl, ?_⟩) | (go_at_call 27; (with_reducible refine (becketref12_in.calls ((rd_T68 l0 x3_1).f1) 64 true _ A10.out).mono ?_); rintro e w' ⟨rfl, ⟨nd, rfl⟩⟩))
                    go_meet
                    case rel => exact ⟨_, (true), (by first | rfl | (simp; done) | (simp [*]; done)), H', ⟨by have := HK1.out; first | omega | exact Nat.le_refl _⟩, ⟨by (with_reducible repeat (first | refine blk_drewN ?_ _ | refine blk_drew ?_ | refine blk_alloc ?_ _)); refine blk_put (cs := #[.int .i64 ((rd_T68 l0 x3_1).f0), .int .i64 ((rd_T68 l0 x3_1).f1), .string ((rd_T68 l0 x3_1).f2), .slice none 0 0]) ?_ 3 _ rfl; (with_reducible repeat (first | refine blk_drewN ?_ _ | refine blk_drew ?_ | refine blk_alloc ?_ _)); refine blk_put (cs := #[.int .i64 ((rd_T68 l0 x3_1).f0), .int .i64 ((rd_T68 l0 x3_1).f1), .string (⟨#[]⟩ : ByteArray), .slice none 0 0]) ?_ 2 _ rfl; (with_reducible repeat (first | refine blk_drewN ?_ _ | refine blk_drew ?_ | refine blk_alloc ?_ _)); refine blk_put (cs := #[.int .i64 ((rd_T68 l0 x3_1).f0), .int .i64 0, .string (⟨#[]⟩ : ByteArray), .slice none 0 0]) ?_ 1 _ rfl; (with_reducible repeat (first | refine blk_drewN ?_ _ | refine blk_drew ?_ | refine blk_alloc ?_ _)); refine blk_put (cs := #[.int .i64 0, .int .i64 0, .string (⟨#[]⟩ : ByteArray), .slice none 0 0]) ?_ 0 _ rfl; (with_reducible repeat (first | refine blk_drewN ?_ _ | refine blk_drew ?_ | refine blk_alloc ?_ _)); exact BK171.out⟩, ⟨by repeat (first | (with_reducible first | exact HB.out | apply below_alloc | apply pw_below_drewN | apply below_drew1 | refine below_set ?_ GE171.out) | exact HB.out)⟩⟩
                  · rw [if_neg c12] at H
                    have c12b0 : decide (4096 < (((rd_T68 l0 x3_1).f2).size : Int)) = false := decide_eq_false c12
                    have c12b1 : decide (4096 < ((rd_T68 l0 x3_1).f2).size) = false := decide_eq_false (by omega)
                    clear c12
                    (first | rw [c12b0] | (simp only [i64_w, i32_w]; rw [c12b0]) | skip)
                    have H' := Aside0.mk H
                    clear H
                    have hcz14_0 : w6.cell? ⟨gb171, 0, none⟩ = some (.int .i64 0) := (blk_cell BK171.out 0).trans rfl
                    have hcz14_1 : w6.cell? ⟨gb171, 1, none⟩ = some (.int .i64 0) := (blk_cell BK171.out 1).trans rfl
                    have hcz14_2 : w6.cell? ⟨gb171, 2, none⟩ = some (.string (⟨#[]⟩ : ByteArray)) := (blk_cell BK171.out 2).trans rfl
                    have hcz14_3 : w6.cell? ⟨gb171, 3, none⟩ = some (.slice none 0 0) := (blk_cell BK171.out 3).trans rfl
                    have hfz14_0 := blk_frozen BK171.out 0
                    have hfz14_1 := blk_frozen BK171.out 1
                    have hfz14_2 := blk_frozen BK171.out 2
                    have hfz14_3 := blk_frozen BK171.out 3
                    go_wp2_with (first | ((with_reducible refine gate_callee (f := 27) rfl ?_); refine goesL_ (some 21) rfl rfl Try.func27 (by kernel_rfl) rfl #[.int .i64 ((rd_T68 l0 x3_1).f0), .int .i64 64] rfl (by (try simp only [List.map_toArray, List.map_cons, List.map_nil]); first | done | rfl | (simp only [List.length_drop, List.length_take]; rfl)) ?_; (with_reducible refine (becketref12_in.calls ((rd_T68 l0 x3_1).f0) 64 true _ A8.out).mono ?_); rintro e w' ⟨rfl, ⟨nd, rfl⟩⟩; refine ⟨_, rfl, ?_⟩) | (go_at_call 27; (with_reducible refine (becketref12_in.calls ((rd_T68 l0 x3_1).f1) 64 true _ A10.out).mono ?_); rintro e w' ⟨rfl, ⟨nd, rfl⟩⟩))
                    go_meet
                    case rel => exact ⟨_, (decide ((((rd_T68 l0 x3_1).f3).length : Int) > 13)), (by first | rfl | (simp; done) | (simp [*]; done)), H', ⟨by have := HK1.out; first | omega | exact Nat.le_refl _⟩, ⟨by (with_reducible repeat (first | refine blk_drewN ?_ _ | refine blk_drew ?_ | refine blk_alloc ?_ _)); refine blk_put (cs := #[.int .i64 ((rd_T68 l0 x3_1).f0), .int .i64 ((rd_T68 l0 x3_1).f1), .string ((rd_T68 l0 x3_1).f2), .slice none 0 0]) ?_ 3 _ rfl; (with_reducible repeat (first | refine blk_drewN ?_ _ | refine blk_drew ?_ | refine blk_alloc ?_ _)); refine blk_put (cs := #[.int .i64 ((rd_T68 l0 x3_1).f0), .int .i64 ((rd_T68 l0 x3_1).f1), .string (⟨#[]⟩ : ByteArray), .slice none 0 0]) ?_ 2 _ rfl; (with_reducible repeat (first | refine blk_drewN ?_ _ | refine blk_drew ?_ | refine blk_alloc ?_ _)); refine blk_put (cs := #[.int .i64 ((rd_T68 l0 x3_1).f0), .int .i64 0, .string (⟨#[]⟩ : ByteArray), .slice none 0 0]) ?_ 1 _ rfl; (with_reducible repeat (first | refine blk_drewN ?_ _ | refine blk_drew ?_ | refine blk_alloc ?_ _)); refine blk_put (cs := #[.int .i64 0, .int .i64 0, .string (⟨#[]⟩ : ByteArray), .slice none 0 0]) ?_ 0 _ rfl; (with_reducible repeat (first | refine blk_drewN ?_ _ | refine blk_drew ?_ | refine blk_alloc ?_ _)); exact BK171.out⟩, ⟨by repeat (first | (with_reducible first | exact HB.out | apply below_alloc | apply pw_below_drewN | apply below_drew1 | refine below_set ?_ GE171.out) | exact HB.out)⟩⟩
                · replace c11 := Bool.eq_false_iff.mpr c11
                  subst c11
                  have H1 : (becketref12_proofs.j1 k1 l0 x3_1 true ((rd_T68 l0 x3_1).f0) ((rd_T68 l0 x3_1).f1) ((rd_T68 l0 x3_1).f2) ((rd_T68 l0 x3_1).f3)) = some r := by rw [if_neg (show ¬ (false = true) by decide)] at H; exact H
                  clear H
                  have H := H1
                  clear H1
                  have H' := Aside0.mk H
                  clear H
                  have hcz15_0 : w6.cell? ⟨gb171, 0, none⟩ = some (.int .i64 0) := (blk_cell BK171.out 0).trans rfl
                  have hcz15_1 : w6.cell? ⟨gb171, 1, none⟩ = some (.int .i64 0) := (blk_cell BK171.out 1).trans rfl
                  have hcz15_2 : w6.cell? ⟨gb171, 2, none⟩ = some (.string (⟨#[]⟩ : ByteArray)) := (blk_cell BK171.out 2).trans rfl
                  have hcz15_3 : w6.cell? ⟨gb171, 3, none⟩ = some (.slice none 0 0) := (blk_cell BK171.out 3).trans rfl
                  have hfz15_0 := blk_frozen BK171.out 0
                  have hfz15_1 := blk_frozen BK171.out 1
                  have hfz15_2 := blk_frozen BK171.out 2
                  have hfz15_3 := blk_frozen BK171.out 3
                  go_wp2_with (first | ((with_reducible refine gate_callee (f := 27) rfl ?_); refine goesL_ (some 21) rfl rfl Try.func27 (by kernel_rfl) rfl #[.int .i64 ((rd_T68 l0 x3_1).f0), .int .i64 64] rfl (by (try simp only [List.map_toArray, List.map_cons, List.map_nil]); first | done | rfl | (simp only [List.length_drop, List.length_take]; rfl)) ?_; (with_reducible refine (becketref12_in.calls ((rd_T68 l0 x3_1).f0) 64 true _ A8.out).mono ?_); rintro e w' ⟨rfl, ⟨nd, rfl⟩⟩; refine ⟨_, rfl, ?_⟩) | (go_at_call 27; (with_reducible refine (becketref12_in.calls ((rd_T68 l0 x3_1).f1) 64 false _ A10.out).mono ?_); rintro e w' ⟨rfl, ⟨nd, rfl⟩⟩))
                  go_meet
                  case rel => exact ⟨_, (true), (by first | rfl | (simp; done) | (simp [*]; done)), H', ⟨by have := HK1.out; first | omega | exact Nat.le_refl _⟩, ⟨by (with_reducible repeat (first | refine blk_drewN ?_ _ | refine blk_drew ?_ | refine blk_alloc ?_ _)); refine blk_put (cs := #[.int .i64 ((rd_T68 l0 x3_1).f0), .int .i64 ((rd_T68 l0 x3_1).f1), .string ((rd_T68 l0 x3_1).f2), .slice none 0 0]) ?_ 3 _ rfl; (with_reducible repeat (first | refine blk_drewN ?_ _ | refine blk_drew ?_ | refine blk_alloc ?_ _)); refine blk_put (cs := #[.int .i64 ((rd_T68 l0 x3_1).f0), .int .i64 ((rd_T68 l0 x3_1).f1), .string (⟨#[]⟩ : ByteArray), .slice none 0 0]) ?_ 2 _ rfl; (with_reducible repeat (first | refine blk_drewN ?_ _ | refine blk_drew ?_ | refine blk_alloc ?_ _)); refine blk_put (cs := #[.int .i64 ((rd_T68 l0 x3_1).f0), .int .i64 0, .string (⟨#[]⟩ : ByteArray), .slice none 0 0]) ?_ 1 _ rfl; (with_reducible repeat (first | refine blk_drewN ?_ _ | refine blk_drew ?_ | refine blk_alloc ?_ _)); refine blk_put (cs := #[.int .i64 0, .int .i64 0, .string (⟨#[]⟩ : ByteArray), .slice none 0 0]) ?_ 0 _ rfl; (with_reducible repeat (first | refine blk_drewN ?_ _ | refine blk_drew ?_ | refine blk_alloc ?_ _)); exact BK171.out⟩, ⟨by repeat (first | (with_reducible first | exact HB.out | apply below_alloc | apply pw_below_drewN | apply below_drew1 | refine below_set ?_ GE171.out) | exact HB.out)⟩⟩
              · replace c9 := Bool.eq_false_iff.mpr c9
                subst c9
                have H1 : (becketref12_proofs.j1 k1 l0 x3_1 true ((rd_T68 l0 x3_1).f0) ((rd_T68 l0 x3_1).f1) ((rd_T68 l0 x3_1).f2) ((rd_T68 l0 x3_1).f3)) = some r := by rw [if_neg (show ¬ (false = true) by decide)] at H; exact H
                clear H
                have H := H1
                clear H1
                have H' := Aside0.mk H
                clear H
                have hcz16_0 : w6.cell? ⟨gb171, 0, none⟩ = some (.int .i64 0) := (blk_cell BK171.out 0).trans rfl
                have hcz16_1 : w6.cell? ⟨gb171, 1, none⟩ = some (.int .i64 0) := (blk_cell BK171.out 1).trans rfl
                have hcz16_2 : w6.cell? ⟨gb171, 2, none⟩ = some (.string (⟨#[]⟩ : ByteArray)) := (blk_cell BK171.out 2).trans rfl
                have hcz16_3 : w6.cell? ⟨gb171, 3, none⟩ = some (.slice none 0 0) := (blk_cell BK171.out 3).trans rfl
                have hfz16_0 := blk_frozen BK171.out 0
                have hfz16_1 := blk_frozen BK171.out 1
                have hfz16_2 := blk_frozen BK171.out 2
                have hfz16_3 := blk_frozen BK171.out 3
                go_wp2_with (first | ((with_reducible refine gate_callee (f := 27) rfl ?_); refine goesL_ (some 21) rfl rfl Try.func27 (by kernel_rfl) rfl #[.int .i64 ((rd_T68 l0 x3_1).f0), .int .i64 64] rfl (by (try simp only [List.map_toArray, List.map_cons, List.map_nil]); first | done | rfl | (simp only [List.length_drop, List.length_take]; rfl)) ?_; (with_reducible refine (becketref12_in.calls ((rd_T68 l0 x3_1).f0) 64 false _ A8.out).mono ?_); rintro e w' ⟨rfl, ⟨nd, rfl⟩⟩; refine ⟨_, rfl, ?_⟩))
                go_meet
                case rel => exact ⟨_, (true), (by first | rfl | (simp; done) | (simp [*]; done)), H', ⟨by have := HK1.out; first | omega | exact Nat.le_refl _⟩, ⟨by (with_reducible repeat (first | refine blk_drewN ?_ _ | refine blk_drew ?_ | refine blk_alloc ?_ _)); refine blk_put (cs := #[.int .i64 ((rd_T68 l0 x3_1).f0), .int .i64 ((rd_T68 l0 x3_1).f1), .string ((rd_T68 l0 x3_1).f2), .slice none 0 0]) ?_ 3 _ rfl; (with_reducible repeat (first | refine blk_drewN ?_ _ | refine blk_drew ?_ | refine blk_alloc ?_ _)); refine blk_put (cs := #[.int .i64 ((rd_T68 l0 x3_1).f0), .int .i64 ((rd_T68 l0 x3_1).f1), .string (⟨#[]⟩ : ByteArray), .slice none 0 0]) ?_ 2 _ rfl; (with_reducible repeat (first | refine blk_drewN ?_ _ | refine blk_drew ?_ | refine blk_alloc ?_ _)); refine blk_put (cs := #[.int .i64 ((rd_T68 l0 x3_1).f0), .int .i64 0, .string (⟨#[]⟩ : ByteArray), .slice none 0 0]) ?_ 1 _ rfl; (with_reducible repeat (first | refine blk_drewN ?_ _ | refine blk_drew ?_ | refine blk_alloc ?_ _)); refine blk_put (cs := #[.int .i64 0, .int .i64 0, .string (⟨#[]⟩ : ByteArray), .slice none 0 0]) ?_ 0 _ rfl; (with_reducible repeat (first | refine blk_drewN ?_ _ | refine blk_drew ?_ | refine blk_alloc ?_ _)); exact BK171.out⟩, ⟨by repeat (first | (with_reducible first | exact HB.out | apply below_alloc | apply pw_below_drewN | apply below_drew1 | refine below_set ?_ GE171.out) | exact HB.out)⟩⟩
            case rest =>
              clear HC5
              try clear c1
              try clear p1
              try clear q1
              try clear hx1
              try clear c2
              try clear c2b0
              try clear c2b1
              try clear p2
              try clear c3
              try clear c3b0
              try clear c4
              try clear c4b0
              try clear c9
              try clear c11
              try clear c12
              try clear c12b0
              try clear c12b1
              try clear hcz13_0
              try clear hcz13_1
              try clear hcz13_2
              try clear hcz13_3
              try clear hcz14_0
              try clear hcz14_1
              try clear hcz14_2
              try clear hcz14_3
              try clear hcz15_0
              try clear hcz15_1
              try clear hcz15_2
              try clear hcz15_3
              try clear hcz16_0
              try clear hcz16_1
              try clear hcz16_2
              try clear hcz16_3
              try clear hcz7_0
              try clear hcz7_1
              try clear hcz7_2
              try clear hcz7_3
              try clear hfz13_0
              try clear hfz13_1
              try clear hfz13_2
              try clear hfz13_3
              try clear hfz14_0
              try clear hfz14_1
              try clear hfz14_2
              try clear hfz14_3
              try clear hfz15_0
              try clear hfz15_1
              try clear hfz15_2
              try clear hfz15_3
              try clear hfz16_0
              try clear hfz16_1
              try clear hfz16_2
              try clear hfz16_3
              try clear hfz7_0
              try clear hfz7_1
              try clear hfz7_2
              try clear hfz7_3
              try clear hx170_0
              try clear hx170_1
              try clear hx170_2
              try clear hx170_3
              try clear p170
              try clear p2
              try clear q170
              obtain ⟨kq, x40_4, rfl, HA, HJ4, BK171, HB⟩ := hcut
              cases kq with
              | zero => exact absurd HA.out (by simp [becketref12_proofs.j1])
              | succ kj4 =>
                have H := HA.out
                clear HA
                simp only [becketref12_proofs.j1] at H
                by_cases c17 : x40_4 = true
                · subst c17
                  have H1 : (some false) = some r := by first | (rw [if_pos rfl] at H; with_reducible exact H) | exact (if_pos rfl).symm.trans H | (simp only [if_true, eq_self_iff_true] at H ⊢; exact H)
                  clear H
                  have H := H1
                  clear H1
                  obtain rfl := Option.some.inj H
                  go_wp2
                  go_ret
                  exact ⟨by first | rfl | (simp [errW_none, errW_some] <;> rfl) | (simp [*, errW_none, errW_some] <;> rfl), by repeat (first | (with_reducible first | exact HB.out | apply below_alloc | apply pw_below_drewN | apply below_drew1 | refine below_set ?_ GE171.out) | exact HB.out)⟩
                · replace c17 := Bool.eq_false_iff.mpr c17
                  subst c17
                  have H1 : (becketref12_proofs.l1 kj4 l0 x3_1 0 ((rd_T68 l0 x3_1).f0) ((rd_T68 l0 x3_1).f1) ((rd_T68 l0 x3_1).f2) ((rd_T68 l0 x3_1).f3)) = some r := by rw [if_neg (show ¬ (false = true) by decide)] at H; exact H
                  clear H
                  have H := H1
                  clear H1
                  have H' := Aside0.mk H
                  clear H
                  go_wp2
                  go_loopg [5] kj4 (fun kq v5 w' => ∃ (x5_3 : Int), v5 = .int .i64 x5_3 ∧ Aside0 (becketref12_proofs.l1 kq l0 x3_1 x5_3 ((rd_T68 l0 x3_1).f0) ((rd_T68 l0 x3_1).f1) ((rd_T68 l0 x3_1).f2) ((rd_T68 l0 x3_1).f3) = some r) ∧ Aside0 (kq ≤ kj4) ∧ Aside0 (w'.heap[gb171]? = some (.cells #[.int .i64 ((rd_T68 l0 x3_1).f0), .int .i64 ((rd_T68 l0 x3_1).f1), .string ((rd_T68 l0 x3_1).f2), (.slice A170_3 ((rd_T68 l0 x3_1).f3).length c170_3)] 68 (0, 0))) ∧ Aside0 (Below w.heap.size w w'))
                  case atStart => exact ⟨(0), (by first | rfl | (simp; done) | (simp [*]; done)), H', ⟨Nat.le_refl _⟩, ⟨by (with_reducible repeat (first | refine blk_drewN ?_ _ | refine blk_drew ?_ | refine blk_alloc ?_ _)); exact BK171.out⟩, ⟨by repeat (first | (with_reducible first | exact HB.out | apply below_alloc | apply pw_below_drewN | apply below_drew1 | refine below_set ?_ GE171.out) | exact HB.out)⟩⟩
                  case round =>
                    clear H'
                    try clear c1
                    try clear p1
                    try clear q1
                    try clear hx1
                    try clear c2
                    try clear c2b0
                    try clear c2b1
                    try clear p2
                    try clear c3
                    try clear c3b0
                    try clear c4
                    try clear c4b0
                    try clear c9
                    try clear c11
                    try clear c12
                    try clear c12b0
                    try clear c12b1
                    try clear c17
                    try clear p17
                    try clear q17
                    try clear hx17
                    try clear hcz13_0
                    try clear hcz13_1
                    try clear hcz13_2
                    try clear hcz13_3
                    try clear hcz14_0
                    try clear hcz14_1
                    try clear hcz14_2
                    try clear hcz14_3
                    try clear hcz15_0
                    try clear hcz15_1
                    try clear hcz15_2
                    try clear hcz15_3
                    try clear hcz16_0
                    try clear hcz16_1
                    try clear hcz16_2
                    try clear hcz16_3
                    try clear hcz7_0
                    try clear hcz7_1
                    try clear hcz7_2
                    try clear hcz7_3
                    try clear hfz13_0
                    try clear hfz13_1
                    try clear hfz13_2
                    try clear hfz13_3
                    try clear hfz14_0
                    try clear hfz14_1
                    try clear hfz14_2
                    try clear hfz14_3
                    try clear hfz15_0
                    try clear hfz15_1
                    try clear hfz15_2
                    try clear hfz15_3
                    try clear hfz16_0
                    try clear hfz16_1
                    try clear hfz16_2
                    try clear hfz16_3
                    try clear hfz7_0
                    try clear hfz7_1
                    try clear hfz7_2
                    try clear hfz7_3
                    try clear hx170_0
                    try clear hx170_1
                    try clear hx170_2
                    try clear hx170_3
                    try clear p1
                    try clear p170
                    try clear p2
                    try clear q1
                    try clear q170
                    obtain ⟨x5_3, rfl, HA, HK3, BK171, HB⟩ := hrel
                    cases gk with
                    | zero => exact absurd HA.out (by simp [becketref12_proofs.l1])
                    | succ k3 =>
                      have H := HA.out
                      clear HA
                      simp only [becketref12_proofs.l1] at H
                      by_cases c18 : x5_3 < (((rd_T68 l0 x3_1).f3).length : Int)
                      · rw [if_pos c18] at H
                        have c18b0 : decide (x5_3 < (((rd_T68 l0 x3_1).f3).length : Int)) = true := decide_eq_true c18
                        clear c18
                        by_cases c19 : 0 ≤ x5_3
                        · rw [if_pos c19] at H
                          have c19b0 : decide (0 ≤ x5_3) = true := decide_eq_true c19
                          clear c19
                          replace H := Option.bind_eq_some_iff.mp H
                          obtain ⟨t175, A200, H⟩ := H
                          replace H : (if t175 = true then (becketref12_proofs.l1 k3 l0 x3_1 (wrap64 (x5_3 + 1)) ((rd_T68 l0 x3_1).f0) ((rd_T68 l0 x3_1).f1) ((rd_T68 l0 x3_1).f2) ((rd_T68 l0 x3_1).f3)) else (some false)) = some r := H
                          have A20 := Aside0.mk A200
                          clear A200
                          by_cases c21 : t175 = true
                          · subst c21
                            have H1 : (becketref12_proofs.l1 k3 l0 x3_1 (wrap64 (x5_3 + 1)) ((rd_T68 l0 x3_1).f0) ((rd_T68 l0 x3_1).f1) ((rd_T68 l0 x3_1).f2) ((rd_T68 l0 x3_1).f3)) = some r := by first | (rw [if_pos rfl] at H; with_reducible exact H) | exact (if_pos rfl).symm.trans H | (simp only [if_true, eq_self_iff_true] at H ⊢; exact H)
                            clear H
                            have H := H1
                            clear H1
                            have H' := Aside0.mk H
                            clear H
                            have hcz22_0 : wr.cell? ⟨gb171, 0, none⟩ = some (.int .i64 ((rd_T68 l0 x3_1).f0)) := (blk_cell BK171.out 0).trans rfl
                            have hcz22_1 : wr.cell? ⟨gb171, 1, none⟩ = some (.int .i64 ((rd_T68 l0 x3_1).f1)) := (blk_cell BK171.out 1).trans rfl
                            have hcz22_2 : wr.cell? ⟨gb171, 2, none⟩ = some (.string ((rd_T68 l0 x3_1).f2)) := (blk_cell BK171.out 2).trans rfl
                            have hcz22_3 : wr.cell? ⟨gb171, 3, none⟩ = some (.slice A170_3 ((rd_T68 l0 x3_1).f3).length c170_3) := (blk_cell BK171.out 3).trans rfl
                            have hfz22_0 := blk_frozen BK171.out 0
                            have hfz22_1 := blk_frozen BK171.out 1
                            have hfz22_2 := blk_frozen BK171.out 2
                            have hfz22_3 := blk_frozen BK171.out 3
                            have p174 : 0 ≤ (x5_3 : Int) := of_decide_eq_true (by first | (with_reducible assumption) | assumption)
                            have q174 : x5_3 < (((rd_T68 l0 x3_1).f3).length : Int) := of_decide_eq_true (by first | (with_reducible assumption) | assumption)
                            obtain ⟨ad174, e174, hx174_0⟩ := Kd.at_int HR170_3.out x5_3 p174 q174
                            cases e174
                            replace hx174_0 := (HB.out.cell (World.block_lt_of_cell? w _ hx174_0)).trans hx174_0
                            replace p174 := eq_true p174
                            replace q174 := eq_true q174
                            go_wp2_with (first | ((with_reducible refine gate_callee (f := 27) rfl ?_); refine goesL_ (some 53) rfl rfl Try.func27 (by kernel_rfl) rfl #[.int .i64 (rd ((rd_T68 l0 x3_1).f3) x5_3), .int .i64 12] rfl (by (try simp only [List.map_toArray, List.map_cons, List.map_nil]); first | done | rfl | (simp only [List.length_drop, List.length_take]; rfl)) ?_; (with_reducible refine (becketref12_in.calls (rd ((rd_T68 l0 x3_1).f3) x5_3) 12 true _ A20.out).mono ?_); rintro e w' ⟨rfl, ⟨nd, rfl⟩⟩; refine ⟨_, rfl, ?_⟩))
                            go_roundg k3
                            case measure => have := HK1.out; have := HJ4.out; have := HK3.out; omega
                            case rel => exact ⟨(wrap64 (x5_3 + 1)), (by first | rfl | (simp; done) | (simp [*]; done)), H', ⟨by have := HK1.out; have := HJ4.out; have := HK3.out; omega⟩, ⟨by (with_reducible repeat (first | refine blk_drewN ?_ _ | refine blk_drew ?_ | refine blk_alloc ?_ _)); exact BK171.out⟩, ⟨by repeat (first | (with_reducible first | exact HB.out | apply below_alloc | apply pw_below_drewN | apply below_drew1 | refine below_set ?_ GE171.out) | exact HB.out)⟩⟩
                          · replace c21 := Bool.eq_false_iff.mpr c21
                            subst c21
                            have H1 : (some false) = some r := by rw [if_neg (show ¬ (false = true) by decide)] at H; exact H
                            clear H
                            have H := H1
                            clear H1
                            obtain rfl := Option.some.inj H
                            have hcz23_0 : wr.cell? ⟨gb171, 0, none⟩ = some (.int .i64 ((rd_T68 l0 x3_1).f0)) := (blk_cell BK171.out 0).trans rfl
                            have hcz23_1 : wr.cell? ⟨gb171, 1, none⟩ = some (.int .i64 ((rd_T68 l0 x3_1).f1)) := (blk_cell BK171.out 1).trans rfl
                            have hcz23_2 : wr.cell? ⟨gb171, 2, none⟩ = some (.string ((rd_T68 l0 x3_1).f2)) := (blk_cell BK171.out 2).trans rfl
                            have hcz23_3 : wr.cell? ⟨gb171, 3, none⟩ = some (.slice A170_3 ((rd_T68 l0 x3_1).f3).length c170_3) := (blk_cell BK171.out 3).trans rfl
                            have hfz23_0 := blk_frozen BK171.out 0
                            have hfz23_1 := blk_frozen BK171.out 1
                            have hfz23_2 := blk_frozen BK171.out 2
                            have hfz23_3 := blk_frozen BK171.out 3
                            have p174 : 0 ≤ (x5_3 : Int) := of_decide_eq_true (by first | (with_reducible assumption) | assumption)
                            have q174 : x5_3 < (((rd_T68 l0 x3_1).f3).length : Int) := of_decide_eq_true (by first | (with_reducible assumption) | assumption)
                            obtain ⟨ad174, e174, hx174_0⟩ := Kd.at_int HR170_3.out x5_3 p174 q174
                            cases e174
                            replace hx174_0 := (HB.out.cell (World.block_lt_of_cell? w _ hx174_0)).trans hx174_0
                            replace p174 := eq_true p174
                            replace q174 := eq_true q174
                            go_wp2_with (first | ((with_reducible refine gate_callee (f := 27) rfl ?_); refine goesL_ (some 53) rfl rfl Try.func27 (by kernel_rfl) rfl #[.int .i64 (rd ((rd_T68 l0 x3_1).f3) x5_3), .int .i64 12] rfl (by (try simp only [List.map_toArray, List.map_cons, List.map_nil]); first | done | rfl | (simp only [List.length_drop, List.length_take]; rfl)) ?_; (with_reducible refine (becketref12_in.calls (rd ((rd_T68 l0 x3_1).f3) x5_3) 12 false _ A20.out).mono ?_); rintro e w' ⟨rfl, ⟨nd, rfl⟩⟩; refine ⟨_, rfl, ?_⟩))
                            go_ret
                            exact ⟨by first | rfl | (simp [errW_none, errW_some] <;> rfl) | (simp [*, errW_none, errW_some] <;> rfl), by repeat (first | (with_reducible first | exact HB.out | apply below_alloc | apply pw_below_drewN | apply below_drew1 | refine below_set ?_ GE171.out) | exact HB.out)⟩
                        · rw [if_neg c19] at H
                          exact absurd H (by simp)
                      · rw [if_neg c18] at H
                        have c18b0 : decide (x5_3 < (((rd_T68 l0 x3_1).f3).length : Int)) = false := decide_eq_false c18
                        clear c18
                        have H' := Aside0.mk H
                        clear H
                        have hcz24_0 : wr.cell? ⟨gb171, 0, none⟩ = some (.int .i64 ((rd_T68 l0 x3_1).f0)) := (blk_cell BK171.out 0).trans rfl
                        have hcz24_1 : wr.cell? ⟨gb171, 1, none⟩ = some (.int .i64 ((rd_T68 l0 x3_1).f1)) := (blk_cell BK171.out 1).trans rfl
                        have hcz24_2 : wr.cell? ⟨gb171, 2, none⟩ = some (.string ((rd_T68 l0 x3_1).f2)) := (blk_cell BK171.out 2).trans rfl
                        have hcz24_3 : wr.cell? ⟨gb171, 3, none⟩ = some (.slice A170_3 ((rd_T68 l0 x3_1).f3).length c170_3) := (blk_cell BK171.out 3).trans rfl
                        have hfz24_0 := blk_frozen BK171.out 0
                        have hfz24_1 := blk_frozen BK171.out 1
                        have hfz24_2 := blk_frozen BK171.out 2
                        have hfz24_3 := blk_frozen BK171.out 3
                        go_wp2
                        go_roundg k3
                        case measure => have := HK1.out; have := HJ4.out; have := HK3.out; omega
                        case rel => exact ⟨(wrap64 (x3_1 + 1)), (by first | rfl | (simp; done) | (simp [*]; done)), H', ⟨by have := HK1.out; have := HJ4.out; have := HK3.out; omega⟩, ⟨by repeat (first | (with_reducible first | exact HB.out | apply below_alloc | apply pw_below_drewN | apply below_drew1 | refine below_set ?_ GE171.out) | exact HB.out)⟩⟩
          · rw [if_neg c4] at H
            exact absurd H (by simp)
        · rw [if_neg c3] at H
          have c3b0 : decide (x3_1 < (l0.length : Int)) = false := decide_eq_false c3
          clear c3
          obtain rfl := Option.some.inj H
          go_wp2
          go_ret
          exact ⟨by first | rfl | (simp [errW_none, errW_some] <;> rfl) | (simp [*, errW_none, errW_some] <;> rfl), by repeat (first | (with_reducible first | exact HB.out | apply below_alloc | apply pw_below_drewN | apply below_drew1) | exact HB.out)⟩
end Go.Proofs.Ytkaoojcafefjjaa.Ms
