-- Cut by a program of this session (wip/shake.py) out of a text of this seat: what this claim doesn't reach is struck out. Lean checks it.
import Derived.Test.YtkaoojcafefjjaaMsx0Cp
import Derived.Test.YtkaoojcafefjjaaMsx2Cp
namespace Go.Proofs.Ytkaoojcafefjjaa.Ms
open Go.RowKit Go.Proofs.YtkaoojcafefjjaaW.PrintWords Go.Proofs.YtkaoojcafefjjaaW.PrintLast Go.Proofs.YtkaoojcafefjjaaW.PrintMore
attribute [local go_sem] max2_int min2_int max_two min_two max_three min_three max_four min_four   -- for this text's walks alone
set_option linter.unusedVariables false
set_option linter.unusedSimpArgs false
attribute [local go_sem] eqlErr neqErr eqlErrNil neqErrNil
open Go.Proofs.Ytkaoojcafefjjaa.Mw
mutual
def msg_Check.j0 : Nat → Int → Int → Int → Int → Int → ByteArray → List (S68) → List (S58) → Option (Option Int)
  | 0, _, _, _, _, _, _, _, _ => none
  | k + 1, x3, x103000, x103001, x103002, x103003, x103004, x103005, x103006 => if x103000 < 1 then (msg_Check.j1 k true x103000 x103001 x103002 x103003 x103004 x103005 x103006) else (if x103000 > 7 then (msg_Check.j1 k true x103000 x103001 x103002 x103003 x103004 x103005 x103006) else ((msg_node.f x103001).bind fun t103 => (if t103 = true then ((msg_within.f x103002 64).bind fun t104 => (if t104 = true then ((msg_within.f x103003 x3).bind fun t105 => (if t105 = true then (msg_Check.j1 k (decide ((x103004.size : Int) > 4096)) x103000 x103001 x103002 x103003 x103004 x103005 x103006) else (msg_Check.j1 k true x103000 x103001 x103002 x103003 x103004 x103005 x103006))) else (msg_Check.j1 k true x103000 x103001 x103002 x103003 x103004 x103005 x103006))) else (msg_Check.j1 k true x103000 x103001 x103002 x103003 x103004 x103005 x103006))))
def msg_Check.j1 : Nat → Bool → Int → Int → Int → Int → ByteArray → List (S68) → List (S58) → Option (Option Int)
  | 0, _, _, _, _, _, _, _, _ => none
  | k + 1, x7, x103000, x103001, x103002, x103003, x103004, x103005, x103006 => if x7 = true then (some (some 1)) else ((msg_proofs.f x103005).bind fun t106 => (if t106 = true then (if (x103005.length : Int) > 0 then (msg_Check.j2 k (x103000 != 5) x103000 x103001 x103002 x103003 x103004 x103005 x103006) else (msg_Check.j2 k false x103000 x103001 x103002 x103003 x103004 x103005 x103006)) else (msg_Check.j2 k true x103000 x103001 x103002 x103003 x103004 x103005 x103006)))
def msg_Check.j2 : Nat → Bool → Int → Int → Int → Int → ByteArray → List (S68) → List (S58) → Option (Option Int)
  | 0, _, _, _, _, _, _, _, _ => none
  | k + 1, x42, x103000, x103001, x103002, x103003, x103004, x103005, x103006 => if x42 = true then (some (some 1)) else ((msg_changes.f x103006).bind fun t107 => (if t107 = true then (if (x103006.length : Int) > 0 then (if x103000 = 6 then (some none) else (some (some 1))) else (some none)) else (some (some 1))))
end
def msg_Check.f (k : Nat) (a0_0 : Int) (a0_1 : Int) (a0_2 : Int) (a0_3 : Int) (a0_4 : ByteArray) (l0_5 : List (S68)) (l0_6 : List (S58)) : Option (Option Int) := if a0_0 = 7 then (msg_Check.j0 k 1000 a0_0 a0_1 a0_2 a0_3 a0_4 l0_5 l0_6) else (msg_Check.j0 k 64 a0_0 a0_1 a0_2 a0_3 a0_4 l0_5 l0_6)
set_option maxHeartbeats 8000000 in
set_option maxRecDepth 100000 in
theorem msg_Check.calls (k : Nat) (a0_0 : Int) (a0_1 : Int) (a0_2 : Int) (a0_3 : Int) (a0_4 : ByteArray) (A0_5 : Option Addr) (c0_5 : Nat) (l0_5 : List (S68)) (A0_6 : Option Addr) (c0_6 : Nat) (l0_6 : List (S58)) (r : Option Int) (w : World) (hr0_5 : Kd.C k68 w A0_5 l0_5.length l0_5) (hc0_5 : l0_5.length ≤ c0_5) (hr0_6 : Kd.C k58 w A0_6 l0_6.length l0_6) (hc0_6 : l0_6.length ≤ c0_6) (h : msg_Check.f k a0_0 a0_1 a0_2 a0_3 a0_4 l0_5 l0_6 = some r) :
    Calls Try.prog 23 #[.agg #[.int .i64 a0_0, .int .i64 a0_1, .int .i64 a0_2, .int .i64 a0_3, .string a0_4, .slice A0_5 l0_5.length c0_5, .slice A0_6 l0_6.length c0_6]] w fun e w' => e = .returned (errW r) ∧ Below w.heap.size w w' := by
  have hu29 := Try.underlying29
  have hu34 := Try.underlying34
  have hu49 := Try.underlying49
  have HR0_5 := Aside0.mk hr0_5
  have HC0_5 := Aside0.mk hc0_5
  clear hr0_5 hc0_5
  have HR0_6 := Aside0.mk hr0_6
  have HC0_6 := Aside0.mk hc0_6
  clear hr0_6 hc0_6
  have HB := Aside0.mk (Below.refl w.heap.size w)
  have H : (if a0_0 = 7 then (msg_Check.j0 k 1000 a0_0 a0_1 a0_2 a0_3 a0_4 l0_5 l0_6) else (msg_Check.j0 k 64 a0_0 a0_1 a0_2 a0_3 a0_4 l0_5 l0_6)) = some r := h
  clear h
  have HC2 := Aside0.mk H
  clear H
  go_enter Try.func23, Try.ntmps23
  go_upto_if 6 with (first | ((with_reducible refine gate_dst (N := 1) rfl ?_); (try (refine gate_guard (by rfl) ?_; dsimp only)); refine box_event ?hg (N := 1) ?hd (cs := #[.int .i64 a0_0, .int .i64 a0_1, .int .i64 a0_2, .int .i64 a0_3, .string a0_4, .slice A0_5 l0_5.length c0_5, .slice A0_6 l0_6.length c0_6]) (t := 29) ?hr ?_; (case hd => rfl); (case hg => rfl); (case hr => first | (go_simp; done) | (go_simp; rfl)); intro gb102 hg w3 hbox hb; have n0_ := Aside0.mk (below_step (by repeat (first | (with_reducible first | exact HB.out | apply below_alloc | apply pw_below_drewN | apply below_drew1) | exact HB.out)) hb); have n1_ := Aside0.mk (hbox); have n2_ := Aside0.mk ((by rw [hg]; exact (below_size (by repeat (first | (with_reducible first | exact HB.out | apply below_alloc | apply pw_below_drewN | apply below_drew1) | exact HB.out))) : w.heap.size ≤ gb102)); have n3_ := Aside0.mk ((by rw [hg]; exact (below_size (by repeat (first | (with_reducible first | exact HB.out | apply below_alloc | apply pw_below_drewN | apply below_drew1) | exact HB.out))) : w.heap.size ≤ gb102)); clear HB; have HB := n0_; have BK102 := n1_; have GW102 := n2_; have GE102 := n3_; clear n0_ n1_ n2_ n3_; clear hb hbox hg; have hcz4_0 : w3.cell? ⟨gb102, 0, none⟩ = some (.int .i64 a0_0) := (blk_cell BK102.out 0).trans rfl; have hcz4_1 : w3.cell? ⟨gb102, 1, none⟩ = some (.int .i64 a0_1) := (blk_cell BK102.out 1).trans rfl; have hcz4_2 : w3.cell? ⟨gb102, 2, none⟩ = some (.int .i64 a0_2) := (blk_cell BK102.out 2).trans rfl; have hcz4_3 : w3.cell? ⟨gb102, 3, none⟩ = some (.int .i64 a0_3) := (blk_cell BK102.out 3).trans rfl; have hcz4_4 : w3.cell? ⟨gb102, 4, none⟩ = some (.string a0_4) := (blk_cell BK102.out 4).trans rfl; have hcz4_5 : w3.cell? ⟨gb102, 5, none⟩ = some (.slice A0_5 l0_5.length c0_5) := (blk_cell BK102.out 5).trans rfl; have hcz4_6 : w3.cell? ⟨gb102, 6, none⟩ = some (.slice A0_6 l0_6.length c0_6) := (blk_cell BK102.out 6).trans rfl; have hfz4_0 := blk_frozen BK102.out 0; have hfz4_1 := blk_frozen BK102.out 1; have hfz4_2 := blk_frozen BK102.out 2; have hfz4_3 := blk_frozen BK102.out 3; have hfz4_4 := blk_frozen BK102.out 4; have hfz4_5 := blk_frozen BK102.out 5; have hfz4_6 := blk_frozen BK102.out 6))
  (try simp only [Act.put, List.setIfInBounds_toArray, List.set_cons_zero, List.set_cons_succ])
  go_cut [3] (fun v3 wc => ∃ (kq : Nat) (x3_1 : Int), v3 = .int .i64 x3_1 ∧ Aside0 (msg_Check.j0 kq x3_1 a0_0 a0_1 a0_2 a0_3 a0_4 l0_5 l0_6 = some r) ∧ Aside0 (kq ≤ k) ∧ Aside0 (wc.heap[gb102]? = some (.cells #[.int .i64 a0_0, .int .i64 a0_1, .int .i64 a0_2, .int .i64 a0_3, .string a0_4, (.slice A0_5 l0_5.length c0_5), (.slice A0_6 l0_6.length c0_6)] 29 (0, 0))) ∧ Aside0 (Below w.heap.size w wc))
  case first =>
    have H := HC2.out
    clear HC2
    by_cases c5 : a0_0 = 7
    · rw [if_pos c5] at H
      have c5b0 : (a0_0 == 7) = true := beq_iff_eq.mpr c5
      have c5b1 : (a0_0 != 7) = false := bne_eq_false_iff_eq.mpr c5
      clear c5
      (first | rw [c5b0] | (simp only [i64_w, i32_w]; rw [c5b0]) | skip)
      have H' := Aside0.mk H
      clear H
      go_wp2
      go_meet
      case rel => exact ⟨_, (1000), (by first | rfl | (simp; done) | (simp [*]; done)), H', ⟨by first | omega | exact Nat.le_refl _⟩, ⟨by (with_reducible repeat (first | refine blk_drewN ?_ _ | refine blk_drew ?_ | refine blk_alloc ?_ _)); exact BK102.out⟩, ⟨by repeat (first | (with_reducible first | exact HB.out | apply below_alloc | apply pw_below_drewN | apply below_drew1 | refine below_set ?_ GE102.out) | exact HB.out)⟩⟩
    · rw [if_neg c5] at H
      have c5b0 : (a0_0 == 7) = false := beq_eq_false_iff_ne.mpr c5
      have c5b1 : (a0_0 != 7) = true := bne_iff_ne.mpr c5
      (first | rw [c5b0] | (simp only [i64_w, i32_w]; rw [c5b0]) | skip)
      have H' := Aside0.mk H
      clear H
      go_wp2
      go_meet
      case rel => exact ⟨_, (64), (by first | rfl | (simp; done) | (simp [*]; done)), H', ⟨by first | omega | exact Nat.le_refl _⟩, ⟨by (with_reducible repeat (first | refine blk_drewN ?_ _ | refine blk_drew ?_ | refine blk_alloc ?_ _)); exact BK102.out⟩, ⟨by repeat (first | (with_reducible first | exact HB.out | apply below_alloc | apply pw_below_drewN | apply below_drew1 | refine below_set ?_ GE102.out) | exact HB.out)⟩⟩
  case rest =>
    clear HC2
    try clear c2
    try clear p2
    try clear c5
    try clear c5b0
    try clear c5b1
    try clear hcz4_0
    try clear hcz4_1
    try clear hcz4_2
    try clear hcz4_3
    try clear hcz4_4
    try clear hcz4_5
    try clear hcz4_6
    try clear hfz4_0
    try clear hfz4_1
    try clear hfz4_2
    try clear hfz4_3
    try clear hfz4_4
    try clear hfz4_5
    try clear hfz4_6
    obtain ⟨kq, x3_1, rfl, HA, HJ1, BK102, HB⟩ := hcut
    cases kq with
    | zero => exact absurd HA.out (by simp [msg_Check.j0])
    | succ kj1 =>
      have H := HA.out
      clear HA
      simp only [msg_Check.j0] at H
      have HC6 := Aside0.mk H
      clear H
      go_upto_region 4 with (fail)
      go_cut [7] (fun v7 wc => ∃ (kq : Nat) (x7_5 : Bool), v7 = .bool x7_5 ∧ Aside0 (msg_Check.j1 kq x7_5 a0_0 a0_1 a0_2 a0_3 a0_4 l0_5 l0_6 = some r) ∧ Aside0 (kq ≤ kj1) ∧ Aside0 (wc.heap[gb102]? = some (.cells #[.int .i64 a0_0, .int .i64 a0_1, .int .i64 a0_2, .int .i64 a0_3, .string a0_4, (.slice A0_5 l0_5.length c0_5), (.slice A0_6 l0_6.length c0_6)] 29 (0, 0))) ∧ Aside0 (Below w.heap.size w wc))
      case first =>
        have H := HC6.out
        clear HC6
        by_cases c7 : a0_0 < 1
        · rw [if_pos c7] at H
          have c7b0 : decide (a0_0 < 1) = true := decide_eq_true c7
          clear c7
          (first | rw [c7b0] | (simp only [i64_w, i32_w]; rw [c7b0]) | skip)
          have H' := Aside0.mk H
          clear H
          have hcz8_0 : wc.cell? ⟨gb102, 0, none⟩ = some (.int .i64 a0_0) := (blk_cell BK102.out 0).trans rfl
          have hcz8_1 : wc.cell? ⟨gb102, 1, none⟩ = some (.int .i64 a0_1) := (blk_cell BK102.out 1).trans rfl
          have hcz8_2 : wc.cell? ⟨gb102, 2, none⟩ = some (.int .i64 a0_2) := (blk_cell BK102.out 2).trans rfl
          have hcz8_3 : wc.cell? ⟨gb102, 3, none⟩ = some (.int .i64 a0_3) := (blk_cell BK102.out 3).trans rfl
          have hcz8_4 : wc.cell? ⟨gb102, 4, none⟩ = some (.string a0_4) := (blk_cell BK102.out 4).trans rfl
          have hcz8_5 : wc.cell? ⟨gb102, 5, none⟩ = some (.slice A0_5 l0_5.length c0_5) := (blk_cell BK102.out 5).trans rfl
          have hcz8_6 : wc.cell? ⟨gb102, 6, none⟩ = some (.slice A0_6 l0_6.length c0_6) := (blk_cell BK102.out 6).trans rfl
          have hfz8_0 := blk_frozen BK102.out 0
          have hfz8_1 := blk_frozen BK102.out 1
          have hfz8_2 := blk_frozen BK102.out 2
          have hfz8_3 := blk_frozen BK102.out 3
          have hfz8_4 := blk_frozen BK102.out 4
          have hfz8_5 := blk_frozen BK102.out 5
          have hfz8_6 := blk_frozen BK102.out 6
          go_wp2
          go_meet
          case rel => exact ⟨_, (true), (by first | rfl | (simp; done) | (simp [*]; done)), H', ⟨by have := HJ1.out; first | omega | exact Nat.le_refl _⟩, ⟨by (with_reducible repeat (first | refine blk_drewN ?_ _ | refine blk_drew ?_ | refine blk_alloc ?_ _)); exact BK102.out⟩, ⟨by repeat (first | (with_reducible first | exact HB.out | apply below_alloc | apply pw_below_drewN | apply below_drew1 | refine below_set ?_ GE102.out) | exact HB.out)⟩⟩
        · rw [if_neg c7] at H
          have c7b0 : decide (a0_0 < 1) = false := decide_eq_false c7
          clear c7
          (first | rw [c7b0] | (simp only [i64_w, i32_w]; rw [c7b0]) | skip)
          by_cases c9 : a0_0 > 7
          · rw [if_pos c9] at H
            have c9b0 : decide (7 < a0_0) = true := decide_eq_true c9
            clear c9
            have H' := Aside0.mk H
            clear H
            have hcz10_0 : wc.cell? ⟨gb102, 0, none⟩ = some (.int .i64 a0_0) := (blk_cell BK102.out 0).trans rfl
            have hcz10_1 : wc.cell? ⟨gb102, 1, none⟩ = some (.int .i64 a0_1) := (blk_cell BK102.out 1).trans rfl
            have hcz10_2 : wc.cell? ⟨gb102, 2, none⟩ = some (.int .i64 a0_2) := (blk_cell BK102.out 2).trans rfl
            have hcz10_3 : wc.cell? ⟨gb102, 3, none⟩ = some (.int .i64 a0_3) := (blk_cell BK102.out 3).trans rfl
            have hcz10_4 : wc.cell? ⟨gb102, 4, none⟩ = some (.string a0_4) := (blk_cell BK102.out 4).trans rfl
            have hcz10_5 : wc.cell? ⟨gb102, 5, none⟩ = some (.slice A0_5 l0_5.length c0_5) := (blk_cell BK102.out 5).trans rfl
            have hcz10_6 : wc.cell? ⟨gb102, 6, none⟩ = some (.slice A0_6 l0_6.length c0_6) := (blk_cell BK102.out 6).trans rfl
            have hfz10_0 := blk_frozen BK102.out 0
            have hfz10_1 := blk_frozen BK102.out 1
            have hfz10_2 := blk_frozen BK102.out 2
            have hfz10_3 := blk_frozen BK102.out 3
            have hfz10_4 := blk_frozen BK102.out 4
            have hfz10_5 := blk_frozen BK102.out 5
            have hfz10_6 := blk_frozen BK102.out 6
            go_wp2
            go_meet
            case rel => exact ⟨_, (true), (by first | rfl | (simp; done) | (simp [*]; done)), H', ⟨by have := HJ1.out; first | omega | exact Nat.le_refl _⟩, ⟨by (with_reducible repeat (first | refine blk_drewN ?_ _ | refine blk_drew ?_ | refine blk_alloc ?_ _)); exact BK102.out⟩, ⟨by repeat (first | (with_reducible first | exact HB.out | apply below_alloc | apply pw_below_drewN | apply below_drew1 | refine below_set ?_ GE102.out) | exact HB.out)⟩⟩
          · rw [if_neg c9] at H
            have c9b0 : decide (7 < a0_0) = false := decide_eq_false c9
            clear c9
            replace H := Option.bind_eq_some_iff.mp H
            obtain ⟨t103, A110, H⟩ := H
            replace H : (if t103 = true then ((msg_within.f a0_2 64).bind fun t104 => (if t104 = true then ((msg_within.f a0_3 x3_1).bind fun t105 => (if t105 = true then (msg_Check.j1 kj1 (decide ((a0_4.size : Int) > 4096)) a0_0 a0_1 a0_2 a0_3 a0_4 l0_5 l0_6) else (msg_Check.j1 kj1 true a0_0 a0_1 a0_2 a0_3 a0_4 l0_5 l0_6))) else (msg_Check.j1 kj1 true a0_0 a0_1 a0_2 a0_3 a0_4 l0_5 l0_6))) else (msg_Check.j1 kj1 true a0_0 a0_1 a0_2 a0_3 a0_4 l0_5 l0_6)) = some r := H
            have A11 := Aside0.mk A110
            clear A110
            by_cases c12 : t103 = true
            · subst c12
              have H1 : ((msg_within.f a0_2 64).bind fun t104 => (if t104 = true then ((msg_within.f a0_3 x3_1).bind fun t105 => (if t105 = true then (msg_Check.j1 kj1 (decide ((a0_4.size : Int) > 4096)) a0_0 a0_1 a0_2 a0_3 a0_4 l0_5 l0_6) else (msg_Check.j1 kj1 true a0_0 a0_1 a0_2 a0_3 a0_4 l0_5 l0_6))) else (msg_Check.j1 kj1 true a0_0 a0_1 a0_2 a0_3 a0_4 l0_5 l0_6))) = some r := by first | (rw [if_pos rfl] at H; with_reducible exact H) | exact (if_pos rfl).symm.trans H | (simp only [if_true, eq_self_iff_true] at H ⊢; exact H)
              clear H
              have H := H1
              clear H1
              replace H := Option.bind_eq_some_iff.mp H
              obtain ⟨t104, A130, H⟩ := H
              replace H : (if t104 = true then ((msg_within.f a0_3 x3_1).bind fun t105 => (if t105 = true then (msg_Check.j1 kj1 (decide ((a0_4.size : Int) > 4096)) a0_0 a0_1 a0_2 a0_3 a0_4 l0_5 l0_6) else (msg_Check.j1 kj1 true a0_0 a0_1 a0_2 a0_3 a0_4 l0_5 l0_6))) else (msg_Check.j1 kj1 true a0_0 a0_1 a0_2 a0_3 a0_4 l0_5 l0_6)) = some r := H
              have A13 := Aside0.mk A130
              clear A130
              by_cases c14 : t104 = true
              · subst c14
                have H1 : ((msg_within.f a0_3 x3_1).bind fun t105 => (if t105 = true then (msg_Check.j1 kj1 (decide ((a0_4.size : Int) > 4096)) a0_0 a0_1 a0_2 a0_3 a0_4 l0_5 l0_6) else (msg_Check.j1 kj1 true a0_0 a0_1 a0_2 a0_3 a0_4 l0_5 l0_6))) = some r := by first | (rw [if_pos rfl] at H; with_reducible exact H) | exact (if_pos rfl).symm.trans H | (simp only [if_true, eq_self_iff_true] at H ⊢; exact H)
                clear H
                have H := H1
                clear H1
                replace H := Option.bind_eq_some_iff.mp H
                obtain ⟨t105, A150, H⟩ := H
                replace H : (if t105 = true then (msg_Check.j1 kj1 (decide ((a0_4.size : Int) > 4096)) a0_0 a0_1 a0_2 a0_3 a0_4 l0_5 l0_6) else (msg_Check.j1 kj1 true a0_0 a0_1 a0_2 a0_3 a0_4 l0_5 l0_6)) = some r := H
                have A15 := Aside0.mk A150
                clear A150
                by_cases c16 : t105 = true
                · subst c16
                  have H1 : (msg_Check.j1 kj1 (decide ((a0_4.size : Int) > 4096)) a0_0 a0_1 a0_2 a0_3 a0_4 l0_5 l0_6) = some r := by first | (rw [if_pos rfl] at H; with_reducible exact H) | exact (if_pos rfl).symm.trans H | (simp only [if_true, eq_self_iff_true] at H ⊢; exact H)
                  clear H
                  have H := H1
                  clear H1
                  have H' := Aside0.mk H
                  clear H
                  have hcz17_0 : wc.cell? ⟨gb102, 0, none⟩ = some (.int .i64 a0_0) := (blk_cell BK102.out 0).trans rfl
                  have hcz17_1 : wc.cell? ⟨gb102, 1, none⟩ = some (.int .i64 a0_1) := (blk_cell BK102.out 1).trans rfl
                  have hcz17_2 : wc.cell? ⟨gb102, 2, none⟩ = some (.int .i64 a0_2) := (blk_cell BK102.out 2).trans rfl
                  have hcz17_3 : wc.cell? ⟨gb102, 3, none⟩ = some (.int .i64 a0_3) := (blk_cell BK102.out 3).trans rfl
                  have hcz17_4 : wc.cell? ⟨gb102, 4, none⟩ = some (.string a0_4) := (blk_cell BK102.out 4).trans rfl
                  have hcz17_5 : wc.cell? ⟨gb102, 5, none⟩ = some (.slice A0_5 l0_5.length c0_5) := (blk_cell BK102.out 5).trans rfl
                  have hcz17_6 : wc.cell? ⟨gb102, 6, none⟩ = some (.slice A0_6 l0_6.length c0_6) := (blk_cell BK102.out 6).trans rfl
                  have hfz17_0 := blk_frozen BK102.out 0
                  have hfz17_1 := blk_frozen BK102.out 1
                  have hfz17_2 := blk_frozen BK102.out 2
                  have hfz17_3 := blk_frozen BK102.out 3
                  have hfz17_4 := blk_frozen BK102.out 4
                  have hfz17_5 := blk_frozen BK102.out 5
                  have hfz17_6 := blk_frozen BK102.out 6
                  go_wp2_with (first | (go_at_call 32; (with_reducible refine (msg_node.calls a0_1 true _ A11.out).mono ?_); rintro e w' ⟨rfl, ⟨nd, rfl⟩⟩) | (go_at_call 33; (with_reducible refine (msg_within.calls a0_2 64 true _ A13.out).mono ?_); rintro e w' ⟨rfl, ⟨nd, rfl⟩⟩) | (go_at_call 33; (with_reducible refine (msg_within.calls a0_3 x3_1 true _ A15.out).mono ?_); rintro e w' ⟨rfl, ⟨nd, rfl⟩⟩))
                  go_meet
                  case rel => exact ⟨_, (decide ((a0_4.size : Int) > 4096)), (by first | rfl | (simp; done) | (simp [*]; done)), H', ⟨by have := HJ1.out; first | omega | exact Nat.le_refl _⟩, ⟨by (with_reducible repeat (first | refine blk_drewN ?_ _ | refine blk_drew ?_ | refine blk_alloc ?_ _)); exact BK102.out⟩, ⟨by repeat (first | (with_reducible first | exact HB.out | apply below_alloc | apply pw_below_drewN | apply below_drew1 | refine below_set ?_ GE102.out) | exact HB.out)⟩⟩
                · replace c16 := Bool.eq_false_iff.mpr c16
                  subst c16
                  have H1 : (msg_Check.j1 kj1 true a0_0 a0_1 a0_2 a0_3 a0_4 l0_5 l0_6) = some r := by rw [if_neg (show ¬ (false = true) by decide)] at H; exact H
                  clear H
                  have H := H1
                  clear H1
                  have H' := Aside0.mk H
                  clear H
                  have hcz18_0 : wc.cell? ⟨gb102, 0, none⟩ = some (.int .i64 a0_0) := (blk_cell BK102.out 0).trans rfl
                  have hcz18_1 : wc.cell? ⟨gb102, 1, none⟩ = some (.int .i64 a0_1) := (blk_cell BK102.out 1).trans rfl
                  have hcz18_2 : wc.cell? ⟨gb102, 2, none⟩ = some (.int .i64 a0_2) := (blk_cell BK102.out 2).trans rfl
                  have hcz18_3 : wc.cell? ⟨gb102, 3, none⟩ = some (.int .i64 a0_3) := (blk_cell BK102.out 3).trans rfl
                  have hcz18_4 : wc.cell? ⟨gb102, 4, none⟩ = some (.string a0_4) := (blk_cell BK102.out 4).trans rfl
                  have hcz18_5 : wc.cell? ⟨gb102, 5, none⟩ = some (.slice A0_5 l0_5.length c0_5) := (blk_cell BK102.out 5).trans rfl
                  have hcz18_6 : wc.cell? ⟨gb102, 6, none⟩ = some (.slice A0_6 l0_6.length c0_6) := (blk_cell BK102.out 6).trans rfl
                  have hfz18_0 := blk_frozen BK102.out 0
                  have hfz18_1 := blk_frozen BK102.out 1
                  have hfz18_2 := blk_frozen BK102.out 2
                  have hfz18_3 := blk_frozen BK102.out 3
                  have hfz18_4 := blk_frozen BK102.out 4
                  have hfz18_5 := blk_frozen BK102.out 5
                  have hfz18_6 := blk_frozen BK102.out 6
                  go_wp2_with (first | (go_at_call 32; (with_reducible refine (msg_node.calls a0_1 true _ A11.out).mono ?_); rintro e w' ⟨rfl, ⟨nd, rfl⟩⟩) | (go_at_call 33; (with_reducible refine (msg_within.calls a0_2 64 true _ A13.out).mono ?_); rintro e w' ⟨rfl, ⟨nd, rfl⟩⟩) | (go_at_call 33; (with_reducible refine (msg_within.calls a0_3 x3_1 false _ A15.out).mono ?_); rintro e w' ⟨rfl, ⟨nd, rfl⟩⟩))
                  go_meet
                  case rel => exact ⟨_, (true), (by first | rfl | (simp; done) | (simp [*]; done)), H', ⟨by have := HJ1.out; first | omega | exact Nat.le_refl _⟩, ⟨by (with_reducible repeat (first | refine blk_drewN ?_ _ | refine blk_drew ?_ | refine blk_alloc ?_ _)); exact BK102.out⟩, ⟨by repeat (first | (with_reducible first | exact HB.out | apply below_alloc | apply pw_below_drewN | apply below_drew1 | refine below_set ?_ GE102.out) | exact HB.out)⟩⟩
              · replace c14 := Bool.eq_false_iff.mpr c14
                subst c14
                have H1 : (msg_Check.j1 kj1 true a0_0 a0_1 a0_2 a0_3 a0_4 l0_5 l0_6) = some r := by rw [if_neg (show ¬ (false = true) by decide)] at H; exact H
                clear H
                have H := H1
                clear H1
                have H' := Aside0.mk H
                clear H
                have hcz19_0 : wc.cell? ⟨gb102, 0, none⟩ = some (.int .i64 a0_0) := (blk_cell BK102.out 0).trans rfl
                have hcz19_1 : wc.cell? ⟨gb102, 1, none⟩ = some (.int .i64 a0_1) := (blk_cell BK102.out 1).trans rfl
                have hcz19_2 : wc.cell? ⟨gb102, 2, none⟩ = some (.int .i64 a0_2) := (blk_cell BK102.out 2).trans rfl
                have hcz19_3 : wc.cell? ⟨gb102, 3, none⟩ = some (.int .i64 a0_3) := (blk_cell BK102.out 3).trans rfl
                have hcz19_4 : wc.cell? ⟨gb102, 4, none⟩ = some (.string a0_4) := (blk_cell BK102.out 4).trans rfl
                have hcz19_5 : wc.cell? ⟨gb102, 5, none⟩ = some (.slice A0_5 l0_5.length c0_5) := (blk_cell BK102.out 5).trans rfl
                have hcz19_6 : wc.cell? ⟨gb102, 6, none⟩ = some (.slice A0_6 l0_6.length c0_6) := (blk_cell BK102.out 6).trans rfl
                have hfz19_0 := blk_frozen BK102.out 0
                have hfz19_1 := blk_frozen BK102.out 1
                have hfz19_2 := blk_frozen BK102.out 2
                have hfz19_3 := blk_frozen BK102.out 3
                have hfz19_4 := blk_frozen BK102.out 4
                have hfz19_5 := blk_frozen BK102.out 5
                have hfz19_6 := blk_frozen BK102.out 6
                go_wp2_with (first | (go_at_call 32; (with_reducible refine (msg_node.calls a0_1 true _ A11.out).mono ?_); rintro e w' ⟨rfl, ⟨nd, rfl⟩⟩) | (go_at_call 33; (with_reducible refine (msg_within.calls a0_2 64 false _ A13.out).mono ?_); rintro e w' ⟨rfl, ⟨nd, rfl⟩⟩))
                go_meet
                case rel => exact ⟨_, (true), (by first | rfl | (simp; done) | (simp [*]; done)), H', ⟨by have := HJ1.out; first | omega | exact Nat.le_refl _⟩, ⟨by (with_reducible repeat (first | refine blk_drewN ?_ _ | refine blk_drew ?_ | refine blk_alloc ?_ _)); exact BK102.out⟩, ⟨by repeat (first | (with_reducible first | exact HB.out | apply below_alloc | apply pw_below_drewN | apply below_drew1 | refine below_set ?_ GE102.out) | exact HB.out)⟩⟩
            · replace c12 := Bool.eq_false_iff.mpr c12
              subst c12
              have H1 : (msg_Check.j1 kj1 true a0_0 a0_1 a0_2 a0_3 a0_4 l0_5 l0_6) = some r := by rw [if_neg (show ¬ (false = true) by decide)] at H; exact H
              clear H
              have H := H1
              clear H1
              have H' := Aside0.mk H
              clear H
              have hcz20_0 : wc.cell? ⟨gb102, 0, none⟩ = some (.int .i64 a0_0) := (blk_cell BK102.out 0).trans rfl
              have hcz20_1 : wc.cell? ⟨gb102, 1, none⟩ = some (.int .i64 a0_1) := (blk_cell BK102.out 1).trans rfl
              have hcz20_2 : wc.cell? ⟨gb102, 2, none⟩ = some (.int .i64 a0_2) := (blk_cell BK102.out 2).trans rfl
              have hcz20_3 : wc.cell? ⟨gb102, 3, none⟩ = some (.int .i64 a0_3) := (blk_cell BK102.out 3).trans rfl
              have hcz20_4 : wc.cell? ⟨gb102, 4, none⟩ = some (.string a0_4) := (blk_cell BK102.out 4).trans rfl
              have hcz20_5 : wc.cell? ⟨gb102, 5, none⟩ = some (.slice A0_5 l0_5.length c0_5) := (blk_cell BK102.out 5).trans rfl
              have hcz20_6 : wc.cell? ⟨gb102, 6, none⟩ = some (.slice A0_6 l0_6.length c0_6) := (blk_cell BK102.out 6).trans rfl
              have hfz20_0 := blk_frozen BK102.out 0
              have hfz20_1 := blk_frozen BK102.out 1
              have hfz20_2 := blk_frozen BK102.out 2
              have hfz20_3 := blk_frozen BK102.out 3
              have hfz20_4 := blk_frozen BK102.out 4
              have hfz20_5 := blk_frozen BK102.out 5
              have hfz20_6 := blk_frozen BK102.out 6
              go_wp2_with (first | (go_at_call 32; (with_reducible refine (msg_node.calls a0_1 false _ A11.out).mono ?_); rintro e w' ⟨rfl, ⟨nd, rfl⟩⟩))
              go_meet
              case rel => exact ⟨_, (true), (by first | rfl | (simp; done) | (simp [*]; done)), H', ⟨by have := HJ1.out; first | omega | exact Nat.le_refl _⟩, ⟨by (with_reducible repeat (first | refine blk_drewN ?_ _ | refine blk_drew ?_ | refine blk_alloc ?_ _)); exact BK102.out⟩, ⟨by repeat (first | (with_reducible first | exact HB.out | apply below_alloc | apply pw_below_drewN | apply below_drew1 | refine below_set ?_ GE102.out) | exact HB.out)⟩⟩
      case rest =>
        clear HC6
        try clear c1
        try clear c2
        try clear p2
        try clear c5
        try clear c5b0
        try clear c5b1
        try clear c7
        try clear c7b0
        try clear c9
        try clear c9b0
        try clear c12
        try clear c14
        try clear c16
        try clear hcz10_0
        try clear hcz10_1
        try clear hcz10_2
        try clear hcz10_3
        try clear hcz10_4
        try clear hcz10_5
        try clear hcz10_6
        try clear hcz17_0
        try clear hcz17_1
        try clear hcz17_2
        try clear hcz17_3
        try clear hcz17_4
        try clear hcz17_5
        try clear hcz17_6
        try clear hcz18_0
        try clear hcz18_1
        try clear hcz18_2
        try clear hcz18_3
        try clear hcz18_4
        try clear hcz18_5
        try clear hcz18_6
        try clear hcz19_0
        try clear hcz19_1
        try clear hcz19_2
        try clear hcz19_3
        try clear hcz19_4
        try clear hcz19_5
        try clear hcz19_6
        try clear hcz20_0
        try clear hcz20_1
        try clear hcz20_2
        try clear hcz20_3
        try clear hcz20_4
        try clear hcz20_5
        try clear hcz20_6
        try clear hcz4_0
        try clear hcz4_1
        try clear hcz4_2
        try clear hcz4_3
        try clear hcz4_4
        try clear hcz4_5
        try clear hcz4_6
        try clear hcz8_0
        try clear hcz8_1
        try clear hcz8_2
        try clear hcz8_3
        try clear hcz8_4
        try clear hcz8_5
        try clear hcz8_6
        try clear hfz10_0
        try clear hfz10_1
        try clear hfz10_2
        try clear hfz10_3
        try clear hfz10_4
        try clear hfz10_5
        try clear hfz10_6
        try clear hfz17_0
        try clear hfz17_1
        try clear hfz17_2
        try clear hfz17_3
        try clear hfz17_4
        try clear hfz17_5
        try clear hfz17_6
        try clear hfz18_0
        try clear hfz18_1
        try clear hfz18_2
        try clear hfz18_3
        try clear hfz18_4
        try clear hfz18_5
        try clear hfz18_6
        try clear hfz19_0
        try clear hfz19_1
        try clear hfz19_2
        try clear hfz19_3
        try clear hfz19_4
        try clear hfz19_5
        try clear hfz19_6
        try clear hfz20_0
        try clear hfz20_1
        try clear hfz20_2
        try clear hfz20_3
        try clear hfz20_4
        try clear hfz20_5
        try clear hfz20_6
        try clear hfz4_0
        try clear hfz4_1
        try clear hfz4_2
        try clear hfz4_3
        try clear hfz4_4
        try clear hfz4_5
        try clear hfz4_6
        try clear hfz8_0
        try clear hfz8_1
        try clear hfz8_2
        try clear hfz8_3
        try clear hfz8_4
        try clear hfz8_5
        try clear hfz8_6
        try clear p2
        obtain ⟨kq, x7_5, rfl, HA, HJ5, BK102, HB⟩ := hcut
        cases kq with
        | zero => exact absurd HA.out (by simp [msg_Check.j1])
        | succ kj5 =>
          have H := HA.out
          clear HA
          simp only [msg_Check.j1] at H
          by_cases c21 : x7_5 = true
          · subst c21
            have H1 : (some (some 1)) = some r := by first | (rw [if_pos rfl] at H; with_reducible exact H) | exact (if_pos rfl).symm.trans H | (simp only [if_true, eq_self_iff_true] at H ⊢; exact H)
            clear H
            have H := H1
            clear H1
            obtain rfl := Option.some.inj H
            go_wp2
            go_ret
            exact ⟨by first | rfl | (simp [errW_none, errW_some] <;> rfl) | (simp [*, errW_none, errW_some] <;> rfl), by repeat (first | (with_reducible first | exact HB.out | apply below_alloc | apply pw_below_drewN | apply below_drew1 | refine below_set ?_ GE102.out) | exact HB.out)⟩
          · replace c21 := Bool.eq_false_iff.mpr c21
            subst c21
            have H1 : ((msg_proofs.f l0_5).bind fun t106 => (if t106 = true then (if (l0_5.length : Int) > 0 then (msg_Check.j2 kj5 (a0_0 != 5) a0_0 a0_1 a0_2 a0_3 a0_4 l0_5 l0_6) else (msg_Check.j2 kj5 false a0_0 a0_1 a0_2 a0_3 a0_4 l0_5 l0_6)) else (msg_Check.j2 kj5 true a0_0 a0_1 a0_2 a0_3 a0_4 l0_5 l0_6))) = some r := by rw [if_neg (show ¬ (false = true) by decide)] at H; exact H
            clear H
            have H := H1
            clear H1
            have HC22 := Aside0.mk H
            clear H
            go_upto_region 6 with (fail)
            go_cut [42] (fun v42 wc => ∃ (kq : Nat) (x42_21 : Bool), v42 = .bool x42_21 ∧ Aside0 (msg_Check.j2 kq x42_21 a0_0 a0_1 a0_2 a0_3 a0_4 l0_5 l0_6 = some r) ∧ Aside0 (kq ≤ kj5) ∧ Aside0 (wc.heap[gb102]? = some (.cells #[.int .i64 a0_0, .int .i64 a0_1, .int .i64 a0_2, .int .i64 a0_3, .string a0_4, (.slice A0_5 l0_5.length c0_5), (.slice A0_6 l0_6.length c0_6)] 29 (0, 0))) ∧ Aside0 (Below w.heap.size w wc))
            case first =>
              have H := HC22.out
              clear HC22
              replace H := Option.bind_eq_some_iff.mp H
              obtain ⟨t106, A230, H⟩ := H
              replace H : (if t106 = true then (if (l0_5.length : Int) > 0 then (msg_Check.j2 kj5 (a0_0 != 5) a0_0 a0_1 a0_2 a0_3 a0_4 l0_5 l0_6) else (msg_Check.j2 kj5 false a0_0 a0_1 a0_2 a0_3 a0_4 l0_5 l0_6)) else (msg_Check.j2 kj5 true a0_0 a0_1 a0_2 a0_3 a0_4 l0_5 l0_6)) = some r := H
              have A23 := Aside0.mk A230
              clear A230
              by_cases c24 : t106 = true
              · subst c24
                have H1 : (if (l0_5.length : Int) > 0 then (msg_Check.j2 kj5 (a0_0 != 5) a0_0 a0_1 a0_2 a0_3 a0_4 l0_5 l0_6) else (msg_Check.j2 kj5 false a0_0 a0_1 a0_2 a0_3 a0_4 l0_5 l0_6)) = some r := by first | (rw [if_pos rfl] at H; with_reducible exact H) | exact (if_pos rfl).symm.trans H | (simp only [if_true, eq_self_iff_true] at H ⊢; exact H)
                clear H
                have H := H1
                clear H1
                by_cases c25 : (l0_5.length : Int) > 0
                · rw [if_pos c25] at H
                  have c25b0 : decide (0 < (l0_5.length : Int)) = true := decide_eq_true c25
                  have c25b1 : decide (0 < l0_5.length) = true := decide_eq_true (by omega)
                  clear c25
                  (first | rw [c25b0] | (simp only [i64_w, i32_w]; rw [c25b0]) | skip)
                  have H' := Aside0.mk H
                  clear H
                  have hcz26_0 : wc.cell? ⟨gb102, 0, none⟩ = some (.int .i64 a0_0) := (blk_cell BK102.out 0).trans rfl
                  have hcz26_1 : wc.cell? ⟨gb102, 1, none⟩ = some (.int .i64 a0_1) := (blk_cell BK102.out 1).trans rfl
                  have hcz26_2 : wc.cell? ⟨gb102, 2, none⟩ = some (.int .i64 a0_2) := (blk_cell BK102.out 2).trans rfl
                  have hcz26_3 : wc.cell? ⟨gb102, 3, none⟩ = some (.int .i64 a0_3) := (blk_cell BK102.out 3).trans rfl
                  have hcz26_4 : wc.cell? ⟨gb102, 4, none⟩ = some (.string a0_4) := (blk_cell BK102.out 4).trans rfl
                  have hcz26_5 : wc.cell? ⟨gb102, 5, none⟩ = some (.slice A0_5 l0_5.length c0_5) := (blk_cell BK102.out 5).trans rfl
                  have hcz26_6 : wc.cell? ⟨gb102, 6, none⟩ = some (.slice A0_6 l0_6.length c0_6) := (blk_cell BK102.out 6).trans rfl
                  have hfz26_0 := blk_frozen BK102.out 0
                  have hfz26_1 := blk_frozen BK102.out 1
                  have hfz26_2 := blk_frozen BK102.out 2
                  have hfz26_3 := blk_frozen BK102.out 3
                  have hfz26_4 := blk_frozen BK102.out 4
                  have hfz26_5 := blk_frozen BK102.out 5
                  have hfz26_6 := blk_frozen BK102.out 6
                  go_wp2_with (first | ((with_reducible refine gate_callee (f := 34) rfl ?_); refine goesL_ (some 45) rfl rfl Try.func34 (by kernel_rfl) rfl #[.slice A0_5 l0_5.length c0_5] rfl (by (try simp only [List.map_toArray, List.map_cons, List.map_nil]); first | done | rfl | (simp only [List.length_drop, List.length_take]; rfl)) ?_; (with_reducible refine (msg_proofs.calls _ _ l0_5 true _ ?side1 ?side2 A23.out).mono ?_); (case side1 => repeat (first | exact (Kd.C_below HR0_5.out HB.out) | (with_reducible refine Kd.C_alloc ?_ _) | (with_reducible refine Kd.C_drewN ?_ _) | (with_reducible refine Kd.C_drew ?_))); (case side2 => exact HC0_5.out); rintro e w27 ⟨rfl, hb⟩; refine ⟨_, rfl, ?_⟩; have n0_ := Aside0.mk (blk_below (g := gb102) (o := .cells #[.int .i64 a0_0, .int .i64 a0_1, .int .i64 a0_2, .int .i64 a0_3, .string a0_4, .slice A0_5 l0_5.length c0_5, .slice A0_6 l0_6.length c0_6] 29 (0, 0)) (by (with_reducible repeat (first | refine blk_drewN ?_ _ | refine blk_drew ?_ | refine blk_alloc ?_ _)); exact BK102.out) hb); have n1_ := Aside0.mk (below_step (by repeat (first | (with_reducible first | exact HB.out | apply below_alloc | apply pw_below_drewN | apply below_drew1 | refine below_set ?_ GE102.out) | exact HB.out)) hb); clear BK102; clear HB; have BK102 := n0_; have HB := n1_; clear n0_ n1_; (try clear hb); (try clear hb2); (try clear hk); (try clear hi); have hcz28_0 : w27.cell? ⟨gb102, 0, none⟩ = some (.int .i64 a0_0) := (blk_cell BK102.out 0).trans rfl; have hcz28_1 : w27.cell? ⟨gb102, 1, none⟩ = some (.int .i64 a0_1) := (blk_cell BK102.out 1).trans rfl; have hcz28_2 : w27.cell? ⟨gb102, 2, none⟩ = some (.int .i64 a0_2) := (blk_cell BK102.out 2).trans rfl; have hcz28_3 : w27.cell? ⟨gb102, 3, none⟩ = some (.int .i64 a0_3) := (blk_cell BK102.out 3).trans rfl; have hcz28_4 : w27.cell? ⟨gb102, 4, none⟩ = some (.string a0_4) := (blk_cell BK102.out 4).trans rfl; have hcz28_5 : w27.cell? ⟨gb102, 5, none⟩ = some (.slice A0_5 l0_5.length c0_5) := (blk_cell BK102.out 5).trans rfl; have hcz28_6 : w27.cell? ⟨gb102, 6, none⟩ = some (.slice A0_6 l0_6.length c0_6) := (blk_cell BK102.out 6).trans rfl; have hfz28_0 := blk_frozen BK102.out 0; have hfz28_1 := blk_frozen BK102.out 1; have hfz28_2 := blk_frozen BK102.out 2; have hfz28_3 := blk_frozen BK102.out 3; have hfz28_4 := blk_frozen BK102.out 4; have hfz28_5 := blk_frozen BK102.out 5; have hfz28_6 := blk_frozen BK102.out 6))
                  go_meet
                  case rel => exact ⟨_, ((a0_0 != 5)), (by first | rfl | (simp; done) | (simp [*]; done)), H', ⟨by have := HJ1.out; have := HJ5.out; first | omega | exact Nat.le_refl _⟩, ⟨by (with_reducible repeat (first | refine blk_drewN ?_ _ | refine blk_drew ?_ | refine blk_alloc ?_ _)); exact BK102.out⟩, ⟨by repeat (first | (with_reducible first | exact HB.out | apply below_alloc | apply pw_below_drewN | apply below_drew1 | refine below_set ?_ GE102.out) | exact HB.out)⟩⟩
                · rw [if_neg c25] at H
                  have c25b0 : decide (0 < (l0_5.length : Int)) = false := decide_eq_false c25
                  have c25b1 : decide (0 < l0_5.length) = false := decide_eq_false (by omega)
                  clear c25
                  (first | rw [c25b0] | (simp only [i64_w, i32_w]; rw [c25b0]) | skip)
                  have H' := Aside0.mk H
                  clear H
                  have hcz29_0 : wc.cell? ⟨gb102, 0, none⟩ = some (.int .i64 a0_0) := (blk_cell BK102.out 0).trans rfl
                  have hcz29_1 : wc.cell? ⟨gb102, 1, none⟩ = some (.int .i64 a0_1) := (blk_cell BK102.out 1).trans rfl
                  have hcz29_2 : wc.cell? ⟨gb102, 2, none⟩ = some (.int .i64 a0_2) := (blk_cell BK102.out 2).trans rfl
                  have hcz29_3 : wc.cell? ⟨gb102, 3, none⟩ = some (.int .i64 a0_3) := (blk_cell BK102.out 3).trans rfl
                  have hcz29_4 : wc.cell? ⟨gb102, 4, none⟩ = some (.string a0_4) := (blk_cell BK102.out 4).trans rfl
                  have hcz29_5 : wc.cell? ⟨gb102, 5, none⟩ = some (.slice A0_5 l0_5.length c0_5) := (blk_cell BK102.out 5).trans rfl
                  have hcz29_6 : wc.cell? ⟨gb102, 6, none⟩ = some (.slice A0_6 l0_6.length c0_6) := (blk_cell BK102.out 6).trans rfl
                  have hfz29_0 := blk_frozen BK102.out 0
                  have hfz29_1 := blk_frozen BK102.out 1
                  have hfz29_2 := blk_frozen BK102.out 2
                  have hfz29_3 := blk_frozen BK102.out 3
                  have hfz29_4 := blk_frozen BK102.out 4
                  have hfz29_5 := blk_frozen BK102.out 5
                  have hfz29_6 := blk_frozen BK102.out 6
                  go_wp2_with (first | ((with_reducible refine gate_callee (f := 34) rfl ?_); refine goesL_ (some 45) rfl rfl Try.func34 (by kernel_rfl) rfl #[.slice A0_5 l0_5.length c0_5] rfl (by (try simp only [List.map_toArray, List.map_cons, List.map_nil]); first | done | rfl | (simp only [List.length_drop, List.length_take]; rfl)) ?_; (with_reducible refine (msg_proofs.calls _ _ l0_5 true _ ?side1 ?side2 A23.out).mono ?_); (case side1 => repeat (first | exact (Kd.C_below HR0_5.out HB.out) | (with_reducible refine Kd.C_alloc ?_ _) | (with_reducible refine Kd.C_drewN ?_ _) | (with_reducible refine Kd.C_drew ?_))); (case side2 => exact HC0_5.out); rintro e w30 ⟨rfl, hb⟩; refine ⟨_, rfl, ?_⟩; have n0_ := Aside0.mk (blk_below (g := gb102) (o := .cells #[.int .i64 a0_0, .int .i64 a0_1, .int .i64 a0_2, .int .i64 a0_3, .string a0_4, .slice A0_5 l0_5.length c0_5, .slice A0_6 l0_6.length c0_6] 29 (0, 0)) (by (with_reducible repeat (first | refine blk_drewN ?_ _ | refine blk_drew ?_ | refine blk_alloc ?_ _)); exact BK102.out) hb); have n1_ := Aside0.mk (below_step (by repeat (first | (with_reducible first | exact HB.out | apply below_alloc | apply pw_below_drewN | apply below_drew1 | refine below_set ?_ GE102.out) | exact HB.out)) hb); clear BK102; clear HB; have BK102 := n0_; have HB := n1_; clear n0_ n1_; (try clear hb); (try clear hb2); (try clear hk); (try clear hi); have hcz31_0 : w30.cell? ⟨gb102, 0, none⟩ = some (.int .i64 a0_0) := (blk_cell BK102.out 0).trans rfl; have hcz31_1 : w30.cell? ⟨gb102, 1, none⟩ = some (.int .i64 a0_1) := (blk_cell BK102.out 1).trans rfl; have hcz31_2 : w30.cell? ⟨gb102, 2, none⟩ = some (.int .i64 a0_2) := (blk_cell BK102.out 2).trans rfl; have hcz31_3 : w30.cell? ⟨gb102, 3, none⟩ = some (.int .i64 a0_3) := (blk_cell BK102.out 3).trans rfl; have hcz31_4 : w30.cell? ⟨gb102, 4, none⟩ = some (.string a0_4) := (blk_cell BK102.out 4).trans rfl; have hcz31_5 : w30.cell? ⟨gb102, 5, none⟩ = some (.slice A0_5 l0_5.length c0_5) := (blk_cell BK102.out 5).trans rfl; have hcz31_6 : w30.cell? ⟨gb102, 6, none⟩ = some (.slice A0_6 l0_6.length c0_6) := (blk_cell BK102.out 6).trans rfl; have hfz31_0 := blk_frozen BK102.out 0; have hfz31_1 := blk_frozen BK102.out 1; have hfz31_2 := blk_frozen BK102.out 2; have hfz31_3 := blk_frozen BK102.out 3; have hfz31_4 := blk_frozen BK102.out 4; have hfz31_5 := blk_frozen BK102.out 5; have hfz31_6 := blk_frozen BK102.out 6))
                  go_meet
                  case rel => exact ⟨_, (false), (by first | rfl | (simp; done) | (simp [*]; done)), H', ⟨by have := HJ1.out; have := HJ5.out; first | omega | exact Nat.le_refl _⟩, ⟨by (with_reducible repeat (first | refine blk_drewN ?_ _ | refine blk_drew ?_ | refine blk_alloc ?_ _)); exact BK102.out⟩, ⟨by repeat (first | (with_reducible first | exact HB.out | apply below_alloc | apply pw_below_drewN | apply below_drew1 | refine below_set ?_ GE102.out) | exact HB.out)⟩⟩
              · replace c24 := Bool.eq_false_iff.mpr c24
                subst c24
                have H1 : (msg_Check.j2 kj5 true a0_0 a0_1 a0_2 a0_3 a0_4 l0_5 l0_6) = some r := by rw [if_neg (show ¬ (false = true) by decide)] at H; exact H
                clear H
                have H := H1
                clear H1
                have H' := Aside0.mk H
                clear H
                have hcz32_0 : wc.cell? ⟨gb102, 0, none⟩ = some (.int .i64 a0_0) := (blk_cell BK102.out 0).trans rfl
                have hcz32_1 : wc.cell? ⟨gb102, 1, none⟩ = some (.int .i64 a0_1) := (blk_cell BK102.out 1).trans rfl
                have hcz32_2 : wc.cell? ⟨gb102, 2, none⟩ = some (.int .i64 a0_2) := (blk_cell BK102.out 2).trans rfl
                have hcz32_3 : wc.cell? ⟨gb102, 3, none⟩ = some (.int .i64 a0_3) := (blk_cell BK102.out 3).trans rfl
                have hcz32_4 : wc.cell? ⟨gb102, 4, none⟩ = some (.string a0_4) := (blk_cell BK102.out 4).trans rfl
                have hcz32_5 : wc.cell? ⟨gb102, 5, none⟩ = some (.slice A0_5 l0_5.length c0_5) := (blk_cell BK102.out 5).trans rfl
                have hcz32_6 : wc.cell? ⟨gb102, 6, none⟩ = some (.slice A0_6 l0_6.length c0_6) := (blk_cell BK102.out 6).trans rfl
                have hfz32_0 := blk_frozen BK102.out 0
                have hfz32_1 := blk_frozen BK102.out 1
                have hfz32_2 := blk_frozen BK102.out 2
                have hfz32_3 := blk_frozen BK102.out 3
                have hfz32_4 := blk_frozen BK102.out 4
                have hfz32_5 := blk_frozen BK102.out 5
                have hfz32_6 := blk_frozen BK102.out 6
                go_wp2_with (first | ((with_reducible refine gate_callee (f := 34) rfl ?_); refine goesL_ (some 45) rfl rfl Try.func34 (by kernel_rfl) rfl #[.slice A0_5 l0_5.length c0_5] rfl (by (try simp only [List.map_toArray, List.map_cons, List.map_nil]); first | done | rfl | (simp only [List.length_drop, List.length_take]; rfl)) ?_; (with_reducible refine (msg_proofs.calls _ _ l0_5 false _ ?side1 ?side2 A23.out).mono ?_); (case side1 => repeat (first | exact (Kd.C_below HR0_5.out HB.out) | (with_reducible refine Kd.C_alloc ?_ _) | (with_reducible refine Kd.C_drewN ?_ _) | (with_reducible refine Kd.C_drew ?_))); (case side2 => exact HC0_5.out); rintro e w33 ⟨rfl, hb⟩; refine ⟨_, rfl, ?_⟩; have n0_ := Aside0.mk (blk_below (g := gb102) (o := .cells #[.int .i64 a0_0, .int .i64 a0_1, .int .i64 a0_2, .int .i64 a0_3, .string a0_4, .slice A0_5 l0_5.length c0_5, .slice A0_6 l0_6.length c0_6] 29 (0, 0)) (by (with_reducible repeat (first | refine blk_drewN ?_ _ | refine blk_drew ?_ | refine blk_alloc ?_ _)); exact BK102.out) hb); have n1_ := Aside0.mk (below_step (by repeat (first | (with_reducible first | exact HB.out | apply below_alloc | apply pw_below_drewN | apply below_drew1 | refine below_set ?_ GE102.out) | exact HB.out)) hb); clear BK102; clear HB; have BK102 := n0_; have HB := n1_; clear n0_ n1_; (try clear hb); (try clear hb2); (try clear hk); (try clear hi)))
                go_meet
                case rel => exact ⟨_, (true), (by first | rfl | (simp; done) | (simp [*]; done)), H', ⟨by have := HJ1.out; have := HJ5.out; first | omega | exact Nat.le_refl _⟩, ⟨by (with_reducible repeat (first | refine blk_drewN ?_ _ | refine blk_drew ?_ | refine blk_alloc ?_ _)); exact BK102.out⟩, ⟨by repeat (first | (with_reducible first | exact HB.out | apply below_alloc | apply pw_below_drewN | apply below_drew1 | refine below_set ?_ GE102.out) | exact HB.out)⟩⟩
            case rest =>
              clear HC22
              try clear c1
              try clear c2
              try clear p2
              try clear c3
              try clear c5
              try clear c5b0
              try clear c5b1
              try clear c7
              try clear c7b0
              try clear c9
              try clear c9b0
              try clear c12
              try clear c14
              try clear c16
              try clear c21
              try clear c23
              try clear c24
              try clear c25
              try clear c25b0
              try clear c25b1
              try clear hcz10_0
              try clear hcz10_1
              try clear hcz10_2
              try clear hcz10_3
              try clear hcz10_4
              try clear hcz10_5
              try clear hcz10_6
              try clear hcz17_0
              try clear hcz17_1
              try clear hcz17_2
              try clear hcz17_3
              try clear hcz17_4
              try clear hcz17_5
              try clear hcz17_6
              try clear hcz18_0
              try clear hcz18_1
              try clear hcz18_2
              try clear hcz18_3
              try clear hcz18_4
              try clear hcz18_5
              try clear hcz18_6
              try clear hcz19_0
              try clear hcz19_1
              try clear hcz19_2
              try clear hcz19_3
              try clear hcz19_4
              try clear hcz19_5
              try clear hcz19_6
              try clear hcz20_0
              try clear hcz20_1
              try clear hcz20_2
              try clear hcz20_3
              try clear hcz20_4
              try clear hcz20_5
              try clear hcz20_6
              try clear hcz26_0
              try clear hcz26_1
              try clear hcz26_2
              try clear hcz26_3
              try clear hcz26_4
              try clear hcz26_5
              try clear hcz26_6
              try clear hcz28_0
              try clear hcz28_1
              try clear hcz28_2
              try clear hcz28_3
              try clear hcz28_4
              try clear hcz28_5
              try clear hcz28_6
              try clear hcz29_0
              try clear hcz29_1
              try clear hcz29_2
              try clear hcz29_3
              try clear hcz29_4
              try clear hcz29_5
              try clear hcz29_6
              try clear hcz31_0
              try clear hcz31_1
              try clear hcz31_2
              try clear hcz31_3
              try clear hcz31_4
              try clear hcz31_5
              try clear hcz31_6
              try clear hcz32_0
              try clear hcz32_1
              try clear hcz32_2
              try clear hcz32_3
              try clear hcz32_4
              try clear hcz32_5
              try clear hcz32_6
              try clear hcz4_0
              try clear hcz4_1
              try clear hcz4_2
              try clear hcz4_3
              try clear hcz4_4
              try clear hcz4_5
              try clear hcz4_6
              try clear hcz8_0
              try clear hcz8_1
              try clear hcz8_2
              try clear hcz8_3
              try clear hcz8_4
              try clear hcz8_5
              try clear hcz8_6
              try clear hfz10_0
              try clear hfz10_1
              try clear hfz10_2
              try clear hfz10_3
              try clear hfz10_4
              try clear hfz10_5
              try clear hfz10_6
              try clear hfz17_0
              try clear hfz17_1
              try clear hfz17_2
              try clear hfz17_3
              try clear hfz17_4
              try clear hfz17_5
              try clear hfz17_6
              try clear hfz18_0
              try clear hfz18_1
              try clear hfz18_2
              try clear hfz18_3
              try clear hfz18_4
              try clear hfz18_5
              try clear hfz18_6
              try clear hfz19_0
              try clear hfz19_1
              try clear hfz19_2
              try clear hfz19_3
              try clear hfz19_4
              try clear hfz19_5
              try clear hfz19_6
              try clear hfz20_0
              try clear hfz20_1
              try clear hfz20_2
              try clear hfz20_3
              try clear hfz20_4
              try clear hfz20_5
              try clear hfz20_6
              try clear hfz26_0
              try clear hfz26_1
              try clear hfz26_2
              try clear hfz26_3
              try clear hfz26_4
              try clear hfz26_5
              try clear hfz26_6
              try clear hfz28_0
              try clear hfz28_1
              try clear hfz28_2
              try clear hfz28_3
              try clear hfz28_4
              try clear hfz28_5
              try clear hfz28_6
              try clear hfz29_0
              try clear hfz29_1
              try clear hfz29_2
              try clear hfz29_3
              try clear hfz29_4
              try clear hfz29_5
              try clear hfz29_6
              try clear hfz31_0
              try clear hfz31_1
              try clear hfz31_2
              try clear hfz31_3
              try clear hfz31_4
              try clear hfz31_5
              try clear hfz31_6
              try clear hfz32_0
              try clear hfz32_1
              try clear hfz32_2
              try clear hfz32_3
              try clear hfz32_4
              try clear hfz32_5
              try clear hfz32_6
              try clear hfz4_0
              try clear hfz4_1
              try clear hfz4_2
              try clear hfz4_3
              try clear hfz4_4
              try clear hfz4_5
              try clear hfz4_6
              try clear hfz8_0
              try clear hfz8_1
              try clear hfz8_2
              try clear hfz8_3
              try clear hfz8_4
              try clear hfz8_5
              try clear hfz8_6
              try clear p2
              obtain ⟨kq, x42_21, rfl, HA, HJ21, BK102, HB⟩ := hcut
              cases kq with
              | zero => exact absurd HA.out (by simp [msg_Check.j2])
              | succ kj21 =>
                have H := HA.out
                clear HA
                simp only [msg_Check.j2] at H
                by_cases c34 : x42_21 = true
                · subst c34
                  have H1 : (some (some 1)) = some r := by first | (rw [if_pos rfl] at H; with_reducible exact H) | exact (if_pos rfl).symm.trans H | (simp only [if_true, eq_self_iff_true] at H ⊢; exact H)
                  clear H
                  have H := H1
                  clear H1
                  obtain rfl := Option.some.inj H
                  go_wp2
                  go_ret
                  exact ⟨by first | rfl | (simp [errW_none, errW_some] <;> rfl) | (simp [*, errW_none, errW_some] <;> rfl), by repeat (first | (with_reducible first | exact HB.out | apply below_alloc | apply pw_below_drewN | apply below_drew1 | refine below_set ?_ GE102.out) | exact HB.out)⟩
                · replace c34 := Bool.eq_false_iff.mpr c34
                  subst c34
                  have H1 : ((msg_changes.f l0_6).bind fun t107 => (if t107 = true then (if (l0_6.length : Int) > 0 then (if a0_0 = 6 then (some none) else (some (some 1))) else (some none)) else (some (some 1)))) = some r := by rw [if_neg (show ¬ (false = true) by decide)] at H; exact H
                  clear H
                  have H := H1
                  clear H1
                  replace H := Option.bind_eq_some_iff.mp H
                  obtain ⟨t107, A350, H⟩ := H
                  replace H : (if t107 = true then (if (l0_6.length : Int) > 0 then (if a0_0 = 6 then (some none) else (some (some 1))) else (some none)) else (some (some 1))) = some r := H
                  have A35 := Aside0.mk A350
                  clear A350
                  by_cases c36 : t107 = true
                  · subst c36
                    have H1 : (if (l0_6.length : Int) > 0 then (if a0_0 = 6 then (some none) else (some (some 1))) else (some none)) = some r := by first | (rw [if_pos rfl] at H; with_reducible exact H) | exact (if_pos rfl).symm.trans H | (simp only [if_true, eq_self_iff_true] at H ⊢; exact H)
                    clear H
                    have H := H1
                    clear H1
                    by_cases c37 : (l0_6.length : Int) > 0
                    · rw [if_pos c37] at H
                      have c37b0 : decide (0 < (l0_6.length : Int)) = true := decide_eq_true c37
                      have c37b1 : decide (0 < l0_6.length) = true := decide_eq_true (by omega)
                      clear c37
                      by_cases c38 : a0_0 = 6
                      · rw [if_pos c38] at H
                        have c38b0 : (a0_0 == 6) = true := beq_iff_eq.mpr c38
                        have c38b1 : (a0_0 != 6) = false := bne_eq_false_iff_eq.mpr c38
                        clear c38
                        obtain rfl := Option.some.inj H
                        have hcz39_0 : wc.cell? ⟨gb102, 0, none⟩ = some (.int .i64 a0_0) := (blk_cell BK102.out 0).trans rfl
                        have hcz39_1 : wc.cell? ⟨gb102, 1, none⟩ = some (.int .i64 a0_1) := (blk_cell BK102.out 1).trans rfl
                        have hcz39_2 : wc.cell? ⟨gb102, 2, none⟩ = some (.int .i64 a0_2) := (blk_cell BK102.out 2).trans rfl
                        have hcz39_3 : wc.cell? ⟨gb102, 3, none⟩ = some (.int .i64 a0_3) := (blk_cell BK102.out 3).trans rfl
                        have hcz39_4 : wc.cell? ⟨gb102, 4, none⟩ = some (.string a0_4) := (blk_cell BK102.out 4).trans rfl
                        have hcz39_5 : wc.cell? ⟨gb102, 5, none⟩ = some (.slice A0_5 l0_5.length c0_5) := (blk_cell BK102.out 5).trans rfl
                        have hcz39_6 : wc.cell? ⟨gb102, 6, none⟩ = some (.slice A0_6 l0_6.length c0_6) := (blk_cell BK102.out 6).trans rfl
                        have hfz39_0 := blk_frozen BK102.out 0
                        have hfz39_1 := blk_frozen BK102.out 1
                        have hfz39_2 := blk_frozen BK102.out 2
                        have hfz39_3 := blk_frozen BK102.out 3
                        have hfz39_4 := blk_frozen BK102.out 4
                        have hfz39_5 := blk_frozen BK102.out 5
                        have hfz39_6 := blk_frozen BK102.out 6
                        go_wp2_with (first | ((with_reducible refine gate_callee (f := 35) rfl ?_); refine goesL_ (some 62) rfl rfl Try.func35 (by kernel_rfl) rfl #[.slice A0_6 l0_6.length c0_6] rfl (by (try simp only [List.map_toArray, List.map_cons, List.map_nil]); first | done | rfl | (simp only [List.length_drop, List.length_take]; rfl)) ?_; (with_reducible refine (msg_changes.calls _ _ l0_6 true _ ?side1 ?side2 A35.out).mono ?_); (case side1 => repeat (first | exact (Kd.C_below HR0_6.out HB.out) | (with_reducible refine Kd.C_alloc ?_ _) | (with_reducible refine Kd.C_drewN ?_ _) | (with_reducible refine Kd.C_drew ?_))); (case side2 => exact HC0_6.out); rintro e w40 ⟨rfl, hb⟩; refine ⟨_, rfl, ?_⟩; have n0_ := Aside0.mk (blk_below (g := gb102) (o := .cells #[.int .i64 a0_0, .int .i64 a0_1, .int .i64 a0_2, .int .i64 a0_3, .string a0_4, .slice A0_5 l0_5.length c0_5, .slice A0_6 l0_6.length c0_6] 29 (0, 0)) (by (with_reducible repeat (first | refine blk_drewN ?_ _ | refine blk_drew ?_ | refine blk_alloc ?_ _)); exact BK102.out) hb); have n1_ := Aside0.mk (below_step (by repeat (first | (with_reducible first | exact HB.out | apply below_alloc | apply pw_below_drewN | apply below_drew1 | refine below_set ?_ GE102.out) | exact HB.out)) hb); clear BK102; clear HB; have BK102 := n0_; have HB := n1_; clear n0_ n1_; (try clear hb); (try clear hb2); (try clear hk); (try clear hi); have hcz41_0 : w40.cell? ⟨gb102, 0, none⟩ = some (.int .i64 a0_0) := (blk_cell BK102.out 0).trans rfl; have hcz41_1 : w40.cell? ⟨gb102, 1, none⟩ = some (.int .i64 a0_1) := (blk_cell BK102.out 1).trans rfl; have hcz41_2 : w40.cell? ⟨gb102, 2, none⟩ = some (.int .i64 a0_2) := (blk_cell BK102.out 2).trans rfl; have hcz41_3 : w40.cell? ⟨gb102, 3, none⟩ = some (.int .i64 a0_3) := (blk_cell BK102.out 3).trans rfl; have hcz41_4 : w40.cell? ⟨gb102, 4, none⟩ = some (.string a0_4) := (blk_cell BK102.out 4).trans rfl; have hcz41_5 : w40.cell? ⟨gb102, 5, none⟩ = some (.slice A0_5 l0_5.length c0_5) := (blk_cell BK102.out 5).trans rfl; have hcz41_6 : w40.cell? ⟨gb102, 6, none⟩ = some (.slice A0_6 l0_6.length c0_6) := (blk_cell BK102.out 6).trans rfl; have hfz41_0 := blk_frozen BK102.out 0; have hfz41_1 := blk_frozen BK102.out 1; have hfz41_2 := blk_frozen BK102.out 2; have hfz41_3 := blk_frozen BK102.out 3; have hfz41_4 := blk_frozen BK102.out 4; have hfz41_5 := blk_frozen BK102.out 5; have hfz41_6 := blk_frozen BK102.out 6))
                        go_ret
                        exact ⟨by first | rfl | (simp [errW_none, errW_some] <;> rfl) | (simp [*, errW_none, errW_some] <;> rfl), by repeat (first | (with_reducible first | exact HB.out | apply below_alloc | apply pw_below_drewN | apply below_drew1 | refine below_set ?_ GE102.out) | exact HB.out)⟩
                      · rw [if_neg c38] at H
                        have c38b0 : (a0_0 == 6) = false := beq_eq_false_iff_ne.mpr c38
                        have c38b1 : (a0_0 != 6) = true := bne_iff_ne.mpr c38
                        obtain rfl := Option.some.inj H
                        have hcz42_0 : wc.cell? ⟨gb102, 0, none⟩ = some (.int .i64 a0_0) := (blk_cell BK102.out 0).trans rfl
                        have hcz42_1 : wc.cell? ⟨gb102, 1, none⟩ = some (.int .i64 a0_1) := (blk_cell BK102.out 1).trans rfl
                        have hcz42_2 : wc.cell? ⟨gb102, 2, none⟩ = some (.int .i64 a0_2) := (blk_cell BK102.out 2).trans rfl
                        have hcz42_3 : wc.cell? ⟨gb102, 3, none⟩ = some (.int .i64 a0_3) := (blk_cell BK102.out 3).trans rfl
                        have hcz42_4 : wc.cell? ⟨gb102, 4, none⟩ = some (.string a0_4) := (blk_cell BK102.out 4).trans rfl
                        have hcz42_5 : wc.cell? ⟨gb102, 5, none⟩ = some (.slice A0_5 l0_5.length c0_5) := (blk_cell BK102.out 5).trans rfl
                        have hcz42_6 : wc.cell? ⟨gb102, 6, none⟩ = some (.slice A0_6 l0_6.length c0_6) := (blk_cell BK102.out 6).trans rfl
                        have hfz42_0 := blk_frozen BK102.out 0
                        have hfz42_1 := blk_frozen BK102.out 1
                        have hfz42_2 := blk_frozen BK102.out 2
                        have hfz42_3 := blk_frozen BK102.out 3
                        have hfz42_4 := blk_frozen BK102.out 4
                        have hfz42_5 := blk_frozen BK102.out 5
                        have hfz42_6 := blk_frozen BK102.out 6
                        go_wp2_with (first | ((with_reducible refine gate_callee (f := 35) rfl ?_); refine goesL_ (some 62) rfl rfl Try.func35 (by kernel_rfl) rfl #[.slice A0_6 l0_6.length c0_6] rfl (by (try simp only [List.map_toArray, List.map_cons, List.map_nil]); first | done | rfl | (simp only [List.length_drop, List.length_take]; rfl)) ?_; (with_reducible refine (msg_changes.calls _ _ l0_6 true _ ?side1 ?side2 A35.out).mono ?_); (case side1 => repeat (first | exact (Kd.C_below HR0_6.out HB.out) | (with_reducible refine Kd.C_alloc ?_ _) | (with_reducible refine Kd.C_drewN ?_ _) | (with_reducible refine Kd.C_drew ?_))); (case side2 => exact HC0_6.out); rintro e w43 ⟨rfl, hb⟩; refine ⟨_, rfl, ?_⟩; have n0_ := Aside0.mk (blk_below (g := gb102) (o := .cells #[.int .i64 a0_0, .int .i64 a0_1, .int .i64 a0_2, .int .i64 a0_3, .string a0_4, .slice A0_5 l0_5.length c0_5, .slice A0_6 l0_6.length c0_6] 29 (0, 0)) (by (with_reducible repeat (first | refine blk_drewN ?_ _ | refine blk_drew ?_ | refine blk_alloc ?_ _)); exact BK102.out) hb); have n1_ := Aside0.mk (below_step (by repeat (first | (with_reducible first | exact HB.out | apply below_alloc | apply pw_below_drewN | apply below_drew1 | refine below_set ?_ GE102.out) | exact HB.out)) hb); clear BK102; clear HB; have BK102 := n0_; have HB := n1_; clear n0_ n1_; (try clear hb); (try clear hb2); (try clear hk); (try clear hi); have hcz44_0 : w43.cell? ⟨gb102, 0, none⟩ = some (.int .i64 a0_0) := (blk_cell BK102.out 0).trans rfl; have hcz44_1 : w43.cell? ⟨gb102, 1, none⟩ = some (.int .i64 a0_1) := (blk_cell BK102.out 1).trans rfl; have hcz44_2 : w43.cell? ⟨gb102, 2, none⟩ = some (.int .i64 a0_2) := (blk_cell BK102.out 2).trans rfl; have hcz44_3 : w43.cell? ⟨gb102, 3, none⟩ = some (.int .i64 a0_3) := (blk_cell BK102.out 3).trans rfl; have hcz44_4 : w43.cell? ⟨gb102, 4, none⟩ = some (.string a0_4) := (blk_cell BK102.out 4).trans rfl; have hcz44_5 : w43.cell? ⟨gb102, 5, none⟩ = some (.slice A0_5 l0_5.length c0_5) := (blk_cell BK102.out 5).trans rfl; have hcz44_6 : w43.cell? ⟨gb102, 6, none⟩ = some (.slice A0_6 l0_6.length c0_6) := (blk_cell BK102.out 6).trans rfl; have hfz44_0 := blk_frozen BK102.out 0; have hfz44_1 := blk_frozen BK102.out 1; have hfz44_2 := blk_frozen BK102.out 2; have hfz44_3 := blk_frozen BK102.out 3; have hfz44_4 := blk_frozen BK102.out 4; have hfz44_5 := blk_frozen BK102.out 5; have hfz44_6 := blk_frozen BK102.out 6))
                        go_ret
                        exact ⟨by first | rfl | (simp [errW_none, errW_some] <;> rfl) | (simp [*, errW_none, errW_some] <;> rfl), by repeat (first | (with_reducible first | exact HB.out | apply below_alloc | apply pw_below_drewN | apply below_drew1 | refine below_set ?_ GE102.out) | exact HB.out)⟩
                    · rw [if_neg c37] at H
                      have c37b0 : decide (0 < (l0_6.length : Int)) = false := decide_eq_false c37
                      have c37b1 : decide (0 < l0_6.length) = false := decide_eq_false (by omega)
                      clear c37
                      obtain rfl := Option.some.inj H
                      have hcz45_0 : wc.cell? ⟨gb102, 0, none⟩ = some (.int .i64 a0_0) := (blk_cell BK102.out 0).trans rfl
                      have hcz45_1 : wc.cell? ⟨gb102, 1, none⟩ = some (.int .i64 a0_1) := (blk_cell BK102.out 1).trans rfl
                      have hcz45_2 : wc.cell? ⟨gb102, 2, none⟩ = some (.int .i64 a0_2) := (blk_cell BK102.out 2).trans rfl
                      have hcz45_3 : wc.cell? ⟨gb102, 3, none⟩ = some (.int .i64 a0_3) := (blk_cell BK102.out 3).trans rfl
                      have hcz45_4 : wc.cell? ⟨gb102, 4, none⟩ = some (.string a0_4) := (blk_cell BK102.out 4).trans rfl
                      have hcz45_5 : wc.cell? ⟨gb102, 5, none⟩ = some (.slice A0_5 l0_5.length c0_5) := (blk_cell BK102.out 5).trans rfl
                      have hcz45_6 : wc.cell? ⟨gb102, 6, none⟩ = some (.slice A0_6 l0_6.length c0_6) := (blk_cell BK102.out 6).trans rfl
                      have hfz45_0 := blk_frozen BK102.out 0
                      have hfz45_1 := blk_frozen BK102.out 1
                      have hfz45_2 := blk_frozen BK102.out 2
                      have hfz45_3 := blk_frozen BK102.out 3
                      have hfz45_4 := blk_frozen BK102.out 4
                      have hfz45_5 := blk_frozen BK102.out 5
                      have hfz45_6 := blk_frozen BK102.out 6
                      go_wp2_with (first | ((with_reducible refine gate_callee (f := 35) rfl ?_); refine goesL_ (some 62) rfl rfl Try.func35 (by kernel_rfl) rfl #[.slice A0_6 l0_6.length c0_6] rfl (by (try simp only [List.map_toArray, List.map_cons, List.map_nil]); first | done | rfl | (simp only [List.length_drop, List.length_take]; rfl)) ?_; (with_reducible refine (msg_changes.calls _ _ l0_6 true _ ?side1 ?side2 A35.out).mono ?_); (case side1 => repeat (first | exact (Kd.C_below HR0_6.out HB.out) | (with_reducible refine Kd.C_alloc ?_ _) | (with_reducible refine Kd.C_drewN ?_ _) | (with_reducible refine Kd.C_drew ?_))); (case side2 => exact HC0_6.out); rintro e w46 ⟨rfl, hb⟩; refine ⟨_, rfl, ?_⟩; have n0_ := Aside0.mk (blk_below (g := gb102) (o := .cells #[.int .i64 a0_0, .int .i64 a0_1, .int .i64 a0_2, .int .i64 a0_3, .string a0_4, .slice A0_5 l0_5.length c0_5, .slice A0_6 l0_6.length c0_6] 29 (0, 0)) (by (with_reducible repeat (first | refine blk_drewN ?_ _ | refine blk_drew ?_ | refine blk_alloc ?_ _)); exact BK102.out) hb); have n1_ := Aside0.mk (below_step (by repeat (first | (with_reducible first | exact HB.out | apply below_alloc | apply pw_below_drewN | apply below_drew1 | refine below_set ?_ GE102.out) | exact HB.out)) hb); clear BK102; clear HB; have BK102 := n0_; have HB := n1_; clear n0_ n1_; (try clear hb); (try clear hb2); (try clear hk); (try clear hi); have hcz47_0 : w46.cell? ⟨gb102, 0, none⟩ = some (.int .i64 a0_0) := (blk_cell BK102.out 0).trans rfl; have hcz47_1 : w46.cell? ⟨gb102, 1, none⟩ = some (.int .i64 a0_1) := (blk_cell BK102.out 1).trans rfl; have hcz47_2 : w46.cell? ⟨gb102, 2, none⟩ = some (.int .i64 a0_2) := (blk_cell BK102.out 2).trans rfl; have hcz47_3 : w46.cell? ⟨gb102, 3, none⟩ = some (.int .i64 a0_3) := (blk_cell BK102.out 3).trans rfl; have hcz47_4 : w46.cell? ⟨gb102, 4, none⟩ = some (.string a0_4) := (blk_cell BK102.out 4).trans rfl; have hcz47_5 : w46.cell? ⟨gb102, 5, none⟩ = some (.slice A0_5 l0_5.length c0_5) := (blk_cell BK102.out 5).trans rfl; have hcz47_6 : w46.cell? ⟨gb102, 6, none⟩ = some (.slice A0_6 l0_6.length c0_6) := (blk_cell BK102.out 6).trans rfl; have hfz47_0 := blk_frozen BK102.out 0; have hfz47_1 := blk_frozen BK102.out 1; have hfz47_2 := blk_frozen BK102.out 2; have hfz47_3 := blk_frozen BK102.out 3; have hfz47_4 := blk_frozen BK102.out 4; have hfz47_5 := blk_frozen BK102.out 5; have hfz47_6 := blk_frozen BK102.out 6))
                      go_ret
                      exact ⟨by first | rfl | (simp [errW_none, errW_some] <;> rfl) | (simp [*, errW_none, errW_some] <;> rfl), by repeat (first | (with_reducible first | exact HB.out | apply below_alloc | apply pw_below_drewN | apply below_drew1 | refine below_set ?_ GE102.out) | exact HB.out)⟩
                  · replace c36 := Bool.eq_false_iff.mpr c36
                    subst c36
                    have H1 : (some (some 1)) = some r := by rw [if_neg (show ¬ (false = true) by decide)] at H; exact H
                    clear H
                    have H := H1
                    clear H1
                    obtain rfl := Option.some.inj H
                    have hcz48_0 : wc.cell? ⟨gb102, 0, none⟩ = some (.int .i64 a0_0) := (blk_cell BK102.out 0).trans rfl
                    have hcz48_1 : wc.cell? ⟨gb102, 1, none⟩ = some (.int .i64 a0_1) := (blk_cell BK102.out 1).trans rfl
                    have hcz48_2 : wc.cell? ⟨gb102, 2, none⟩ = some (.int .i64 a0_2) := (blk_cell BK102.out 2).trans rfl
                    have hcz48_3 : wc.cell? ⟨gb102, 3, none⟩ = some (.int .i64 a0_3) := (blk_cell BK102.out 3).trans rfl
                    have hcz48_4 : wc.cell? ⟨gb102, 4, none⟩ = some (.string a0_4) := (blk_cell BK102.out 4).trans rfl
                    have hcz48_5 : wc.cell? ⟨gb102, 5, none⟩ = some (.slice A0_5 l0_5.length c0_5) := (blk_cell BK102.out 5).trans rfl
                    have hcz48_6 : wc.cell? ⟨gb102, 6, none⟩ = some (.slice A0_6 l0_6.length c0_6) := (blk_cell BK102.out 6).trans rfl
                    have hfz48_0 := blk_frozen BK102.out 0
                    have hfz48_1 := blk_frozen BK102.out 1
                    have hfz48_2 := blk_frozen BK102.out 2
                    have hfz48_3 := blk_frozen BK102.out 3
                    have hfz48_4 := blk_frozen BK102.out 4
                    have hfz48_5 := blk_frozen BK102.out 5
                    have hfz48_6 := blk_frozen BK102.out 6
                    go_wp2_with (first | ((with_reducible refine gate_callee (f := 35) rfl ?_); refine goesL_ (some 62) rfl rfl Try.func35 (by kernel_rfl) rfl #[.slice A0_6 l0_6.length c0_6] rfl (by (try simp only [List.map_toArray, List.map_cons, List.map_nil]); first | done | rfl | (simp only [List.length_drop, List.length_take]; rfl)) ?_; (with_reducible refine (msg_changes.calls _ _ l0_6 false _ ?side1 ?side2 A35.out).mono ?_); (case side1 => repeat (first | exact (Kd.C_below HR0_6.out HB.out) | (with_reducible refine Kd.C_alloc ?_ _) | (with_reducible refine Kd.C_drewN ?_ _) | (with_reducible refine Kd.C_drew ?_))); (case side2 => exact HC0_6.out); rintro e w49 ⟨rfl, hb⟩; refine ⟨_, rfl, ?_⟩; have n0_ := Aside0.mk (blk_below (g := gb102) (o := .cells #[.int .i64 a0_0, .int .i64 a0_1, .int .i64 a0_2, .int .i64 a0_3, .string a0_4, .slice A0_5 l0_5.length c0_5, .slice A0_6 l0_6.length c0_6] 29 (0, 0)) (by (with_reducible repeat (first | refine blk_drewN ?_ _ | refine blk_drew ?_ | refine blk_alloc ?_ _)); exact BK102.out) hb); have n1_ := Aside0.mk (below_step (by repeat (first | (with_reducible first | exact HB.out | apply below_alloc | apply pw_below_drewN | apply below_drew1 | refine below_set ?_ GE102.out) | exact HB.out)) hb); clear BK102; clear HB; have BK102 := n0_; have HB := n1_; clear n0_ n1_; (try clear hb); (try clear hb2); (try clear hk); (try clear hi)))
                    go_ret
                    exact ⟨by first | rfl | (simp [errW_none, errW_some] <;> rfl) | (simp [*, errW_none, errW_some] <;> rfl), by repeat (first | (with_reducible first | exact HB.out | apply below_alloc | apply pw_below_drewN | apply below_drew1 | refine below_set ?_ GE102.out) | exact HB.out)⟩
end Go.Proofs.Ytkaoojcafefjjaa.Ms
