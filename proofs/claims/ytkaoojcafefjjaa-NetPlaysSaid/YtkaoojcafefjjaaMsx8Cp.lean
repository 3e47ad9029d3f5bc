-- Cut by a program of this session (wip/shake.py) out of a text of this seat: what this claim doesn't reach is struck out. Lean checks it.
import Derived.Test.YtkaoojcafefjjaaMsx0Cp
import Derived.Test.YtkaoojcafefjjaaMsx7Cp
namespace Go.Proofs.Ytkaoojcafefjjaa.Ms
open Go.RowKit Go.Proofs.YtkaoojcafefjjaaW.PrintWords Go.Proofs.YtkaoojcafefjjaaW.PrintLast Go.Proofs.YtkaoojcafefjjaaW.PrintMore
attribute [local go_sem] max2_int min2_int max_two min_two max_three min_three max_four min_four   -- for this text's walks alone
set_option linter.unusedVariables false
set_option linter.unusedSimpArgs false
attribute [local go_sem] eqlErr neqErr eqlErrNil neqErrNil
open Go.Proofs.Ytkaoojcafefjjaa.Mw
mutual
def becketref12_May.j0 : Nat → Int → Int → Int → Int → Int → ByteArray → List (S68) → List (S58) → Option (Bool)
  | 0, _, _, _, _, _, _, _, _ => none
  | k + 1, x3, x177000, x177001, x177002, x177003, x177004, x177005, x177006 => if x177000 < 1 then (becketref12_May.j1 k true x177000 x177001 x177002 x177003 x177004 x177005 x177006) else (if x177000 > 7 then (becketref12_May.j1 k true x177000 x177001 x177002 x177003 x177004 x177005 x177006) else ((becketref12_in.f x177001 12).bind fun t177 => (if t177 = true then ((becketref12_in.f x177002 64).bind fun t178 => (if t178 = true then ((becketref12_in.f x177003 x3).bind fun t179 => (if t179 = true then (becketref12_May.j1 k (decide ((x177004.size : Int) > 4096)) x177000 x177001 x177002 x177003 x177004 x177005 x177006) else (becketref12_May.j1 k true x177000 x177001 x177002 x177003 x177004 x177005 x177006))) else (becketref12_May.j1 k true x177000 x177001 x177002 x177003 x177004 x177005 x177006))) else (becketref12_May.j1 k true x177000 x177001 x177002 x177003 x177004 x177005 x177006))))
def becketref12_May.j1 : Nat → Bool → Int → Int → Int → Int → ByteArray → List (S68) → List (S58) → Option (Bool)
  | 0, _, _, _, _, _, _, _, _ => none
  | k + 1, x43, x177000, x177001, x177002, x177003, x177004, x177005, x177006 => if x43 = true then (some false) else (if (x177005.length : Int) > 0 then (if x177000 = 5 then (if (x177006.length : Int) > 0 then (if x177000 = 6 then (becketref12_May.j2 k (decide ((x177006.length : Int) > 13)) x177000 x177001 x177002 x177003 x177004 x177005 x177006) else (becketref12_May.j2 k true x177000 x177001 x177002 x177003 x177004 x177005 x177006)) else (becketref12_May.j2 k (decide ((x177006.length : Int) > 13)) x177000 x177001 x177002 x177003 x177004 x177005 x177006)) else (becketref12_May.j2 k true x177000 x177001 x177002 x177003 x177004 x177005 x177006)) else (if (x177006.length : Int) > 0 then (if x177000 = 6 then (becketref12_May.j2 k (decide ((x177006.length : Int) > 13)) x177000 x177001 x177002 x177003 x177004 x177005 x177006) else (becketref12_May.j2 k true x177000 x177001 x177002 x177003 x177004 x177005 x177006)) else (becketref12_May.j2 k (decide ((x177006.length : Int) > 13)) x177000 x177001 x177002 x177003 x177004 x177005 x177006)))
def becketref12_May.j2 : Nat → Bool → Int → Int → Int → Int → ByteArray → List (S68) → List (S58) → Option (Bool)
  | 0, _, _, _, _, _, _, _, _ => none
  | k + 1, x69, x177000, x177001, x177002, x177003, x177004, x177005, x177006 => if x69 = true then (some false) else ((becketref12_proofs.f k x177005).bind fun t180 => (becketref12_May.l0 k t180 0 x177000 x177001 x177002 x177003 x177004 x177005 x177006))
def becketref12_May.l0 : Nat → Bool → Int → Int → Int → Int → Int → ByteArray → List (S68) → List (S58) → Option (Bool)
  | 0, _, _, _, _, _, _, _, _, _ => none
  | k + 1, x4, x5, x177000, x177001, x177002, x177003, x177004, x177005, x177006 => if x5 < (x177006.length : Int) then (if 0 ≤ x5 then ((becketref12_proofs.f k ((rd_T58 x177006 x5).f2)).bind fun t183 => (if x4 = true then (if t183 = true then ((becketref12_in.f ((rd_T58 x177006 x5).f0) 12).bind fun t184 => (if t184 = true then ((becketref12_in.f ((rd_T58 x177006 x5).f1) 64).bind fun t185 => (becketref12_May.l0 k t185 (wrap64 (x5 + 1)) x177000 x177001 x177002 x177003 x177004 x177005 x177006)) else (becketref12_May.l0 k false (wrap64 (x5 + 1)) x177000 x177001 x177002 x177003 x177004 x177005 x177006))) else (becketref12_May.l0 k false (wrap64 (x5 + 1)) x177000 x177001 x177002 x177003 x177004 x177005 x177006)) else (becketref12_May.l0 k false (wrap64 (x5 + 1)) x177000 x177001 x177002 x177003 x177004 x177005 x177006))) else (none)) else (some x4)
end
def becketref12_May.f (k : Nat) (a0_0 : Int) (a0_1 : Int) (a0_2 : Int) (a0_3 : Int) (a0_4 : ByteArray) (l0_5 : List (S68)) (l0_6 : List (S58)) : Option (Bool) := if a0_0 = 7 then (becketref12_May.j0 k 1000 a0_0 a0_1 a0_2 a0_3 a0_4 l0_5 l0_6) else (becketref12_May.j0 k 64 a0_0 a0_1 a0_2 a0_3 a0_4 l0_5 l0_6)
set_option maxHeartbeats 8000000 in
set_option maxRecDepth 100000 in
theorem becketref12_May.calls (k : Nat) (a0_0 : Int) (a0_1 : Int) (a0_2 : Int) (a0_3 : Int) (a0_4 : ByteArray) (A0_5 : Option Addr) (c0_5 : Nat) (l0_5 : List (S68)) (A0_6 : Option Addr) (c0_6 : Nat) (l0_6 : List (S58)) (r : Bool) (w : World) (hr0_5 : Kd.C k68 w A0_5 l0_5.length l0_5) (hc0_5 : l0_5.length ≤ c0_5) (hr0_6 : Kd.C k58 w A0_6 l0_6.length l0_6) (hc0_6 : l0_6.length ≤ c0_6) (h : becketref12_May.f k a0_0 a0_1 a0_2 a0_3 a0_4 l0_5 l0_6 = some r) :
    Calls Try.prog 21 #[.agg #[.int .i64 a0_0, .int .i64 a0_1, .int .i64 a0_2, .int .i64 a0_3, .string a0_4, .slice A0_5 l0_5.length c0_5, .slice A0_6 l0_6.length c0_6]] w fun e w' => e = .returned (.bool r) ∧ Below w.heap.size w w' := by
  have hu29 := Try.underlying29
  have hu58 := Try.underlying58
  have HR0_5 := Aside0.mk hr0_5
  have HC0_5 := Aside0.mk hc0_5
  clear hr0_5 hc0_5
  have HR0_6 := Aside0.mk hr0_6
  have HC0_6 := Aside0.mk hc0_6
  clear hr0_6 hc0_6
  have HB := Aside0.mk (Below.refl w.heap.size w)
  have H : (if a0_0 = 7 then (becketref12_May.j0 k 1000 a0_0 a0_1 a0_2 a0_3 a0_4 l0_5 l0_6) else (becketref12_May.j0 k 64 a0_0 a0_1 a0_2 a0_3 a0_4 l0_5 l0_6)) = some r := h
  clear h
  have HC2 := Aside0.mk H
  clear H
  go_enter Try.func21, Try.ntmps21
  go_upto_if 10 with (first | ((with_reducible refine gate_dst (N := 1) rfl ?_); (try (refine gate_guard (by rfl) ?_; dsimp only)); refine box_event ?hg (N := 1) ?hd (cs := #[.int .i64 a0_0, .int .i64 a0_1, .int .i64 a0_2, .int .i64 a0_3, .string a0_4, .slice A0_5 l0_5.length c0_5, .slice A0_6 l0_6.length c0_6]) (t := 29) ?hr ?_; (case hd => rfl); (case hg => rfl); (case hr => first | (go_simp; done) | (go_simp; rfl)); intro gb176 hg w3 hbox hb; have n0_ := Aside0.mk (below_step (by repeat (first | (with_reducible first | exact HB.out | apply below_alloc | apply pw_below_drewN | apply below_drew1) | exact HB.out)) hb); have n1_ := Aside0.mk (hbox); have n2_ := Aside0.mk ((by rw [hg]; exact (below_size (by repeat (first | (with_reducible first | exact HB.out | apply below_alloc | apply pw_below_drewN | apply below_drew1) | exact HB.out))) : w.heap.size ≤ gb176)); have n3_ := Aside0.mk ((by rw [hg]; exact (below_size (by repeat (first | (with_reducible first | exact HB.out | apply below_alloc | apply pw_below_drewN | apply below_drew1) | exact HB.out))) : w.heap.size ≤ gb176)); clear HB; have HB := n0_; have BK176 := n1_; have GW176 := n2_; have GE176 := n3_; clear n0_ n1_ n2_ n3_; clear hb hbox hg; have hcz4_0 : w3.cell? ⟨gb176, 0, none⟩ = some (.int .i64 a0_0) := (blk_cell BK176.out 0).trans rfl; have hcz4_1 : w3.cell? ⟨gb176, 1, none⟩ = some (.int .i64 a0_1) := (blk_cell BK176.out 1).trans rfl; have hcz4_2 : w3.cell? ⟨gb176, 2, none⟩ = some (.int .i64 a0_2) := (blk_cell BK176.out 2).trans rfl; have hcz4_3 : w3.cell? ⟨gb176, 3, none⟩ = some (.int .i64 a0_3) := (blk_cell BK176.out 3).trans rfl; have hcz4_4 : w3.cell? ⟨gb176, 4, none⟩ = some (.string a0_4) := (blk_cell BK176.out 4).trans rfl; have hcz4_5 : w3.cell? ⟨gb176, 5, none⟩ = some (.slice A0_5 l0_5.length c0_5) := (blk_cell BK176.out 5).trans rfl; have hcz4_6 : w3.cell? ⟨gb176, 6, none⟩ = some (.slice A0_6 l0_6.length c0_6) := (blk_cell BK176.out 6).trans rfl; have hfz4_0 := blk_frozen BK176.out 0; have hfz4_1 := blk_frozen BK176.out 1; have hfz4_2 := blk_frozen BK176.out 2; have hfz4_3 := blk_frozen BK176.out 3; have hfz4_4 := blk_frozen BK176.out 4; have hfz4_5 := blk_frozen BK176.out 5; have hfz4_6 := blk_frozen BK176.out 6))
  (try simp only [Act.put, List.setIfInBounds_toArray, List.set_cons_zero, List.set_cons_succ])
  go_cut [3] (fun v3 wc => ∃ (kq : Nat) (x3_1 : Int), v3 = .int .i64 x3_1 ∧ Aside0 (becketref12_May.j0 kq x3_1 a0_0 a0_1 a0_2 a0_3 a0_4 l0_5 l0_6 = some r) ∧ Aside0 (kq ≤ k) ∧ Aside0 (wc.heap[gb176]? = some (.cells #[.int .i64 a0_0, .int .i64 a0_1, .int .i64 a0_2, .int .i64 a0_3, .string a0_4, (.slice A0_5 l0_5.length c0_5), (.slice A0_6 l0_6.length c0_6)] 29 (0, 0))) ∧ Aside0 (Below w.heap.size w wc))
  case first =>
    have H := HC2.out
    clear HC2
    by_cases c5 : a0_0 = 7
    · rw [if_pos c5] at H
      have c5b0 : (a0_0 == 7) = true := beq_iff_eq.mpr c5
      have c5b1 : (a0_0 != 7) = false := bne_eq_false_iff_eq.mpr c5
      clear c5
      (first | rw [c5b0] | (simp only [i64_w, i32_w]; rw [c5b0]) | skip)
      have H' := Aside0.mk H
      clear H
      go_wp2
      go_meet
      case rel => exact ⟨_, (1000), (by first | rfl | (simp; done) | (simp [*]; done)), H', ⟨by first | omega | exact Nat.le_refl _⟩, ⟨by (with_reducible repeat (first | refine blk_drewN ?_ _ | refine blk_drew ?_ | refine blk_alloc ?_ _)); exact BK176.out⟩, ⟨by repeat (first | (with_reducible first | exact HB.out | apply below_alloc | apply pw_below_drewN | apply below_drew1 | refine below_set ?_ GE176.out) | exact HB.out)⟩⟩
    · rw [if_neg c5] at H
      have c5b0 : (a0_0 == 7) = false := beq_eq_false_iff_ne.mpr c5
      have c5b1 : (a0_0 != 7) = true := bne_iff_ne.mpr c5
      (first | rw [c5b0] | (simp only [i64_w, i32_w]; rw [c5b0]) | skip)
      have H' := Aside0.mk H
      clear H
      go_wp2
      go_meet
      case rel => exact ⟨_, (64), (by first | rfl | (simp; done) | (simp [*]; done)), H', ⟨by first | omega | exact Nat.le_refl _⟩, ⟨by (with_reducible repeat (first | refine blk_drewN ?_ _ | refine blk_drew ?_ | refine blk_alloc ?_ _)); exact BK176.out⟩, ⟨by repeat (first | (with_reducible first | exact HB.out | apply below_alloc | apply pw_below_drewN | apply below_drew1 | refine below_set ?_ GE176.out) | exact HB.out)⟩⟩
  case rest =>
    clear HC2
    try clear c2
    try clear p2
    try clear c5
    try clear c5b0
    try clear c5b1
    try clear hcz4_0
    try clear hcz4_1
    try clear hcz4_2
    try clear hcz4_3
    try clear hcz4_4
    try clear hcz4_5
    try clear hcz4_6
    try clear hfz4_0
    try clear hfz4_1
    try clear hfz4_2
    try clear hfz4_3
    try clear hfz4_4
    try clear hfz4_5
    try clear hfz4_6
    obtain ⟨kq, x3_1, rfl, HA, HJ1, BK176, HB⟩ := hcut
    cases kq with
    | zero => exact absurd HA.out (by simp [becketref12_May.j0])
    | succ kj1 =>
      have H := HA.out
      clear HA
      simp only [becketref12_May.j0] at H
      have HC6 := Aside0.mk H
      clear H
      go_upto_region 4 with (fail)
      go_cut [43] (fun v43 wc => ∃ (kq : Nat) (x43_5 : Bool), v43 = .bool x43_5 ∧ Aside0 (becketref12_May.j1 kq x43_5 a0_0 a0_1 a0_2 a0_3 a0_4 l0_5 l0_6 = some r) ∧ Aside0 (kq ≤ kj1) ∧ Aside0 (wc.heap[gb176]? = some (.cells #[.int .i64 a0_0, .int .i64 a0_1, .int .i64 a0_2, .int .i64 a0_3, .string a0_4, (.slice A0_5 l0_5.length c0_5), (.slice A0_6 l0_6.length c0_6)] 29 (0, 0))) ∧ Aside0 (Below w.heap.size w wc))
      case first =>
        have H := HC6.out
        clear HC6
        by_cases c7 : a0_0 < 1
        · rw [if_pos c7] at H
          have c7b0 : decide (a0_0 < 1) = true := decide_eq_true c7
          clear c7
          (first | rw [c7b0] | (simp only [i64_w, i32_w]; rw [c7b0]) | skip)
          have H' := Aside0.mk H
          clear H
          have hcz8_0 : wc.cell? ⟨gb176, 0, none⟩ = some (.int .i64 a0_0) := (blk_cell BK176.out 0).trans rfl
          have hcz8_1 : wc.cell? ⟨gb176, 1, none⟩ = some (.int .i64 a0_1) := (blk_cell BK176.out 1).trans rfl
          have hcz8_2 : wc.cell? ⟨gb176, 2, none⟩ = some (.int .i64 a0_2) := (blk_cell BK176.out 2).trans rfl
          have hcz8_3 : wc.cell? ⟨gb176, 3, none⟩ = some (.int .i64 a0_3) := (blk_cell BK176.out 3).trans rfl
          have hcz8_4 : wc.cell? ⟨gb176, 4, none⟩ = some (.string a0_4) := (blk_cell BK176.out 4).trans rfl
          have hcz8_5 : wc.cell? ⟨gb176, 5, none⟩ = some (.slice A0_5 l0_5.length c0_5) := (blk_cell BK176.out 5).trans rfl
          have hcz8_6 : wc.cell? ⟨gb176, 6, none⟩ = some (.slice A0_6 l0_6.length c0_6) := (blk_cell BK176.out 6).trans rfl
          have hfz8_0 := blk_frozen BK176.out 0
          have hfz8_1 := blk_frozen BK176.out 1
          have hfz8_2 := blk_frozen BK176.out 2
          have hfz8_3 := blk_frozen BK176.out 3
          have hfz8_4 := blk_frozen BK176.out 4
          have hfz8_5 := blk_frozen BK176.out 5
          have hfz8_6 := blk_frozen BK176.out 6
          go_wp2
          go_meet
          case rel => exact ⟨_, (true), (by first | rfl | (simp; done) | (simp [*]; done)), H', ⟨by have := HJ1.out; first | omega | exact Nat.le_refl _⟩, ⟨by (with_reducible repeat (first | refine blk_drewN ?_ _ | refine blk_drew ?_ | refine blk_alloc ?_ _)); exact BK176.out⟩, ⟨by repeat (first | (with_reducible first | exact HB.out | apply below_alloc | apply pw_below_drewN | apply below_drew1 | refine below_set ?_ GE176.out) | exact HB.out)⟩⟩
        · rw [if_neg c7] at H
          have c7b0 : decide (a0_0 < 1) = false := decide_eq_false c7
          clear c7
          (first | rw [c7b0] | (simp only [i64_w, i32_w]; rw [c7b0]) | skip)
          by_cases c9 : a0_0 > 7
          · rw [if_pos c9] at H
            have c9b0 : decide (7 < a0_0) = true := decide_eq_true c9
            clear c9
            have H' := Aside0.mk H
            clear H
            have hcz10_0 : wc.cell? ⟨gb176, 0, none⟩ = some (.int .i64 a0_0) := (blk_cell BK176.out 0).trans rfl
            have hcz10_1 : wc.cell? ⟨gb176, 1, none⟩ = some (.int .i64 a0_1) := (blk_cell BK176.out 1).trans rfl
            have hcz10_2 : wc.cell? ⟨gb176, 2, none⟩ = some (.int .i64 a0_2) := (blk_cell BK176.out 2).trans rfl
            have hcz10_3 : wc.cell? ⟨gb176, 3, none⟩ = some (.int .i64 a0_3) := (blk_cell BK176.out 3).trans rfl
            have hcz10_4 : wc.cell? ⟨gb176, 4, none⟩ = some (.string a0_4) := (blk_cell BK176.out 4).trans rfl
            have hcz10_5 : wc.cell? ⟨gb176, 5, none⟩ = some (.slice A0_5 l0_5.length c0_5) := (blk_cell BK176.out 5).trans rfl
            have hcz10_6 : wc.cell? ⟨gb176, 6, none⟩ = some (.slice A0_6 l0_6.length c0_6) := (blk_cell BK176.out 6).trans rfl
            have hfz10_0 := blk_frozen BK176.out 0
            have hfz10_1 := blk_frozen BK176.out 1
            have hfz10_2 := blk_frozen BK176.out 2
            have hfz10_3 := blk_frozen BK176.out 3
            have hfz10_4 := blk_frozen BK176.out 4
            have hfz10_5 := blk_frozen BK176.out 5
            have hfz10_6 := blk_frozen BK176.out 6
            go_wp2
            go_meet
            case rel => exact ⟨_, (true), (by first | rfl | (simp; done) | (simp [*]; done)), H', ⟨by have := HJ1.out; first | omega | exact Nat.le_refl _⟩, ⟨by (with_reducible repeat (first | refine blk_drewN ?_ _ | refine blk_drew ?_ | refine blk_alloc ?_ _)); exact BK176.out⟩, ⟨by repeat (first | (with_reducible first | exact HB.out | apply below_alloc | apply pw_below_drewN | apply below_drew1 | refine below_set ?_ GE176.out) | exact HB.out)⟩⟩
          · rw [if_neg c9] at H
            have c9b0 : decide (7 < a0_0) = false := decide_eq_false c9
            clear c9
            replace H := Option.bind_eq_some_iff.mp H
            obtain ⟨t177, A110, H⟩ := H
            replace H : (if t177 = true then ((becketref12_in.f a0_2 64).bind fun t178 => (if t178 = true then ((becketref12_in.f a0_3 x3_1).bind fun t179 => (if t179 = true then (becketref12_May.j1 kj1 (decide ((a0_4.size : Int) > 4096)) a0_0 a0_1 a0_2 a0_3 a0_4 l0_5 l0_6) else (becketref12_May.j1 kj1 true a0_0 a0_1 a0_2 a0_3 a0_4 l0_5 l0_6))) else (becketref12_May.j1 kj1 true a0_0 a0_1 a0_2 a0_3 a0_4 l0_5 l0_6))) else (becketref12_May.j1 kj1 true a0_0 a0_1 a0_2 a0_3 a0_4 l0_5 l0_6)) = some r := H
            have A11 := Aside0.mk A110
            clear A110
            by_cases c12 : t177 = true
            · subst c12
              have H1 : ((becketref12_in.f a0_2 64).bind fun t178 => (if t178 = true then ((becketref12_in.f a0_3 x3_1).bind fun t179 => (if t179 = true then (becketref12_May.j1 kj1 (decide ((a0_4.size : Int) > 4096)) a0_0 a0_1 a0_2 a0_3 a0_4 l0_5 l0_6) else (becketref12_May.j1 kj1 true a0_0 a0_1 a0_2 a0_3 a0_4 l0_5 l0_6))) else (becketref12_May.j1 kj1 true a0_0 a0_1 a0_2 a0_3 a0_4 l0_5 l0_6))) = some r := by first | (rw [if_pos rfl] at H; with_reducible exact H) | exact (if_pos rfl).symm.trans H | (simp only [if_true, eq_self_iff_true] at H ⊢; exact H)
              clear H
              have H := H1
              clear H1
              replace H := Option.bind_eq_some_iff.mp H
              obtain ⟨t178, A130, H⟩ := H
              replace H : (if t178 = true then ((becketref12_in.f a0_3 x3_1).bind fun t179 => (if t179 = true then (becketref12_May.j1 kj1 (decide ((a0_4.size : Int) > 4096)) a0_0 a0_1 a0_2 a0_3 a0_4 l0_5 l0_6) else (becketref12_May.j1 kj1 true a0_0 a0_1 a0_2 a0_3 a0_4 l0_5 l0_6))) else (becketref12_May.j1 kj1 true a0_0 a0_1 a0_2 a0_3 a0_4 l0_5 l0_6)) = some r := H
              have A13 := Aside0.mk A130
              clear A130
              by_cases c14 : t178 = true
              · subst c14
                have H1 : ((becketref12_in.f a0_3 x3_1).bind fun t179 => (if t179 = true then (becketref12_May.j1 kj1 (decide ((a0_4.size : Int) > 4096)) a0_0 a0_1 a0_2 a0_3 a0_4 l0_5 l0_6) else (becketref12_May.j1 kj1 true a0_0 a0_1 a0_2 a0_3 a0_4 l0_5 l0_6))) = some r := by first | (rw [if_pos rfl] at H; with_reducible exact H) | exact (if_pos rfl).symm.trans H | (simp only [if_true, eq_self_iff_true] at H ⊢; exact H)
                clear H
                have H := H1
                clear H1
                replace H := Option.bind_eq_some_iff.mp H
                obtain ⟨t179, A150, H⟩ := H
                replace H : (if t179 = true then (becketref12_May.j1 kj1 (decide ((a0_4.size : Int) > 4096)) a0_0 a0_1 a0_2 a0_3 a0_4 l0_5 l0_6) else (becketref12_May.j1 kj1 true a0_0 a0_1 a0_2 a0_3 a0_4 l0_5 l0_6)) = some r := H
                have A15 := Aside0.mk A150
                clear A150
                by_cases c16 : t179 = true
                · subst c16
                  have H1 : (becketref12_May.j1 kj1 (decide ((a0_4.size : Int) > 4096)) a0_0 a0_1 a0_2 a0_3 a0_4 l0_5 l0_6) = some r := by first | (rw [if_pos rfl] at H; with_reducible exact H) | exact (if_pos rfl).symm.trans H | (simp only [if_true, eq_self_iff_true] at H ⊢; exact H)
                  clear H
                  have H := H1
                  clear H1
                  have H' := Aside0.mk H
                  clear H
                  have hcz17_0 : wc.cell? ⟨gb176, 0, none⟩ = some (.int .i64 a0_0) := (blk_cell BK176.out 0).trans rfl
                  have hcz17_1 : wc.cell? ⟨gb176, 1, none⟩ = some (.int .i64 a0_1) := (blk_cell BK176.out 1).trans rfl
                  have hcz17_2 : wc.cell? ⟨gb176, 2, none⟩ = some (.int .i64 a0_2) := (blk_cell BK176.out 2).trans rfl
                  have hcz17_3 : wc.cell? ⟨gb176, 3, none⟩ = some (.int .i64 a0_3) := (blk_cell BK176.out 3).trans rfl
                  have hcz17_4 : wc.cell? ⟨gb176, 4, none⟩ = some (.string a0_4) := (blk_cell BK176.out 4).trans rfl
                  have hcz17_5 : wc.cell? ⟨gb176, 5, none⟩ = some (.slice A0_5 l0_5.length c0_5) := (blk_cell BK176.out 5).trans rfl
                  have hcz17_6 : wc.cell? ⟨gb176, 6, none⟩ = some (.slice A0_6 l0_6.length c0_6) := (blk_cell BK176.out 6).trans rfl
                  have hfz17_0 := blk_frozen BK176.out 0
                  have hfz17_1 := blk_frozen BK176.out 1
                  have hfz17_2 := blk_frozen BK176.out 2
                  have hfz17_3 := blk_frozen BK176.out 3
                  have hfz17_4 := blk_frozen BK176.out 4
                  have hfz17_5 := blk_frozen BK176.out 5
                  have hfz17_6 := blk_frozen BK176.out 6
                  go_wp2_with (first | (go_at_call 27; (with_reducible refine (becketref12_in.calls a0_1 12 true _ A11.out).mono ?_); rintro e w' ⟨rfl, ⟨nd, rfl⟩⟩) | (go_at_call 27; (with_reducible refine (becketref12_in.calls a0_2 64 true _ A13.out).mono ?_); rintro e w' ⟨rfl, ⟨nd, rfl⟩⟩) | (go_at_call 27; (with_reducible refine (becketref12_in.calls a0_3 x3_1 true _ A15.out).mono ?_); rintro e w' ⟨rfl, ⟨nd, rfl⟩⟩))
                  go_meet
                  case rel => exact ⟨_, (decide ((a0_4.size : Int) > 4096)), (by first | rfl | (simp; done) | (simp [*]; done)), H', ⟨by have := HJ1.out; first | omega | exact Nat.le_refl _⟩, ⟨by (with_reducible repeat (first | refine blk_drewN ?_ _ | refine blk_drew ?_ | refine blk_alloc ?_ _)); exact BK176.out⟩, ⟨by repeat (first | (with_reducible first | exact HB.out | apply below_alloc | apply pw_below_drewN | apply below_drew1 | refine below_set ?_ GE176.out) | exact HB.out)⟩⟩
                · replace c16 := Bool.eq_false_iff.mpr c16
                  subst c16
                  have H1 : (becketref12_May.j1 kj1 true a0_0 a0_1 a0_2 a0_3 a0_4 l0_5 l0_6) = some r := by rw [if_neg (show ¬ (false = true) by decide)] at H; exact H
                  clear H
                  have H := H1
                  clear H1
                  have H' := Aside0.mk H
                  clear H
                  have hcz18_0 : wc.cell? ⟨gb176, 0, none⟩ = some (.int .i64 a0_0) := (blk_cell BK176.out 0).trans rfl
                  have hcz18_1 : wc.cell? ⟨gb176, 1, none⟩ = some (.int .i64 a0_1) := (blk_cell BK176.out 1).trans rfl
                  have hcz18_2 : wc.cell? ⟨gb176, 2, none⟩ = some (.int .i64 a0_2) := (blk_cell BK176.out 2).trans rfl
                  have hcz18_3 : wc.cell? ⟨gb176, 3, none⟩ = some (.int .i64 a0_3) := (blk_cell BK176.out 3).trans rfl
                  have hcz18_4 : wc.cell? ⟨gb176, 4, none⟩ = some (.string a0_4) := (blk_cell BK176.out 4).trans rfl
                  have hcz18_5 : wc.cell? ⟨gb176, 5, none⟩ = some (.slice A0_5 l0_5.length c0_5) := (blk_cell BK176.out 5).trans rfl
                  have hcz18_6 : wc.cell? ⟨gb176, 6, none⟩ = some (.slice A0_6 l0_6.length c0_6) := (blk_cell BK176.out 6).trans rfl
                  have hfz18_0 := blk_frozen BK176.out 0
                  have hfz18_1 := blk_frozen BK176.out 1
                  have hfz18_2 := blk_frozen BK176.out 2
                  have hfz18_3 := blk_frozen BK176.out 3
                  have hfz18_4 := blk_frozen BK176.out 4
                  have hfz18_5 := blk_frozen BK176.out 5
                  have hfz18_6 := blk_frozen BK176.out 6
                  go_wp2_with (first | (go_at_call 27; (with_reducible refine (becketref12_in.calls a0_1 12 true _ A11.out).mono ?_); rintro e w' ⟨rfl, ⟨nd, rfl⟩⟩) | (go_at_call 27; (with_reducible refine (becketref12_in.calls a0_2 64 true _ A13.out).mono ?_); rintro e w' ⟨rfl, ⟨nd, rfl⟩⟩) | (go_at_call 27; (with_reducible refine (becketref12_in.calls a0_3 x3_1 false _ A15.out).mono ?_); rintro e w' ⟨rfl, ⟨nd, rfl⟩⟩))
                  go_meet
                  case rel => exact ⟨_, (true), (by first | rfl | (simp; done) | (simp [*]; done)), H', ⟨by have := HJ1.out; first | omega | exact Nat.le_refl _⟩, ⟨by (with_reducible repeat (first | refine blk_drewN ?_ _ | refine blk_drew ?_ | refine blk_alloc ?_ _)); exact BK176.out⟩, ⟨by repeat (first | (with_reducible first | exact HB.out | apply below_alloc | apply pw_below_drewN | apply below_drew1 | refine below_set ?_ GE176.out) | exact HB.out)⟩⟩
              · replace c14 := Bool.eq_false_iff.mpr c14
                subst c14
                have H1 : (becketref12_May.j1 kj1 true a0_0 a0_1 a0_2 a0_3 a0_4 l0_5 l0_6) = some r := by rw [if_neg (show ¬ (false = true) by decide)] at H; exact H
                clear H
                have H := H1
                clear H1
                have H' := Aside0.mk H
                clear H
                have hcz19_0 : wc.cell? ⟨gb176, 0, none⟩ = some (.int .i64 a0_0) := (blk_cell BK176.out 0).trans rfl
                have hcz19_1 : wc.cell? ⟨gb176, 1, none⟩ = some (.int .i64 a0_1) := (blk_cell BK176.out 1).trans rfl
                have hcz19_2 : wc.cell? ⟨gb176, 2, none⟩ = some (.int .i64 a0_2) := (blk_cell BK176.out 2).trans rfl
                have hcz19_3 : wc.cell? ⟨gb176, 3, none⟩ = some (.int .i64 a0_3) := (blk_cell BK176.out 3).trans rfl
                have hcz19_4 : wc.cell? ⟨gb176, 4, none⟩ = some (.string a0_4) := (blk_cell BK176.out 4).trans rfl
                have hcz19_5 : wc.cell? ⟨gb176, 5, none⟩ = some (.slice A0_5 l0_5.length c0_5) := (blk_cell BK176.out 5).trans rfl
                have hcz19_6 : wc.cell? ⟨gb176, 6, none⟩ = some (.slice A0_6 l0_6.length c0_6) := (blk_cell BK176.out 6).trans rfl
                have hfz19_0 := blk_frozen BK176.out 0
                have hfz19_1 := blk_frozen BK176.out 1
                have hfz19_2 := blk_frozen BK176.out 2
                have hfz19_3 := blk_frozen BK176.out 3
                have hfz19_4 := blk_frozen BK176.out 4
                have hfz19_5 := blk_frozen BK176.out 5
                have hfz19_6 := blk_frozen BK176.out 6
                go_wp2_with (first | (go_at_call 27; (with_reducible refine (becketref12_in.calls a0_1 12 true _ A11.out).mono ?_); rintro e w' ⟨rfl, ⟨nd, rfl⟩⟩) | (go_at_call 27; (with_reducible refine (becketref12_in.calls a0_2 64 false _ A13.out).mono ?_); rintro e w' ⟨rfl, ⟨nd, rfl⟩⟩))
                go_meet
                case rel => exact ⟨_, (true), (by first | rfl | (simp; done) | (simp [*]; done)), H', ⟨by have := HJ1.out; first | omega | exact Nat.le_refl _⟩, ⟨by (with_reducible repeat (first | refine blk_drewN ?_ _ | refine blk_drew ?_ | refine blk_alloc ?_ _)); exact BK176.out⟩, ⟨by repeat (first | (with_reducible first | exact HB.out | apply below_alloc | apply pw_below_drewN | apply below_drew1 | refine below_set ?_ GE176.out) | exact HB.out)⟩⟩
            · replace c12 := Bool.eq_false_iff.mpr c12
              subst c12
              have H1 : (becketref12_May.j1 kj1 true a0_0 a0_1 a0_2 a0_3 a0_4 l0_5 l0_6) = some r := by rw [if_neg (show ¬ (false = true) by decide)] at H; exact H
              clear H
              have H := H1
              clear H1
              have H' := Aside0.mk H
              clear H
              have hcz20_0 : wc.cell? ⟨gb176, 0, none⟩ = some (.int .i64 a0_0) := (blk_cell BK176.out 0).trans rfl
              have hcz20_1 : wc.cell? ⟨gb176, 1, none⟩ = some (.int .i64 a0_1) := (blk_cell BK176.out 1).trans rfl
              have hcz20_2 : wc.cell? ⟨gb176, 2, none⟩ = some (.int .i64 a0_2) := (blk_cell BK176.out 2).trans rfl
              have hcz20_3 : wc.cell? ⟨gb176, 3, none⟩ = some (.int .i64 a0_3) := (blk_cell BK176.out 3).trans rfl
              have hcz20_4 : wc.cell? ⟨gb176, 4, none⟩ = some (.string a0_4) := (blk_cell BK176.out 4).trans rfl
              have hcz20_5 : wc.cell? ⟨gb176, 5, none⟩ = some (.slice A0_5 l0_5.length c0_5) := (blk_cell BK176.out 5).trans rfl
              have hcz20_6 : wc.cell? ⟨gb176, 6, none⟩ = some (.slice A0_6 l0_6.length c0_6) := (blk_cell BK176.out 6).trans rfl
              have hfz20_0 := blk_frozen BK176.out 0
              have hfz20_1 := blk_frozen BK176.out 1
              have hfz20_2 := blk_frozen BK176.out 2
              have hfz20_3 := blk_frozen BK176.out 3
              have hfz20_4 := blk_frozen BK176.out 4
              have hfz20_5 := blk_frozen BK176.out 5
              have hfz20_6 := blk_frozen BK176.out 6
              go_wp2_with (first | (go_at_call 27; (with_reducible refine (becketref12_in.calls a0_1 12 false _ A11.out).mono ?_); rintro e w' ⟨rfl, ⟨nd, rfl⟩⟩))
              go_meet
              case rel => exact ⟨_, (true), (by first | rfl | (simp; done) | (simp [*]; done)), H', ⟨by have := HJ1.out; first | omega | exact Nat.le_refl _⟩, ⟨by (with_reducible repeat (first | refine blk_drewN ?_ _ | refine blk_drew ?_ | refine blk_alloc ?_ _)); exact BK176.out⟩, ⟨by repeat (first | (with_reducible first | exact HB.out | apply below_alloc | apply pw_below_drewN | apply below_drew1 | refine below_set ?_ GE176.out) | exact HB.out)⟩⟩
      case rest =>
        clear HC6
        try clear c1
        try clear c2
        try clear p2
        try clear c5
        try clear c5b0
        try clear c5b1
        try clear c7
        try clear c7b0
        try clear c9
        try clear c9b0
        try clear c12
        try clear c14
        try clear c16
        try clear hcz10_0
        try clear hcz10_1
        try clear hcz10_2
        try clear hcz10_3
        try clear hcz10_4
        try clear hcz10_5
        try clear hcz10_6
        try clear hcz17_0
        try clear hcz17_1
        try clear hcz17_2
        try clear hcz17_3
        try clear hcz17_4
        try clear hcz17_5
        try clear hcz17_6
        try clear hcz18_0
        try clear hcz18_1
        try clear hcz18_2
        try clear hcz18_3
        try clear hcz18_4
        try clear hcz18_5
        try clear hcz18_6
        try clear hcz19_0
        try clear hcz19_1
        try clear hcz19_2
        try clear hcz19_3
        try clear hcz19_4
        try clear hcz19_5
        try clear hcz19_6
        try clear hcz20_0
        try clear hcz20_1
        try clear hcz20_2
        try clear hcz20_3
        try clear hcz20_4
        try clear hcz20_5
        try clear hcz20_6
        try clear hcz4_0
        try clear hcz4_1
        try clear hcz4_2
        try clear hcz4_3
        try clear hcz4_4
        try clear hcz4_5
        try clear hcz4_6
        try clear hcz8_0
        try clear hcz8_1
        try clear hcz8_2
        try clear hcz8_3
        try clear hcz8_4
        try clear hcz8_5
        try clear hcz8_6
        try clear hfz10_0
        try clear hfz10_1
        try clear hfz10_2
        try clear hfz10_3
        try clear hfz10_4
        try clear hfz10_5
        try clear hfz10_6
        try clear hfz17_0
        try clear hfz17_1
        try clear hfz17_2
        try clear hfz17_3
        try clear hfz17_4
        try clear hfz17_5
        try clear hfz17_6
        try clear hfz18_0
        try clear hfz18_1
        try clear hfz18_2
        try clear hfz18_3
        try clear hfz18_4
        try clear hfz18_5
        try clear hfz18_6
        try clear hfz19_0
        try clear hfz19_1
        try clear hfz19_2
        try clear hfz19_3
        try clear hfz19_4
        try clear hfz19_5
        try clear hfz19_6
        try clear hfz20_0
        try clear hfz20_1
        try clear hfz20_2
        try clear hfz20_3
        try clear hfz20_4
        try clear hfz20_5
        try clear hfz20_6
        try clear hfz4_0
        try clear hfz4_1
        try clear hfz4_2
        try clear hfz4_3
        try clear hfz4_4
        try clear hfz4_5
        try clear hfz4_6
        try clear hfz8_0
        try clear hfz8_1
        try clear hfz8_2
        try clear hfz8_3
        try clear hfz8_4
        try clear hfz8_5
        try clear hfz8_6
        try clear p2
        obtain ⟨kq, x43_5, rfl, HA, HJ5, BK176, HB⟩ := hcut
        cases kq with
        | zero => exact absurd HA.out (by simp [becketref12_May.j1])
        | succ kj5 =>
          have H := HA.out
          clear HA
          simp only [becketref12_May.j1] at H
          by_cases c21 : x43_5 = true
          · subst c21
            have H1 : (some false) = some r := by first | (rw [if_pos rfl] at H; with_reducible exact H) | exact (if_pos rfl).symm.trans H | (simp only [if_true, eq_self_iff_true] at H ⊢; exact H)
            clear H
            have H := H1
            clear H1
            obtain rfl := Option.some.inj H
            go_wp2
            go_ret
            exact ⟨by first | rfl | (simp [errW_none, errW_some] <;> rfl) | (simp [*, errW_none, errW_some] <;> rfl), by repeat (first | (with_reducible first | exact HB.out | apply below_alloc | apply pw_below_drewN | apply below_drew1 | refine below_set ?_ GE176.out) | exact HB.out)⟩
          · replace c21 := Bool.eq_false_iff.mpr c21
            subst c21
            have H1 : (if (l0_5.length : Int) > 0 then (if a0_0 = 5 then (if (l0_6.length : Int) > 0 then (if a0_0 = 6 then (becketref12_May.j2 kj5 (decide ((l0_6.length : Int) > 13)) a0_0 a0_1 a0_2 a0_3 a0_4 l0_5 l0_6) else (becketref12_May.j2 kj5 true a0_0 a0_1 a0_2 a0_3 a0_4 l0_5 l0_6)) else (becketref12_May.j2 kj5 (decide ((l0_6.length : Int) > 13)) a0_0 a0_1 a0_2 a0_3 a0_4 l0_5 l0_6)) else (becketref12_May.j2 kj5 true a0_0 a0_1 a0_2 a0_3 a0_4 l0_5 l0_6)) else (if (l0_6.length : Int) > 0 then (if a0_0 = 6 then (becketref12_May.j2 kj5 (decide ((l0_6.length : Int) > 13)) a0_0 a0_1 a0_2 a0_3 a0_4 l0_5 l0_6) else (becketref12_May.j2 kj5 true a0_0 a0_1 a0_2 a0_3 a0_4 l0_5 l0_6)) else (becketref12_May.j2 kj5 (decide ((l0_6.length : Int) > 13)) a0_0 a0_1 a0_2 a0_3 a0_4 l0_5 l0_6))) = some r := by rw [if_neg (show ¬ (false = true) by decide)] at H; exact H
            clear H
            have H := H1
            clear H1
            have HC22 := Aside0.mk H
            clear H
            go_upto_region 6 with (fail)
            go_cut [69] (fun v69 wc => ∃ (kq : Nat) (x69_21 : Bool), v69 = .bool x69_21 ∧ Aside0 (becketref12_May.j2 kq x69_21 a0_0 a0_1 a0_2 a0_3 a0_4 l0_5 l0_6 = some r) ∧ Aside0 (kq ≤ kj5) ∧ Aside0 (wc.heap[gb176]? = some (.cells #[.int .i64 a0_0, .int .i64 a0_1, .int .i64 a0_2, .int .i64 a0_3, .string a0_4, (.slice A0_5 l0_5.length c0_5), (.slice A0_6 l0_6.length c0_6)] 29 (0, 0))) ∧ Aside0 (Below w.heap.size w wc))
            case first =>
              have H := HC22.out
              clear HC22
              by_cases c23 : (l0_5.length : Int) > 0
              · rw [if_pos c23] at H
                have c23b0 : decide (0 < (l0_5.length : Int)) = true := decide_eq_true c23
                have c23b1 : decide (0 < l0_5.length) = true := decide_eq_true (by omega)
                clear c23
                (first | rw [c23b0] | (simp only [i64_w, i32_w]; rw [c23b0]) | skip)
                by_cases c24 : a0_0 = 5
                · rw [if_pos c24] at H
                  have c24b0 : (a0_0 == 5) = true := beq_iff_eq.mpr c24
                  have c24b1 : (a0_0 != 5) = false := bne_eq_false_iff_eq.mpr c24
                  clear c24
                  by_cases c25 : (l0_6.length : Int) > 0
                  · rw [if_pos c25] at H
                    have c25b0 : decide (0 < (l0_6.length : Int)) = true := decide_eq_true c25
                    have c25b1 : decide (0 < l0_6.length) = true := decide_eq_true (by omega)
                    clear c25
                    by_cases c26 : a0_0 = 6
                    · rw [if_pos c26] at H
                      have c26b0 : (a0_0 == 6) = true := beq_iff_eq.mpr c26
                      have c26b1 : (a0_0 != 6) = false := bne_eq_false_iff_eq.mpr c26
                      clear c26
                      have H' := Aside0.mk H
                      clear H
                      have hcz27_0 : wc.cell? ⟨gb176, 0, none⟩ = some (.int .i64 a0_0) := (blk_cell BK176.out 0).trans rfl
                      have hcz27_1 : wc.cell? ⟨gb176, 1, none⟩ = some (.int .i64 a0_1) := (blk_cell BK176.out 1).trans rfl
                      have hcz27_2 : wc.cell? ⟨gb176, 2, none⟩ = some (.int .i64 a0_2) := (blk_cell BK176.out 2).trans rfl
                      have hcz27_3 : wc.cell? ⟨gb176, 3, none⟩ = some (.int .i64 a0_3) := (blk_cell BK176.out 3).trans rfl
                      have hcz27_4 : wc.cell? ⟨gb176, 4, none⟩ = some (.string a0_4) := (blk_cell BK176.out 4).trans rfl
                      have hcz27_5 : wc.cell? ⟨gb176, 5, none⟩ = some (.slice A0_5 l0_5.length c0_5) := (blk_cell BK176.out 5).trans rfl
                      have hcz27_6 : wc.cell? ⟨gb176, 6, none⟩ = some (.slice A0_6 l0_6.length c0_6) := (blk_cell BK176.out 6).trans rfl
                      have hfz27_0 := blk_frozen BK176.out 0
                      have hfz27_1 := blk_frozen BK176.out 1
                      have hfz27_2 := blk_frozen BK176.out 2
                      have hfz27_3 := blk_frozen BK176.out 3
                      have hfz27_4 := blk_frozen BK176.out 4
                      have hfz27_5 := blk_frozen BK176.out 5
                      have hfz27_6 := blk_frozen BK176.out 6
                      go_wp2
                      go_meet
                      case rel => exact ⟨_, (decide ((l0_6.length : Int) > 13)), (by first | rfl | (simp; done) | (simp [*]; done)), H', ⟨by have := HJ1.out; have := HJ5.out; first | omega | exact Nat.le_refl _⟩, ⟨by (with_reducible repeat (first | refine blk_drewN ?_ _ | refine blk_drew ?_ | refine blk_alloc ?_ _)); exact BK176.out⟩, ⟨by repeat (first | (with_reducible first | exact HB.out | apply below_alloc | apply pw_below_drewN | apply below_drew1 | refine below_set ?_ GE176.out) | exact HB.out)⟩⟩
                    · rw [if_neg c26] at H
                      have c26b0 : (a0_0 == 6) = false := beq_eq_false_iff_ne.mpr c26
                      have c26b1 : (a0_0 != 6) = true := bne_iff_ne.mpr c26
                      have H' := Aside0.mk H
                      clear H
                      have hcz28_0 : wc.cell? ⟨gb176, 0, none⟩ = some (.int .i64 a0_0) := (blk_cell BK176.out 0).trans rfl
                      have hcz28_1 : wc.cell? ⟨gb176, 1, none⟩ = some (.int .i64 a0_1) := (blk_cell BK176.out 1).trans rfl
                      have hcz28_2 : wc.cell? ⟨gb176, 2, none⟩ = some (.int .i64 a0_2) := (blk_cell BK176.out 2).trans rfl
                      have hcz28_3 : wc.cell? ⟨gb176, 3, none⟩ = some (.int .i64 a0_3) := (blk_cell BK176.out 3).trans rfl
                      have hcz28_4 : wc.cell? ⟨gb176, 4, none⟩ = some (.string a0_4) := (blk_cell BK176.out 4).trans rfl
                      have hcz28_5 : wc.cell? ⟨gb176, 5, none⟩ = some (.slice A0_5 l0_5.length c0_5) := (blk_cell BK176.out 5).trans rfl
                      have hcz28_6 : wc.cell? ⟨gb176, 6, none⟩ = some (.slice A0_6 l0_6.length c0_6) := (blk_cell BK176.out 6).trans rfl
                      have hfz28_0 := blk_frozen BK176.out 0
                      have hfz28_1 := blk_frozen BK176.out 1
                      have hfz28_2 := blk_frozen BK176.out 2
                      have hfz28_3 := blk_frozen BK176.out 3
                      have hfz28_4 := blk_frozen BK176.out 4
                      have hfz28_5 := blk_frozen BK176.out 5
                      have hfz28_6 := blk_frozen BK176.out 6
                      go_wp2
                      go_meet
                      case rel => exact ⟨_, (true), (by first | rfl | (simp; done) | (simp [*]; done)), H', ⟨by have := HJ1.out; have := HJ5.out; first | omega | exact Nat.le_refl _⟩, ⟨by (with_reducible repeat (first | refine blk_drewN ?_ _ | refine blk_drew ?_ | refine blk_alloc ?_ _)); exact BK176.out⟩, ⟨by repeat (first | (with_reducible first | exact HB.out | apply below_alloc | apply pw_below_drewN | apply below_drew1 | refine below_set ?_ GE176.out) | exact HB.out)⟩⟩
                  · rw [if_neg c25] at H
                    have c25b0 : decide (0 < (l0_6.length : Int)) = false := decide_eq_false c25
                    have c25b1 : decide (0 < l0_6.length) = false := decide_eq_false (by omega)
                    clear c25
                    have H' := Aside0.mk H
                    clear H
                    have hcz29_0 : wc.cell? ⟨gb176, 0, none⟩ = some (.int .i64 a0_0) := (blk_cell BK176.out 0).trans rfl
                    have hcz29_1 : wc.cell? ⟨gb176, 1, none⟩ = some (.int .i64 a0_1) := (blk_cell BK176.out 1).trans rfl
                    have hcz29_2 : wc.cell? ⟨gb176, 2, none⟩ = some (.int .i64 a0_2) := (blk_cell BK176.out 2).trans rfl
                    have hcz29_3 : wc.cell? ⟨gb176, 3, none⟩ = some (.int .i64 a0_3) := (blk_cell BK176.out 3).trans rfl
                    have hcz29_4 : wc.cell? ⟨gb176, 4, none⟩ = some (.string a0_4) := (blk_cell BK176.out 4).trans rfl
                    have hcz29_5 : wc.cell? ⟨gb176, 5, none⟩ = some (.slice A0_5 l0_5.length c0_5) := (blk_cell BK176.out 5).trans rfl
                    have hcz29_6 : wc.cell? ⟨gb176, 6, none⟩ = some (.slice A0_6 l0_6.length c0_6) := (blk_cell BK176.out 6).trans rfl
                    have hfz29_0 := blk_frozen BK176.out 0
                    have hfz29_1 := blk_frozen BK176.out 1
                    have hfz29_2 := blk_frozen BK176.out 2
                    have hfz29_3 := blk_frozen BK176.out 3
                    have hfz29_4 := blk_frozen BK176.out 4
                    have hfz29_5 := blk_frozen BK176.out 5
                    have hfz29_6 := blk_frozen BK176.out 6
                    go_wp2
                    go_meet
                    case rel => exact ⟨_, (decide ((l0_6.length : Int) > 13)), (by first | rfl | (simp; done) | (simp [*]; done)), H', ⟨by have := HJ1.out; have := HJ5.out; first | omega | exact Nat.le_refl _⟩, ⟨by (with_reducible repeat (first | refine blk_drewN ?_ _ | refine blk_drew ?_ | refine blk_alloc ?_ _)); exact BK176.out⟩, ⟨by repeat (first | (with_reducible first | exact HB.out | apply below_alloc | apply pw_below_drewN | apply below_drew1 | refine below_set ?_ GE176.out) | exact HB.out)⟩⟩
                · rw [if_neg c24] at H
                  have c24b0 : (a0_0 == 5) = false := beq_eq_false_iff_ne.mpr c24
                  have c24b1 : (a0_0 != 5) = true := bne_iff_ne.mpr c24
                  have H' := Aside0.mk H
                  clear H
                  have hcz30_0 : wc.cell? ⟨gb176, 0, none⟩ = some (.int .i64 a0_0) := (blk_cell BK176.out 0).trans rfl
                  have hcz30_1 : wc.cell? ⟨gb176, 1, none⟩ = some (.int .i64 a0_1) := (blk_cell BK176.out 1).trans rfl
                  have hcz30_2 : wc.cell? ⟨gb176, 2, none⟩ = some (.int .i64 a0_2) := (blk_cell BK176.out 2).trans rfl
                  have hcz30_3 : wc.cell? ⟨gb176, 3, none⟩ = some (.int .i64 a0_3) := (blk_cell BK176.out 3).trans rfl
                  have hcz30_4 : wc.cell? ⟨gb176, 4, none⟩ = some (.string a0_4) := (blk_cell BK176.out 4).trans rfl
                  have hcz30_5 : wc.cell? ⟨gb176, 5, none⟩ = some (.slice A0_5 l0_5.length c0_5) := (blk_cell BK176.out 5).trans rfl
                  have hcz30_6 : wc.cell? ⟨gb176, 6, none⟩ = some (.slice A0_6 l0_6.length c0_6) := (blk_cell BK176.out 6).trans rfl
                  have hfz30_0 := blk_frozen BK176.out 0
                  have hfz30_1 := blk_frozen BK176.out 1
                  have hfz30_2 := blk_frozen BK176.out 2
                  have hfz30_3 := blk_frozen BK176.out 3
                  have hfz30_4 := blk_frozen BK176.out 4
                  have hfz30_5 := blk_frozen BK176.out 5
                  have hfz30_6 := blk_frozen BK176.out 6
                  go_wp2
                  go_meet
                  case rel => exact ⟨_, (true), (by first | rfl | (simp; done) | (simp [*]; done)), H', ⟨by have := HJ1.out; have := HJ5.out; first | omega | exact Nat.le_refl _⟩, ⟨by (with_reducible repeat (first | refine blk_drewN ?_ _ | refine blk_drew ?_ | refine blk_alloc ?_ _)); exact BK176.out⟩, ⟨by repeat (first | (with_reducible first | exact HB.out | apply below_alloc | apply pw_below_drewN | apply below_drew1 | refine below_set ?_ GE176.out) | exact HB.out)⟩⟩
              · rw [if_neg c23] at H
                have c23b0 : decide (0 < (l0_5.length : Int)) = false := decide_eq_false c23
                have c23b1 : decide (0 < l0_5.length) = false := decide_eq_false (by omega)
                clear c23
                (first | rw [c23b0] | (simp only [i64_w, i32_w]; rw [c23b0]) | skip)
                by_cases c31 : (l0_6.length : Int) > 0
                · rw [if_pos c31] at H
                  have c31b0 : decide (0 < (l0_6.length : Int)) = true := decide_eq_true c31
                  have c31b1 : decide (0 < l0_6.length) = true := decide_eq_true (by omega)
                  clear c31
                  by_cases c32 : a0_0 = 6
                  · rw [if_pos c32] at H
                    have c32b0 : (a0_0 == 6) = true := beq_iff_eq.mpr c32
                    have c32b1 : (a0_0 != 6) = false := bne_eq_false_iff_eq.mpr c32
                    clear c32
                    have H' := Aside0.mk H
                    clear H
                    have hcz33_0 : wc.cell? ⟨gb176, 0, none⟩ = some (.int .i64 a0_0) := (blk_cell BK176.out 0).trans rfl
                    have hcz33_1 : wc.cell? ⟨gb176, 1, none⟩ = some (.int .i64 a0_1) := (blk_cell BK176.out 1).trans rfl
                    have hcz33_2 : wc.cell? ⟨gb176, 2, none⟩ = some (.int .i64 a0_2) := (blk_cell BK176.out 2).trans rfl
                    have hcz33_3 : wc.cell? ⟨gb176, 3, none⟩ = some (.int .i64 a0_3) := (blk_cell BK176.out 3).trans rfl
                    have hcz33_4 : wc.cell? ⟨gb176, 4, none⟩ = some (.string a0_4) := (blk_cell BK176.out 4).trans rfl
                    have hcz33_5 : wc.cell? ⟨gb176, 5, none⟩ = some (.slice A0_5 l0_5.length c0_5) := (blk_cell BK176.out 5).trans rfl
                    have hcz33_6 : wc.cell? ⟨gb176, 6, none⟩ = some (.slice A0_6 l0_6.length c0_6) := (blk_cell BK176.out 6).trans rfl
                    have hfz33_0 := blk_frozen BK176.out 0
                    have hfz33_1 := blk_frozen BK176.out 1
                    have hfz33_2 := blk_frozen BK176.out 2
                    have hfz33_3 := blk_frozen BK176.out 3
                    have hfz33_4 := blk_frozen BK176.out 4
                    have hfz33_5 := blk_frozen BK176.out 5
                    have hfz33_6 := blk_frozen BK176.out 6
                    go_wp2
                    go_meet
                    case rel => exact ⟨_, (decide ((l0_6.length : Int) > 13)), (by first | rfl | (simp; done) | (simp [*]; done)), H', ⟨by have := HJ1.out; have := HJ5.out; first | omega | exact Nat.le_refl _⟩, ⟨by (with_reducible repeat (first | refine blk_drewN ?_ _ | refine blk_drew ?_ | refine blk_alloc ?_ _)); exact BK176.out⟩, ⟨by repeat (first | (with_reducible first | exact HB.out | apply below_alloc | apply pw_below_drewN | apply below_drew1 | refine below_set ?_ GE176.out) | exact HB.out)⟩⟩
                  · rw [if_neg c32] at H
                    have c32b0 : (a0_0 == 6) = false := beq_eq_false_iff_ne.mpr c32
                    have c32b1 : (a0_0 != 6) = true := bne_iff_ne.mpr c32
                    have H' := Aside0.mk H
                    clear H
                    have hcz34_0 : wc.cell? ⟨gb176, 0, none⟩ = some (.int .i64 a0_0) := (blk_cell BK176.out 0).trans rfl
                    have hcz34_1 : wc.cell? ⟨gb176, 1, none⟩ = some (.int .i64 a0_1) := (blk_cell BK176.out 1).trans rfl
                    have hcz34_2 : wc.cell? ⟨gb176, 2, none⟩ = some (.int .i64 a0_2) := (blk_cell BK176.out 2).trans rfl
                    have hcz34_3 : wc.cell? ⟨gb176, 3, none⟩ = some (.int .i64 a0_3) := (blk_cell BK176.out 3).trans rfl
                    have hcz34_4 : wc.cell? ⟨gb176, 4, none⟩ = some (.string a0_4) := (blk_cell BK176.out 4).trans rfl
                    have hcz34_5 : wc.cell? ⟨gb176, 5, none⟩ = some (.slice A0_5 l0_5.length c0_5) := (blk_cell BK176.out 5).trans rfl
                    have hcz34_6 : wc.cell? ⟨gb176, 6, none⟩ = some (.slice A0_6 l0_6.length c0_6) := (blk_cell BK176.out 6).trans rfl
                    have hfz34_0 := blk_frozen BK176.out 0
                    have hfz34_1 := blk_frozen BK176.out 1
                    have hfz34_2 := blk_frozen BK176.out 2
                    have hfz34_3 := blk_frozen BK176.out 3
                    have hfz34_4 := blk_frozen BK176.out 4
                    have hfz34_5 := blk_frozen BK176.out 5
                    have hfz34_6 := blk_frozen BK176.out 6
                    go_wp2
                    go_meet
                    case rel => exact ⟨_, (true), (by first | rfl | (simp; done) | (simp [*]; done)), H', ⟨by have := HJ1.out; have := HJ5.out; first | omega | exact Nat.le_refl _⟩, ⟨by (with_reducible repeat (first | refine blk_drewN ?_ _ | refine blk_drew ?_ | refine blk_alloc ?_ _)); exact BK176.out⟩, ⟨by repeat (first | (with_reducible first | exact HB.out | apply below_alloc | apply pw_below_drewN | apply below_drew1 | refine below_set ?_ GE176.out) | exact HB.out)⟩⟩
                · rw [if_neg c31] at H
                  have c31b0 : decide (0 < (l0_6.length : Int)) = false := decide_eq_false c31
                  have c31b1 : decide (0 < l0_6.length) = false := decide_eq_false (by omega)
                  clear c31
                  have H' := Aside0.mk H
                  clear H
                  have hcz35_0 : wc.cell? ⟨gb176, 0, none⟩ = some (.int .i64 a0_0) := (blk_cell BK176.out 0).trans rfl
                  have hcz35_1 : wc.cell? ⟨gb176, 1, none⟩ = some (.int .i64 a0_1) := (blk_cell BK176.out 1).trans rfl
                  have hcz35_2 : wc.cell? ⟨gb176, 2, none⟩ = some (.int .i64 a0_2) := (blk_cell BK176.out 2).trans rfl
                  have hcz35_3 : wc.cell? ⟨gb176, 3, none⟩ = some (.int .i64 a0_3) := (blk_cell BK176.out 3).trans rfl
                  have hcz35_4 : wc.cell? ⟨gb176, 4, none⟩ = some (.string a0_4) := (blk_cell BK176.out 4).trans rfl
                  have hcz35_5 : wc.cell? ⟨gb176, 5, none⟩ = some (.slice A0_5 l0_5.length c0_5) := (blk_cell BK176.out 5).trans rfl
                  have hcz35_6 : wc.cell? ⟨gb176, 6, none⟩ = some (.slice A0_6 l0_6.length c0_6) := (blk_cell BK176.out 6).trans rfl
                  have hfz35_0 := blk_frozen BK176.out 0
                  have hfz35_1 := blk_frozen BK176.out 1
                  have hfz35_2 := blk_frozen BK176.out 2
                  have hfz35_3 := blk_frozen BK176.out 3
                  have hfz35_4 := blk_frozen BK176.out 4
                  have hfz35_5 := blk_frozen BK176.out 5
                  have hfz35_6 := blk_frozen BK176.out 6
                  go_wp2
                  go_meet
                  case rel => exact ⟨_, (decide ((l0_6.length : Int) > 13)), (by first | rfl | (simp; done) | (simp [*]; done)), H', ⟨by have := HJ1.out; have := HJ5.out; first | omega | exact Nat.le_refl _⟩, ⟨by (with_reducible repeat (first | refine blk_drewN ?_ _ | refine blk_drew ?_ | refine blk_alloc ?_ _)); exact BK176.out⟩, ⟨by repeat (first | (with_reducible first | exact HB.out | apply below_alloc | apply pw_below_drewN | apply below_drew1 | refine below_set ?_ GE176.out) | exact HB.out)⟩⟩
            case rest =>
              clear HC22
              try clear c1
              try clear c2
              try clear p2
              try clear c3
              try clear c5
              try clear c5b0
              try clear c5b1
              try clear c7
              try clear c7b0
              try clear c9
              try clear c9b0
              try clear c12
              try clear c14
              try clear c16
              try clear c21
              try clear c23
              try clear c23b0
              try clear c23b1
              try clear c24
              try clear c24b0
              try clear c24b1
              try clear c25
              try clear c25b0
              try clear c25b1
              try clear c26
              try clear c26b0
              try clear c26b1
              try clear c31
              try clear c31b0
              try clear c31b1
              try clear c32
              try clear c32b0
              try clear c32b1
              try clear hcz10_0
              try clear hcz10_1
              try clear hcz10_2
              try clear hcz10_3
              try clear hcz10_4
              try clear hcz10_5
              try clear hcz10_6
              try clear hcz17_0
              try clear hcz17_1
              try clear hcz17_2
              try clear hcz17_3
              try clear hcz17_4
              try clear hcz17_5
              try clear hcz17_6
              try clear hcz18_0
              try clear hcz18_1
              try clear hcz18_2
              try clear hcz18_3
              try clear hcz18_4
              try clear hcz18_5
              try clear hcz18_6
              try clear hcz19_0
              try clear hcz19_1
              try clear hcz19_2
              try clear hcz19_3
              try clear hcz19_4
              try clear hcz19_5
              try clear hcz19_6
              try clear hcz20_0
              try clear hcz20_1
              try clear hcz20_2
              try clear hcz20_3
              try clear hcz20_4
              try clear hcz20_5
              try clear hcz20_6
              try clear hcz27_0
              try clear hcz27_1
              try clear hcz27_2
              try clear hcz27_3
              try clear hcz27_4
              try clear hcz27_5
              try clear hcz27_6
              try clear hcz28_0
              try clear hcz28_1
              try clear hcz28_2
              try clear hcz28_3
              try clear hcz28_4
              try clear hcz28_5
              try clear hcz28_6
              try clear hcz29_0
              try clear hcz29_1
              try clear hcz29_2
              try clear hcz29_3
              try clear hcz29_4
              try clear hcz29_5
              try clear hcz29_6
              try clear hcz30_0
              try clear hcz30_1
              try clear hcz30_2
              try clear hcz30_3
              try clear hcz30_4
              try clear hcz30_5
              try clear hcz30_6
              try clear hcz33_0
              try clear hcz33_1
              try clear hcz33_2
              try clear hcz33_3
              try clear hcz33_4
              try clear hcz33_5
              try clear hcz33_6
              try clear hcz34_0
              try clear hcz34_1
              try clear hcz34_2
              try clear hcz34_3
              try clear hcz34_4
              try clear hcz34_5
              try clear hcz34_6
              try clear hcz35_0
              try clear hcz35_1
              try clear hcz35_2
              try clear hcz35_3
              try clear hcz35_4
              try clear hcz35_5
              try clear hcz35_6
              try clear hcz4_0
              try clear hcz4_1
              try clear hcz4_2
              try clear hcz4_3
              try clear hcz4_4
              try clear hcz4_5
              try clear hcz4_6
              try clear hcz8_0
              try clear hcz8_1
              try clear hcz8_2
              try clear hcz8_3
              try clear hcz8_4
              try clear hcz8_5
              try clear hcz8_6
              try clear hfz10_0
              try clear hfz10_1
              try clear hfz10_2
              try clear hfz10_3
              try clear hfz10_4
              try clear hfz10_5
              try clear hfz10_6
              try clear hfz17_0
              try clear hfz17_1
              try clear hfz17_2
              try clear hfz17_3
              try clear hfz17_4
              try clear hfz17_5
              try clear hfz17_6
              try clear hfz18_0
              try clear hfz18_1
              try clear hfz18_2
              try clear hfz18_3
              try clear hfz18_4
              try clear hfz18_5
              try clear hfz18_6
              try clear hfz19_0
              try clear hfz19_1
              try clear hfz19_2
              try clear hfz19_3
              try clear hfz19_4
              try clear hfz19_5
              try clear hfz19_6
              try clear hfz20_0
              try clear hfz20_1
              try clear hfz20_2
              try clear hfz20_3
              try clear hfz20_4
              try clear hfz20_5
              try clear hfz20_6
              try clear hfz27_0
              try clear hfz27_1
              try clear hfz27_2
              try clear hfz27_3
              try clear hfz27_4
              try clear hfz27_5
              try clear hfz27_6
              try clear hfz28_0
              try clear hfz28_1
              try clear hfz28_2
              try clear hfz28_3
              try clear hfz28_4
              try clear hfz28_5
              try clear hfz28_6
              try clear hfz29_0
              try clear hfz29_1
              try clear hfz29_2
              try clear hfz29_3
              try clear hfz29_4
              try clear hfz29_5
              try clear hfz29_6
              try clear hfz30_0
              try clear hfz30_1
              try clear hfz30_2
              try clear hfz30_3
              try clear hfz30_4
              try clear hfz30_5
              try clear hfz30_6
              try clear hfz33_0
              try clear hfz33_1
              try clear hfz33_2
              try clear hfz33_3
              try clear hfz33_4
              try clear hfz33_5
              try clear hfz33_6
              try clear hfz34_0
              try clear hfz34_1
              try clear hfz34_2
              try clear hfz34_3
              try clear hfz34_4
              try clear hfz34_5
              try clear hfz34_6
              try clear hfz35_0
              try clear hfz35_1
              try clear hfz35_2
              try clear hfz35_3
              try clear hfz35_4
              try clear hfz35_5
              try clear hfz35_6
              try clear hfz4_0
              try clear hfz4_1
              try clear hfz4_2
              try clear hfz4_3
              try clear hfz4_4
              try clear hfz4_5
              try clear hfz4_6
              try clear hfz8_0
              try clear hfz8_1
              try clear hfz8_2
              try clear hfz8_3
              try clear hfz8_4
              try clear hfz8_5
              try clear hfz8_6
              try clear p2
              obtain ⟨kq, x69_21, rfl, HA, HJ21, BK176, HB⟩ := hcut
              cases kq with
              | zero => exact absurd HA.out (by simp [becketref12_May.j2])
              | succ kj21 =>
                have H := HA.out
                clear HA
                simp only [becketref12_May.j2] at H
                by_cases c36 : x69_21 = true
                · subst c36
                  have H1 : (some false) = some r := by first | (rw [if_pos rfl] at H; with_reducible exact H) | exact (if_pos rfl).symm.trans H | (simp only [if_true, eq_self_iff_true] at H ⊢; exact H)
                  clear H
                  have H := H1
                  clear H1
                  obtain rfl := Option.some.inj H
                  go_wp2
                  go_ret
                  exact ⟨by first | rfl | (simp [errW_none, errW_some] <;> rfl) | (simp [*, errW_none, errW_some] <;> rfl), by repeat (first | (with_reducible first | exact HB.out | apply below_alloc | apply pw_below_drewN | apply below_drew1 | refine below_set ?_ GE176.out) | exact HB.out)⟩
                · replace c36 := Bool.eq_false_iff.mpr c36
                  subst c36
                  have H1 : ((becketref12_proofs.f kj21 l0_5).bind fun t180 => (becketref12_May.l0 kj21 t180 0 a0_0 a0_1 a0_2 a0_3 a0_4 l0_5 l0_6)) = some r := by rw [if_neg (show ¬ (false = true) by decide)] at H; exact H
                  clear H
                  have H := H1
                  clear H1
                  replace H := Option.bind_eq_some_iff.mp H
                  obtain ⟨t180, A370, H⟩ := H
                  replace H : (becketref12_May.l0 kj21 t180 0 a0_0 a0_1 a0_2 a0_3 a0_4 l0_5 l0_6) = some r := H
                  have A37 := Aside0.mk A370
                  clear A370
                  have H' := Aside0.mk H
                  clear H
                  have hcz38_0 : wc.cell? ⟨gb176, 0, none⟩ = some (.int .i64 a0_0) := (blk_cell BK176.out 0).trans rfl
                  have hcz38_1 : wc.cell? ⟨gb176, 1, none⟩ = some (.int .i64 a0_1) := (blk_cell BK176.out 1).trans rfl
                  have hcz38_2 : wc.cell? ⟨gb176, 2, none⟩ = some (.int .i64 a0_2) := (blk_cell BK176.out 2).trans rfl
                  have hcz38_3 : wc.cell? ⟨gb176, 3, none⟩ = some (.int .i64 a0_3) := (blk_cell BK176.out 3).trans rfl
                  have hcz38_4 : wc.cell? ⟨gb176, 4, none⟩ = some (.string a0_4) := (blk_cell BK176.out 4).trans rfl
                  have hcz38_5 : wc.cell? ⟨gb176, 5, none⟩ = some (.slice A0_5 l0_5.length c0_5) := (blk_cell BK176.out 5).trans rfl
                  have hcz38_6 : wc.cell? ⟨gb176, 6, none⟩ = some (.slice A0_6 l0_6.length c0_6) := (blk_cell BK176.out 6).trans rfl
                  have hfz38_0 := blk_frozen BK176.out 0
                  have hfz38_1 := blk_frozen BK176.out 1
                  have hfz38_2 := blk_frozen BK176.out 2
                  have hfz38_3 := blk_frozen BK176.out 3
                  have hfz38_4 := blk_frozen BK176.out 4
                  have hfz38_5 := blk_frozen BK176.out 5
                  have hfz38_6 := blk_frozen BK176.out 6
                  go_wp2_with (first | ((with_reducible refine gate_callee (f := 28) rfl ?_); refine goesL_ (some 72) rfl rfl Try.func28 (by kernel_rfl) rfl #[.slice A0_5 l0_5.length c0_5] rfl (by (try simp only [List.map_toArray, List.map_cons, List.map_nil]); first | done | rfl | (simp only [List.length_drop, List.length_take]; rfl)) ?_; (with_reducible refine (becketref12_proofs.calls kj21 _ _ l0_5 t180 _ ?side1 ?side2 A37.out).mono ?_); (case side1 => repeat (first | exact (Kd.C_below HR0_5.out HB.out) | (with_reducible refine Kd.C_alloc ?_ _) | (with_reducible refine Kd.C_drewN ?_ _) | (with_reducible refine Kd.C_drew ?_))); (case side2 => exact HC0_5.out); rintro e w39 ⟨rfl, hb⟩; refine ⟨_, rfl, ?_⟩; have n0_ := Aside0.mk (blk_below (g := gb176) (o := .cells #[.int .i64 a0_0, .int .i64 a0_1, .int .i64 a0_2, .int .i64 a0_3, .string a0_4, .slice A0_5 l0_5.length c0_5, .slice A0_6 l0_6.length c0_6] 29 (0, 0)) (by (with_reducible repeat (first | refine blk_drewN ?_ _ | refine blk_drew ?_ | refine blk_alloc ?_ _)); exact BK176.out) hb); have n1_ := Aside0.mk (below_step (by repeat (first | (with_reducible first | exact HB.out | apply below_alloc | apply pw_below_drewN | apply below_drew1 | refine below_set ?_ GE176.out) | exact HB.out)) hb); clear BK176; clear HB; have BK176 := n0_; have HB := n1_; clear n0_ n1_; (try clear hb); (try clear hb2); (try clear hk); (try clear hi)))
                  go_loopg [4, 5] kj21 (fun kq v4 v5 w' => ∃ (x4_4 : Bool) (x5_4 : Int), v4 = .bool x4_4 ∧ v5 = .int .i64 x5_4 ∧ Aside0 (becketref12_May.l0 kq x4_4 x5_4 a0_0 a0_1 a0_2 a0_3 a0_4 l0_5 l0_6 = some r) ∧ Aside0 (kq ≤ kj21) ∧ Aside0 (w'.heap[gb176]? = some (.cells #[.int .i64 a0_0, .int .i64 a0_1, .int .i64 a0_2, .int .i64 a0_3, .string a0_4, (.slice A0_5 l0_5.length c0_5), (.slice A0_6 l0_6.length c0_6)] 29 (0, 0))) ∧ Aside0 (Below w.heap.size w w'))
                  case atStart => exact ⟨(t180), (0), (by first | rfl | (simp; done) | (simp [*]; done)), (by first | rfl | (simp; done) | (simp [*]; done)), H', ⟨Nat.le_refl _⟩, ⟨by (with_reducible repeat (first | refine blk_drewN ?_ _ | refine blk_drew ?_ | refine blk_alloc ?_ _)); exact BK176.out⟩, ⟨by repeat (first | (with_reducible first | exact HB.out | apply below_alloc | apply pw_below_drewN | apply below_drew1 | refine below_set ?_ GE176.out) | exact HB.out)⟩⟩
                  case round =>
                    clear H'
                    try clear c1
                    try clear c2
                    try clear p2
                    try clear c3
                    try clear c5
                    try clear c5b0
                    try clear c5b1
                    try clear c7
                    try clear c7b0
                    try clear c9
                    try clear c9b0
                    try clear c12
                    try clear c14
                    try clear c16
                    try clear c21
                    try clear c23
                    try clear c23b0
                    try clear c23b1
                    try clear c24
                    try clear c24b0
                    try clear c24b1
                    try clear c25
                    try clear c25b0
                    try clear c25b1
                    try clear c26
                    try clear c26b0
                    try clear c26b1
                    try clear c28
                    try clear c31
                    try clear c31b0
                    try clear c31b1
                    try clear c32
                    try clear c32b0
                    try clear c32b1
                    try clear c36
                    try clear hcz10_0
                    try clear hcz10_1
                    try clear hcz10_2
                    try clear hcz10_3
                    try clear hcz10_4
                    try clear hcz10_5
                    try clear hcz10_6
                    try clear hcz17_0
                    try clear hcz17_1
                    try clear hcz17_2
                    try clear hcz17_3
                    try clear hcz17_4
                    try clear hcz17_5
                    try clear hcz17_6
                    try clear hcz18_0
                    try clear hcz18_1
                    try clear hcz18_2
                    try clear hcz18_3
                    try clear hcz18_4
                    try clear hcz18_5
                    try clear hcz18_6
                    try clear hcz19_0
                    try clear hcz19_1
                    try clear hcz19_2
                    try clear hcz19_3
                    try clear hcz19_4
                    try clear hcz19_5
                    try clear hcz19_6
                    try clear hcz20_0
                    try clear hcz20_1
                    try clear hcz20_2
                    try clear hcz20_3
                    try clear hcz20_4
                    try clear hcz20_5
                    try clear hcz20_6
                    try clear hcz27_0
                    try clear hcz27_1
                    try clear hcz27_2
                    try clear hcz27_3
                    try clear hcz27_4
                    try clear hcz27_5
                    try clear hcz27_6
                    try clear hcz28_0
                    try clear hcz28_1
                    try clear hcz28_2
                    try clear hcz28_3
                    try clear hcz28_4
                    try clear hcz28_5
                    try clear hcz28_6
                    try clear hcz29_0
                    try clear hcz29_1
                    try clear hcz29_2
                    try clear hcz29_3
                    try clear hcz29_4
                    try clear hcz29_5
                    try clear hcz29_6
                    try clear hcz30_0
                    try clear hcz30_1
                    try clear hcz30_2
                    try clear hcz30_3
                    try clear hcz30_4
                    try clear hcz30_5
                    try clear hcz30_6
                    try clear hcz33_0
                    try clear hcz33_1
                    try clear hcz33_2
                    try clear hcz33_3
                    try clear hcz33_4
                    try clear hcz33_5
                    try clear hcz33_6
                    try clear hcz34_0
                    try clear hcz34_1
                    try clear hcz34_2
                    try clear hcz34_3
                    try clear hcz34_4
                    try clear hcz34_5
                    try clear hcz34_6
                    try clear hcz35_0
                    try clear hcz35_1
                    try clear hcz35_2
                    try clear hcz35_3
                    try clear hcz35_4
                    try clear hcz35_5
                    try clear hcz35_6
                    try clear hcz38_0
                    try clear hcz38_1
                    try clear hcz38_2
                    try clear hcz38_3
                    try clear hcz38_4
                    try clear hcz38_5
                    try clear hcz38_6
                    try clear hcz4_0
                    try clear hcz4_1
                    try clear hcz4_2
                    try clear hcz4_3
                    try clear hcz4_4
                    try clear hcz4_5
                    try clear hcz4_6
                    try clear hcz8_0
                    try clear hcz8_1
                    try clear hcz8_2
                    try clear hcz8_3
                    try clear hcz8_4
                    try clear hcz8_5
                    try clear hcz8_6
                    try clear hfz10_0
                    try clear hfz10_1
                    try clear hfz10_2
                    try clear hfz10_3
                    try clear hfz10_4
                    try clear hfz10_5
                    try clear hfz10_6
                    try clear hfz17_0
                    try clear hfz17_1
                    try clear hfz17_2
                    try clear hfz17_3
                    try clear hfz17_4
                    try clear hfz17_5
                    try clear hfz17_6
                    try clear hfz18_0
                    try clear hfz18_1
                    try clear hfz18_2
                    try clear hfz18_3
                    try clear hfz18_4
                    try clear hfz18_5
                    try clear hfz18_6
                    try clear hfz19_0
                    try clear hfz19_1
                    try clear hfz19_2
                    try clear hfz19_3
                    try clear hfz19_4
                    try clear hfz19_5
                    try clear hfz19_6
                    try clear hfz20_0
                    try clear hfz20_1
                    try clear hfz20_2
                    try clear hfz20_3
                    try clear hfz20_4
                    try clear hfz20_5
                    try clear hfz20_6
                    try clear hfz27_0
                    try clear hfz27_1
                    try clear hfz27_2
                    try clear hfz27_3
                    try clear hfz27_4
                    try clear hfz27_5
                    try clear hfz27_6
                    try clear hfz28_0
                    try clear hfz28_1
                    try clear hfz28_2
                    try clear hfz28_3
                    try clear hfz28_4
                    try clear hfz28_5
                    try clear hfz28_6
                    try clear hfz29_0
                    try clear hfz29_1
                    try clear hfz29_2
                    try clear hfz29_3
                    try clear hfz29_4
                    try clear hfz29_5
                    try clear hfz29_6
                    try clear hfz30_0
                    try clear hfz30_1
                    try clear hfz30_2
                    try clear hfz30_3
                    try clear hfz30_4
                    try clear hfz30_5
                    try clear hfz30_6
                    try clear hfz33_0
                    try clear hfz33_1
                    try clear hfz33_2
                    try clear hfz33_3
                    try clear hfz33_4
                    try clear hfz33_5
                    try clear hfz33_6
                    try clear hfz34_0
                    try clear hfz34_1
                    try clear hfz34_2
                    try clear hfz34_3
                    try clear hfz34_4
                    try clear hfz34_5
                    try clear hfz34_6
                    try clear hfz35_0
                    try clear hfz35_1
                    try clear hfz35_2
                    try clear hfz35_3
                    try clear hfz35_4
                    try clear hfz35_5
                    try clear hfz35_6
                    try clear hfz38_0
                    try clear hfz38_1
                    try clear hfz38_2
                    try clear hfz38_3
                    try clear hfz38_4
                    try clear hfz38_5
                    try clear hfz38_6
                    try clear hfz4_0
                    try clear hfz4_1
                    try clear hfz4_2
                    try clear hfz4_3
                    try clear hfz4_4
                    try clear hfz4_5
                    try clear hfz4_6
                    try clear hfz8_0
                    try clear hfz8_1
                    try clear hfz8_2
                    try clear hfz8_3
                    try clear hfz8_4
                    try clear hfz8_5
                    try clear hfz8_6
                    try clear p2
                    obtain ⟨x4_4, x5_4, rfl, rfl, HA, HK4, BK176, HB⟩ := hrel
                    cases gk with
                    | zero => exact absurd HA.out (by simp [becketref12_May.l0])
                    | succ k4 =>
                      have H := HA.out
                      clear HA
                      simp only [becketref12_May.l0] at H
                      by_cases c40 : x5_4 < (l0_6.length : Int)
                      · rw [if_pos c40] at H
                        have c40b0 : decide (x5_4 < (l0_6.length : Int)) = true := decide_eq_true c40
                        clear c40
                        by_cases c41 : 0 ≤ x5_4
                        · rw [if_pos c41] at H
                          have c41b0 : decide (0 ≤ x5_4) = true := decide_eq_true c41
                          clear c41
                          replace H := Option.bind_eq_some_iff.mp H
                          obtain ⟨t183, A420, H⟩ := H
                          replace H : (if x4_4 = true then (if t183 = true then ((becketref12_in.f ((rd_T58 l0_6 x5_4).f0) 12).bind fun t184 => (if t184 = true then ((becketref12_in.f ((rd_T58 l0_6 x5_4).f1) 64).bind fun t185 => (becketref12_May.l0 k4 t185 (wrap64 (x5_4 + 1)) a0_0 a0_1 a0_2 a0_3 a0_4 l0_5 l0_6)) else (becketref12_May.l0 k4 false (wrap64 (x5_4 + 1)) a0_0 a0_1 a0_2 a0_3 a0_4 l0_5 l0_6))) else (becketref12_May.l0 k4 false (wrap64 (x5_4 + 1)) a0_0 a0_1 a0_2 a0_3 a0_4 l0_5 l0_6)) else (becketref12_May.l0 k4 false (wrap64 (x5_4 + 1)) a0_0 a0_1 a0_2 a0_3 a0_4 l0_5 l0_6)) = some r := H
                          have A42 := Aside0.mk A420
                          clear A420
                          by_cases c43 : x4_4 = true
                          · subst c43
                            have H1 : (if t183 = true then ((becketref12_in.f ((rd_T58 l0_6 x5_4).f0) 12).bind fun t184 => (if t184 = true then ((becketref12_in.f ((rd_T58 l0_6 x5_4).f1) 64).bind fun t185 => (becketref12_May.l0 k4 t185 (wrap64 (x5_4 + 1)) a0_0 a0_1 a0_2 a0_3 a0_4 l0_5 l0_6)) else (becketref12_May.l0 k4 false (wrap64 (x5_4 + 1)) a0_0 a0_1 a0_2 a0_3 a0_4 l0_5 l0_6))) else (becketref12_May.l0 k4 false (wrap64 (x5_4 + 1)) a0_0 a0_1 a0_2 a0_3 a0_4 l0_5 l0_6)) = some r := by first | (rw [if_pos rfl] at H; with_reducible exact H) | exact (if_pos rfl).symm.trans H | (simp only [if_true, eq_self_iff_true] at H ⊢; exact H)
                            clear H
                            have H := H1
                            clear H1
                            by_cases c44 : t183 = true
                            · subst c44
                              have H1 : ((becketref12_in.f ((rd_T58 l0_6 x5_4).f0) 12).bind fun t184 => (if t184 = true then ((becketref12_in.f ((rd_T58 l0_6 x5_4).f1) 64).bind fun t185 => (becketref12_May.l0 k4 t185 (wrap64 (x5_4 + 1)) a0_0 a0_1 a0_2 a0_3 a0_4 l0_5 l0_6)) else (becketref12_May.l0 k4 false (wrap64 (x5_4 + 1)) a0_0 a0_1 a0_2 a0_3 a0_4 l0_5 l0_6))) = some r := by first | (rw [if_pos rfl] at H; with_reducible exact H) | exact (if_pos rfl).symm.trans H | (simp only [if_true, eq_self_iff_true] at H ⊢; exact H)
                              clear H
                              have H := H1
                              clear H1
                              replace H := Option.bind_eq_some_iff.mp H
                              obtain ⟨t184, A450, H⟩ := H
                              replace H : (if t184 = true then ((becketref12_in.f ((rd_T58 l0_6 x5_4).f1) 64).bind fun t185 => (becketref12_May.l0 k4 t185 (wrap64 (x5_4 + 1)) a0_0 a0_1 a0_2 a0_3 a0_4 l0_5 l0_6)) else (becketref12_May.l0 k4 false (wrap64 (x5_4 + 1)) a0_0 a0_1 a0_2 a0_3 a0_4 l0_5 l0_6)) = some r := H
                              have A45 := Aside0.mk A450
                              clear A450
                              by_cases c46 : t184 = true
                              · subst c46
                                have H1 : ((becketref12_in.f ((rd_T58 l0_6 x5_4).f1) 64).bind fun t185 => (becketref12_May.l0 k4 t185 (wrap64 (x5_4 + 1)) a0_0 a0_1 a0_2 a0_3 a0_4 l0_5 l0_6)) = some r := by first | (rw [if_pos rfl] at H; with_reducible exact H) | exact (if_pos rfl).symm.trans H | (simp only [if_true, eq_self_iff_true] at H ⊢; exact H)
                                clear H
                                have H := H1
                                clear H1
                                replace H := Option.bind_eq_some_iff.mp H
                                obtain ⟨t185, A470, H⟩ := H
                                replace H : (becketref12_May.l0 k4 t185 (wrap64 (x5_4 + 1)) a0_0 a0_1 a0_2 a0_3 a0_4 l0_5 l0_6) = some r := H
                                have A47 := Aside0.mk A470
                                clear A470
                                have H' := Aside0.mk H
                                clear H
                                have hcz48_0 : wr.cell? ⟨gb176, 0, none⟩ = some (.int .i64 a0_0) := (blk_cell BK176.out 0).trans rfl
                                have hcz48_1 : wr.cell? ⟨gb176, 1, none⟩ = some (.int .i64 a0_1) := (blk_cell BK176.out 1).trans rfl
                                have hcz48_2 : wr.cell? ⟨gb176, 2, none⟩ = some (.int .i64 a0_2) := (blk_cell BK176.out 2).trans rfl
                                have hcz48_3 : wr.cell? ⟨gb176, 3, none⟩ = some (.int .i64 a0_3) := (blk_cell BK176.out 3).trans rfl
                                have hcz48_4 : wr.cell? ⟨gb176, 4, none⟩ = some (.string a0_4) := (blk_cell BK176.out 4).trans rfl
                                have hcz48_5 : wr.cell? ⟨gb176, 5, none⟩ = some (.slice A0_5 l0_5.length c0_5) := (blk_cell BK176.out 5).trans rfl
                                have hcz48_6 : wr.cell? ⟨gb176, 6, none⟩ = some (.slice A0_6 l0_6.length c0_6) := (blk_cell BK176.out 6).trans rfl
                                have hfz48_0 := blk_frozen BK176.out 0
                                have hfz48_1 := blk_frozen BK176.out 1
                                have hfz48_2 := blk_frozen BK176.out 2
                                have hfz48_3 := blk_frozen BK176.out 3
                                have hfz48_4 := blk_frozen BK176.out 4
                                have hfz48_5 := blk_frozen BK176.out 5
                                have hfz48_6 := blk_frozen BK176.out 6
                                have p181 : 0 ≤ (x5_4 : Int) := of_decide_eq_true (by first | (with_reducible assumption) | assumption)
                                have q181 : x5_4 < (l0_6.length : Int) := of_decide_eq_true (by first | (with_reducible assumption) | assumption)
                                obtain ⟨ad181, A181_2, c181_2, e181, hx181_0, hx181_1, hx181_2, hl181_2, hi181_2⟩ := at_T58 HR0_6.out x5_4 p181 q181
                                cases e181
                                replace hx181_0 := (HB.out.cell (World.block_lt_of_cell? w _ hx181_0)).trans hx181_0
                                replace hx181_1 := (HB.out.cell (World.block_lt_of_cell? w _ hx181_1)).trans hx181_1
                                replace hx181_2 := (HB.out.cell (World.block_lt_of_cell? w _ hx181_2)).trans hx181_2
                                have HR181_2 := Aside0.mk hi181_2
                                have HC181_2 := Aside0.mk hl181_2
                                clear hi181_2 hl181_2
                                replace p181 := eq_true p181
                                replace q181 := eq_true q181
                                go_wp2_with (first | ((with_reducible refine gate_dst (N := 6) rfl ?_); (try (refine gate_guard (by rfl) ?_; dsimp only)); refine box_event ?hg (N := 6) ?hd (cs := #[.int .i64 0, .int .i64 0, .slice none 0 0]) (t := 58) ?hr ?_; (case hd => rfl); (case hg => rfl); (case hr => first | (go_simp; done) | (go_simp; rfl)); intro gb182 hg w49 hbox hb; have n0_ := Aside0.mk (blk_below (g := gb176) (o := .cells #[.int .i64 a0_0, .int .i64 a0_1, .int .i64 a0_2, .int .i64 a0_3, .string a0_4, .slice A0_5 l0_5.length c0_5, .slice (some ad181) l0_6.length c0_6] 29 (0, 0)) (by (with_reducible repeat (first | refine blk_drewN ?_ _ | refine blk_drew ?_ | refine blk_alloc ?_ _)); exact BK176.out) hb); have n1_ := Aside0.mk (below_step (by repeat (first | (with_reducible first | exact HB.out | apply below_alloc | apply pw_below_drewN | apply below_drew1 | refine below_set ?_ GE176.out) | exact HB.out)) hb); have n2_ := Aside0.mk (hbox); have n3_ := Aside0.mk ((by rw [hg]; exact (below_size (by repeat (first | (with_reducible first | exact HB.out | apply below_alloc | apply pw_below_drewN | apply below_drew1 | refine below_set ?_ GE176.out) | exact HB.out))) : w.heap.size ≤ gb182)); have n4_ := Aside0.mk ((by rw [hg]; exact (below_size (by repeat (first | (with_reducible first | exact HB.out | apply below_alloc | apply pw_below_drewN | apply below_drew1 | refine below_set ?_ GE176.out) | exact HB.out))) : w.heap.size ≤ gb182)); have n5_ := Aside0.mk ((by rw [hg]; exact Nat.ne_of_lt (blk_lt (g := gb176) (o := .cells #[.int .i64 a0_0, .int .i64 a0_1, .int .i64 a0_2, .int .i64 a0_3, .string a0_4, .slice A0_5 l0_5.length c0_5, .slice (some ad181) l0_6.length c0_6] 29 (0, 0)) (by (with_reducible repeat (first | refine blk_drewN ?_ _ | refine blk_drew ?_ | refine blk_alloc ?_ _)); exact BK176.out)) : gb176 ≠ gb182)); have n6_ := Aside0.mk ((by rw [hg]; exact Nat.ne_of_gt (blk_lt (g := gb176) (o := .cells #[.int .i64 a0_0, .int .i64 a0_1, .int .i64 a0_2, .int .i64 a0_3, .string a0_4, .slice A0_5 l0_5.length c0_5, .slice (some ad181) l0_6.length c0_6] 29 (0, 0)) (by (with_reducible repeat (first | refine blk_drewN ?_ _ | refine blk_drew ?_ | refine blk_alloc ?_ _)); exact BK176.out)) : gb182 ≠ gb176)); clear BK176; clear HB; have BK176 := n0_; have HB := n1_; have BK182 := n2_; have GW182 := n3_; have GE182 := n4_; have NB176_182 := n5_; have NB182_176 := n6_; clear n0_ n1_ n2_ n3_ n4_ n5_ n6_; clear hb hbox hg; have hnb50 := NB182_176.out; have hnc50 := NB176_182.out; have hcz51_0 : w49.cell? ⟨gb182, 0, none⟩ = some (.int .i64 0) := (blk_cell BK182.out 0).trans rfl; have hcz51_1 : w49.cell? ⟨gb182, 1, none⟩ = some (.int .i64 0) := (blk_cell BK182.out 1).trans rfl; have hcz51_2 : w49.cell? ⟨gb182, 2, none⟩ = some (.slice none 0 0) := (blk_cell BK182.out 2).trans rfl; have hfz51_0 := blk_frozen BK182.out 0; have hfz51_1 := blk_frozen BK182.out 1; have hfz51_2 := blk_frozen BK182.out 2) | ((with_reducible refine gate_callee (f := 28) rfl ?_); refine goesL_ (some 87) rfl rfl Try.func28 (by kernel_rfl) rfl #[.slice A181_2 ((rd_T58 l0_6 x5_4).f2).length c181_2] rfl (by (try simp only [List.map_toArray, List.map_cons, List.map_nil]); first | done | rfl | (simp only [List.length_drop, List.length_take]; rfl)) ?_; (with_reducible refine (becketref12_proofs.calls k4 _ _ ((rd_T58 l0_6 x5_4).f2) true _ ?side1 ?side2 A42.out).mono ?_); (case side1 => exact Kd.C_below HR181_2.out (by repeat (first | (with_reducible first | exact HB.out | apply below_alloc | apply pw_below_drewN | apply below_drew1 | refine below_set ?_ GE176.out | refine below_set ?_ GE182.out) | exact HB.out))); (case side2 => exact HC181_2.out); rintro e w52 ⟨rfl, hb⟩; refine ⟨_, rfl, ?_⟩; have n0_ := Aside0.mk (blk_below (g := gb176) (o := .cells #[.int .i64 a0_0, .int .i64 a0_1, .int .i64 a0_2, .int .i64 a0_3, .string a0_4, .slice A0_5 l0_5.length c0_5, .slice (some ad181) l0_6.length c0_6] 29 (0, 0)) (by (with_reducible repeat (first | refine blk_drewN ?_ _ | refine blk_drew ?_ | refine blk_alloc ?_ _)); refine blk_far ?_ NB176_182.out _; (with_reducible repeat (first | refine blk_drewN ?_ _ | refine blk_drew ?_ | refine blk_alloc ?_ _)); refine blk_far ?_ NB176_182.out _; (with_reducible repeat (first | refine blk_drewN ?_ _ | refine blk_drew ?_ | refine blk_alloc ?_ _)); refine blk_far ?_ NB176_182.out _; (with_reducible repeat (first | refine blk_drewN ?_ _ | refine blk_drew ?_ | refine blk_alloc ?_ _)); exact BK176.out) hb); have n1_ := Aside0.mk (blk_below (g := gb182) (o := .cells #[.int .i64 ((rd_T58 l0_6 x5_4).f0), .int .i64 ((rd_T58 l0_6 x5_4).f1), .slice A181_2 ((rd_T58 l0_6 x5_4).f2).length c181_2] 58 (0, 0)) (by (with_reducible repeat (first | refine blk_drewN ?_ _ | refine blk_drew ?_ | refine blk_alloc ?_ _)); refine blk_put (cs := #[.int .i64 ((rd_T58 l0_6 x5_4).f0), .int .i64 ((rd_T58 l0_6 x5_4).f1), .slice none 0 0]) ?_ 2 _ rfl; (with_reducible repeat (first | refine blk_drewN ?_ _ | refine blk_drew ?_ | refine blk_alloc ?_ _)); refine blk_put (cs := #[.int .i64 ((rd_T58 l0_6 x5_4).f0), .int .i64 0, .slice none 0 0]) ?_ 1 _ rfl; (with_reducible repeat (first | refine blk_drewN ?_ _ | refine blk_drew ?_ | refine blk_alloc ?_ _)); refine blk_put (cs := #[.int .i64 0, .int .i64 0, .slice none 0 0]) ?_ 0 _ rfl; (with_reducible repeat (first | refine blk_drewN ?_ _ | refine blk_drew ?_ | refine blk_alloc ?_ _)); exact BK182.out) hb); have n2_ := Aside0.mk (below_step (by repeat (first | (with_reducible first | exact HB.out | apply below_alloc | apply pw_below_drewN | apply below_drew1 | refine below_set ?_ GE176.out | refine below_set ?_ GE182.out) | exact HB.out)) hb); clear BK176; clear BK182; clear HB; have BK176 := n0_; have BK182 := n1_; have HB := n2_; clear n0_ n1_ n2_; (try clear hb); (try clear hb2); (try clear hk); (try clear hi); have hcz53_0 : w52.cell? ⟨gb182, 0, none⟩ = some (.int .i64 ((rd_T58 l0_6 x5_4).f0)) := (blk_cell BK182.out 0).trans rfl; have hcz53_1 : w52.cell? ⟨gb182, 1, none⟩ = some (.int .i64 ((rd_T58 l0_6 x5_4).f1)) := (blk_cell BK182.out 1).trans rfl; have hcz53_2 : w52.cell? ⟨gb182, 2, none⟩ = some (.slice A181_2 ((rd_T58 l0_6 x5_4).f2).length c181_2) := (blk_cell BK182.out 2).trans rfl; have hfz53_0 := blk_frozen BK182.out 0; have hfz53_1 := blk_frozen BK182.out 1; have hfz53_2 := blk_frozen BK182.out 2) | (go_at_call 27; (with_reducible refine (becketref12_in.calls ((rd_T58 l0_6 x5_4).f0) 12 true _ A45.out).mono ?_); rintro e w' ⟨rfl, ⟨nd, rfl⟩⟩) | (go_at_call 27; (with_reducible refine (becketref12_in.calls ((rd_T58 l0_6 x5_4).f1) 64 t185 _ A47.out).mono ?_); rintro e w' ⟨rfl, ⟨nd, rfl⟩⟩))
                                go_roundg k4
                                case measure => have := HJ1.out; have := HJ5.out; have := HJ21.out; have := HK4.out; omega
                                case rel => exact ⟨(t185), (wrap64 (x5_4 + 1)), (by first | rfl | (simp; done) | (simp [*]; done)), (by first | rfl | (simp; done) | (simp [*]; done)), H', ⟨by have := HJ1.out; have := HJ5.out; have := HJ21.out; have := HK4.out; omega⟩, ⟨by (with_reducible repeat (first | refine blk_drewN ?_ _ | refine blk_drew ?_ | refine blk_alloc ?_ _)); exact BK176.out⟩, ⟨by repeat (first | (with_reducible first | exact HB.out | apply below_alloc | apply pw_below_drewN | apply below_drew1 | refine below_set ?_ GE176.out | refine below_set ?_ GE182.out) | exact HB.out)⟩⟩
                              · replace c46 := Bool.eq_false_iff.mpr c46
                                subst c46
                                have H1 : (becketref12_May.l0 k4 false (wrap64 (x5_4 + 1)) a0_0 a0_1 a0_2 a0_3 a0_4 l0_5 l0_6) = some r := by rw [if_neg (show ¬ (false = true) by decide)] at H; exact H
                                clear H
                                have H := H1
                                clear H1
                                have H' := Aside0.mk H
                                clear H
                                have hcz54_0 : wr.cell? ⟨gb176, 0, none⟩ = some (.int .i64 a0_0) := (blk_cell BK176.out 0).trans rfl
                                have hcz54_1 : wr.cell? ⟨gb176, 1, none⟩ = some (.int .i64 a0_1) := (blk_cell BK176.out 1).trans rfl
                                have hcz54_2 : wr.cell? ⟨gb176, 2, none⟩ = some (.int .i64 a0_2) := (blk_cell BK176.out 2).trans rfl
                                have hcz54_3 : wr.cell? ⟨gb176, 3, none⟩ = some (.int .i64 a0_3) := (blk_cell BK176.out 3).trans rfl
                                have hcz54_4 : wr.cell? ⟨gb176, 4, none⟩ = some (.string a0_4) := (blk_cell BK176.out 4).trans rfl
                                have hcz54_5 : wr.cell? ⟨gb176, 5, none⟩ = some (.slice A0_5 l0_5.length c0_5) := (blk_cell BK176.out 5).trans rfl
                                have hcz54_6 : wr.cell? ⟨gb176, 6, none⟩ = some (.slice A0_6 l0_6.length c0_6) := (blk_cell BK176.out 6).trans rfl
                                have hfz54_0 := blk_frozen BK176.out 0
                                have hfz54_1 := blk_frozen BK176.out 1
                                have hfz54_2 := blk_frozen BK176.out 2
                                have hfz54_3 := blk_frozen BK176.out 3
                                have hfz54_4 := blk_frozen BK176.out 4
                                have hfz54_5 := blk_frozen BK176.out 5
                                have hfz54_6 := blk_frozen BK176.out 6
                                have p181 : 0 ≤ (x5_4 : Int) := of_decide_eq_true (by first | (with_reducible assumption) | assumption)
                                have q181 : x5_4 < (l0_6.length : Int) := of_decide_eq_true (by first | (with_reducible assumption) | assumption)
                                obtain ⟨ad181, A181_2, c181_2, e181, hx181_0, hx181_1, hx181_2, hl181_2, hi181_2⟩ := at_T58 HR0_6.out x5_4 p181 q181
                                cases e181
                                replace hx181_0 := (HB.out.cell (World.block_lt_of_cell? w _ hx181_0)).trans hx181_0
                                replace hx181_1 := (HB.out.cell (World.block_lt_of_cell? w _ hx181_1)).trans hx181_1
                                replace hx181_2 := (HB.out.cell (World.block_lt_of_cell? w _ hx181_2)).trans hx181_2
                                have HR181_2 := Aside0.mk hi181_2
                                have HC181_2 := Aside0.mk hl181_2
                                clear hi181_2 hl181_2
                                replace p181 := eq_true p181
                                replace q181 := eq_true q181
                                go_wp2_with (first | ((with_reducible refine gate_dst (N := 6) rfl ?_); (try (refine gate_guard (by rfl) ?_; dsimp only)); refine box_event ?hg (N := 6) ?hd (cs := #[.int .i64 0, .int .i64 0, .slice none 0 0]) (t := 58) ?hr ?_; (case hd => rfl); (case hg => rfl); (case hr => first | (go_simp; done) | (go_simp; rfl)); intro gb182 hg w55 hbox hb; have n0_ := Aside0.mk (blk_below (g := gb176) (o := .cells #[.int .i64 a0_0, .int .i64 a0_1, .int .i64 a0_2, .int .i64 a0_3, .string a0_4, .slice A0_5 l0_5.length c0_5, .slice (some ad181) l0_6.length c0_6] 29 (0, 0)) (by (with_reducible repeat (first | refine blk_drewN ?_ _ | refine blk_drew ?_ | refine blk_alloc ?_ _)); exact BK176.out) hb); have n1_ := Aside0.mk (below_step (by repeat (first | (with_reducible first | exact HB.out | apply below_alloc | apply pw_below_drewN | apply below_drew1 | refine below_set ?_ GE176.out) | exact HB.out)) hb); have n2_ := Aside0.mk (hbox); have n3_ := Aside0.mk ((by rw [hg]; exact (below_size (by repeat (first | (with_reducible first | exact HB.out | apply below_alloc | apply pw_below_drewN | apply below_drew1 | refine below_set ?_ GE176.out) | exact HB.out))) : w.heap.size ≤ gb182)); have n4_ := Aside0.mk ((by rw [hg]; exact (below_size (by repeat (first | (with_reducible first | exact HB.out | apply below_alloc | apply pw_below_drewN | apply below_drew1 | refine below_set ?_ GE176.out) | exact HB.out))) : w.heap.size ≤ gb182)); have n5_ := Aside0.mk ((by rw [hg]; exact Nat.ne_of_lt (blk_lt (g := gb176) (o := .cells #[.int .i64 a0_0, .int .i64 a0_1, .int .i64 a0_2, .int .i64 a0_3, .string a0_4, .slice A0_5 l0_5.length c0_5, .slice (some ad181) l0_6.length c0_6] 29 (0, 0)) (by (with_reducible repeat (first | refine blk_drewN ?_ _ | refine blk_drew ?_ | refine blk_alloc ?_ _)); exact BK176.out)) : gb176 ≠ gb182)); have n6_ := Aside0.mk ((by rw [hg]; exact Nat.ne_of_gt (blk_lt (g := gb176) (o := .cells #[.int .i64 a0_0, .int .i64 a0_1, .int .i64 a0_2, .int .i64 a0_3, .string a0_4, .slice A0_5 l0_5.length c0_5, .slice (some ad181) l0_6.length c0_6] 29 (0, 0)) (by (with_reducible repeat (first | refine blk_drewN ?_ _ | refine blk_drew ?_ | refine blk_alloc ?_ _)); exact BK176.out)) : gb182 ≠ gb176)); clear BK176; clear HB; have BK176 := n0_; have HB := n1_; have BK182 := n2_; have GW182 := n3_; have GE182 := n4_; have NB176_182 := n5_; have NB182_176 := n6_; clear n0_ n1_ n2_ n3_ n4_ n5_ n6_; clear hb hbox hg; have hnb56 := NB182_176.out; have hnc56 := NB176_182.out; have hcz57_0 : w55.cell? ⟨gb182, 0, none⟩ = some (.int .i64 0) := (blk_cell BK182.out 0).trans rfl; have hcz57_1 : w55.cell? ⟨gb182, 1, none⟩ = some (.int .i64 0) := (blk_cell BK182.out 1).trans rfl; have hcz57_2 : w55.cell? ⟨gb182, 2, none⟩ = some (.slice none 0 0) := (blk_cell BK182.out 2).trans rfl; have hfz57_0 := blk_frozen BK182.out 0; have hfz57_1 := blk_frozen BK182.out 1; have hfz57_2 := blk_frozen BK182.out 2) | ((with_reducible refine gate_callee (f := 28) rfl ?_); refine goesL_ (some 87) rfl rfl Try.func28 (by kernel_rfl) rfl #[.slice A181_2 ((rd_T58 l0_6 x5_4).f2).length c181_2] rfl (by (try simp only [List.map_toArray, List.map_cons, List.map_nil]); first | done | rfl | (simp only [List.length_drop, List.length_take]; rfl)) ?_; (with_reducible refine (becketref12_proofs.calls k4 _ _ ((rd_T58 l0_6 x5_4).f2) true _ ?side1 ?side2 A42.out).mono ?_); (case side1 => exact Kd.C_below HR181_2.out (by repeat (first | (with_reducible first | exact HB.out | apply below_alloc | apply pw_below_drewN | apply below_drew1 | refine below_set ?_ GE176.out | refine below_set ?_ GE182.out) | exact HB.out))); (case side2 => exact HC181_2.out); rintro e w58 ⟨rfl, hb⟩; refine ⟨_, rfl, ?_⟩; have n0_ := Aside0.mk (blk_below (g := gb176) (o := .cells #[.int .i64 a0_0, .int .i64 a0_1, .int .i64 a0_2, .int .i64 a0_3, .string a0_4, .slice A0_5 l0_5.length c0_5, .slice (some ad181) l0_6.length c0_6] 29 (0, 0)) (by (with_reducible repeat (first | refine blk_drewN ?_ _ | refine blk_drew ?_ | refine blk_alloc ?_ _)); refine blk_far ?_ NB176_182.out _; (with_reducible repeat (first | refine blk_drewN ?_ _ | refine blk_drew ?_ | refine blk_alloc ?_ _)); refine blk_far ?_ NB176_182.out _; (with_reducible repeat (first | refine blk_drewN ?_ _ | refine blk_drew ?_ | refine blk_alloc ?_ _)); refine blk_far ?_ NB176_182.out _; (with_reducible repeat (first | refine blk_drewN ?_ _ | refine blk_drew ?_ | refine blk_alloc ?_ _)); exact BK176.out) hb); have n1_ := Aside0.mk (blk_below (g := gb182) (o := .cells #[.int .i64 ((rd_T58 l0_6 x5_4).f0), .int .i64 ((rd_T58 l0_6 x5_4).f1), .slice A181_2 ((rd_T58 l0_6 x5_4).f2).length c181_2] 58 (0, 0)) (by (with_reducible repeat (first | refine blk_drewN ?_ _ | refine blk_drew ?_ | refine blk_alloc ?_ _)); refine blk_put (cs := #[.int .i64 ((rd_T58 l0_6 x5_4).f0), .int .i64 ((rd_T58 l0_6 x5_4).f1), .slice none 0 0]) ?_ 2 _ rfl; (with_reducible repeat (first | refine blk_drewN ?_ _ | refine blk_drew ?_ | refine blk_alloc ?_ _)); refine blk_put (cs := #[.int .i64 ((rd_T58 l0_6 x5_4).f0), .int .i64 0, .slice none 0 0]) ?_ 1 _ rfl; (with_reducible repeat (first | refine blk_drewN ?_ _ | refine blk_drew ?_ | refine blk_alloc ?_ _)); refine blk_put (cs := #[.int .i64 0, .int .i64 0, .slice none 0 0]) ?_ 0 _ rfl; (with_reducible repeat (first | refine blk_drewN ?_ _ | refine blk_drew ?_ | refine blk_alloc ?_ _)); exact BK182.out) hb); have n2_ := Aside0.mk (below_step (by repeat (first | (with_reducible first | exact HB.out | apply below_alloc | apply pw_below_drewN | apply below_drew1 | refine below_set ?_ GE176.out | refine below_set ?_ GE182.out) | exact HB.out)) hb); clear BK176; clear BK182; clear HB; have BK176 := n0_; have BK182 := n1_; have HB := n2_; clear n0_ n1_ n2_; (try clear hb); (try clear hb2); (try clear hk); (try clear hi); have hcz59_0 : w58.cell? ⟨gb182, 0, none⟩ = some (.int .i64 ((rd_T58 l0_6 x5_4).f0)) := (blk_cell BK182.out 0).trans rfl; have hcz59_1 : w58.cell? ⟨gb182, 1, none⟩ = some (.int .i64 ((rd_T58 l0_6 x5_4).f1)) := (blk_cell BK182.out 1).trans rfl; have hcz59_2 : w58.cell? ⟨gb182, 2, none⟩ = some (.slice A181_2 ((rd_T58 l0_6 x5_4).f2).length c181_2) := (blk_cell BK182.out 2).trans rfl; have hfz59_0 := blk_frozen BK182.out 0; have hfz59_1 := blk_frozen BK182.out 1; have hfz59_2 := blk_frozen BK182.out 2) | (go_at_call 27; (with_reducible refine (becketref12_in.calls ((rd_T58 l0_6 x5_4).f0) 12 false _ A45.out).mono ?_); rintro e w' ⟨rfl, ⟨nd, rfl⟩⟩))
                                go_roundg k4
                                case measure => have := HJ1.out; have := HJ5.out; have := HJ21.out; have := HK4.out; omega
                                case rel => exact ⟨(false), (wrap64 (x5_4 + 1)), (by first | rfl | (simp; done) | (simp [*]; done)), (by first | rfl | (simp; done) | (simp [*]; done)), H', ⟨by have := HJ1.out; have := HJ5.out; have := HJ21.out; have := HK4.out; omega⟩, ⟨by (with_reducible repeat (first | refine blk_drewN ?_ _ | refine blk_drew ?_ | refine blk_alloc ?_ _)); exact BK176.out⟩, ⟨by repeat (first | (with_reducible first | exact HB.out | apply below_alloc | apply pw_below_drewN | apply below_drew1 | refine below_set ?_ GE176.out | refine below_set ?_ GE182.out) | exact HB.out)⟩⟩
                            · replace c44 := Bool.eq_false_iff.mpr c44
                              subst c44
                              have H1 : (becketref12_May.l0 k4 false (wrap64 (x5_4 + 1)) a0_0 a0_1 a0_2 a0_3 a0_4 l0_5 l0_6) = some r := by rw [if_neg (show ¬ (false = true) by decide)] at H; exact H
                              clear H
                              have H := H1
                              clear H1
                              have H' := Aside0.mk H
                              clear H
                              have hcz60_0 : wr.cell? ⟨gb176, 0, none⟩ = some (.int .i64 a0_0) := (blk_cell BK176.out 0).trans rfl
                              have hcz60_1 : wr.cell? ⟨gb176, 1, none⟩ = some (.int .i64 a0_1) := (blk_cell BK176.out 1).trans rfl
                              have hcz60_2 : wr.cell? ⟨gb176, 2, none⟩ = some (.int .i64 a0_2) := (blk_cell BK176.out 2).trans rfl
                              have hcz60_3 : wr.cell? ⟨gb176, 3, none⟩ = some (.int .i64 a0_3) := (blk_cell BK176.out 3).trans rfl
                              have hcz60_4 : wr.cell? ⟨gb176, 4, none⟩ = some (.string a0_4) := (blk_cell BK176.out 4).trans rfl
                              have hcz60_5 : wr.cell? ⟨gb176, 5, none⟩ = some (.slice A0_5 l0_5.length c0_5) := (blk_cell BK176.out 5).trans rfl
                              have hcz60_6 : wr.cell? ⟨gb176, 6, none⟩ = some (.slice A0_6 l0_6.length c0_6) := (blk_cell BK176.out 6).trans rfl
                              have hfz60_0 := blk_frozen BK176.out 0
                              have hfz60_1 := blk_frozen BK176.out 1
                              have hfz60_2 := blk_frozen BK176.out 2
                              have hfz60_3 := blk_frozen BK176.out 3
                              have hfz60_4 := blk_frozen BK176.out 4
                              have hfz60_5 := blk_frozen BK176.out 5
                              have hfz60_6 := blk_frozen BK176.out 6
                              have p181 : 0 ≤ (x5_4 : Int) := of_decide_eq_true (by first | (with_reducible assumption) | assumption)
                              have q181 : x5_4 < (l0_6.length : Int) := of_decide_eq_true (by first | (with_reducible assumption) | assumption)
                              obtain ⟨ad181, A181_2, c181_2, e181, hx181_0, hx181_1, hx181_2, hl181_2, hi181_2⟩ := at_T58 HR0_6.out x5_4 p181 q181
                              cases e181
                              replace hx181_0 := (HB.out.cell (World.block_lt_of_cell? w _ hx181_0)).trans hx181_0
                              replace hx181_1 := (HB.out.cell (World.block_lt_of_cell? w _ hx181_1)).trans hx181_1
                              replace hx181_2 := (HB.out.cell (World.block_lt_of_cell? w _ hx181_2)).trans hx181_2
                              have HR181_2 := Aside0.mk hi181_2
                              have HC181_2 := Aside0.mk hl181_2
                              clear hi181_2 hl181_2
                              replace p181 := eq_true p181
                              replace q181 := eq_true q181
                              go_wp2_with (first | ((with_reducible refine gate_dst (N := 6) rfl ?_); (try (refine gate_guard (by rfl) ?_; dsimp only)); refine box_event ?hg (N := 6) ?hd (cs := #[.int .i64 0, .int .i64 0, .slice none 0 0]) (t := 58) ?hr ?_; (case hd => rfl); (case hg => rfl); (case hr => first | (go_simp; done) | (go_simp; rfl)); intro gb182 hg w61 hbox hb; have n0_ := Aside0.mk (blk_below (g := gb176) (o := .cells #[.int .i64 a0_0, .int .i64 a0_1, .int .i64 a0_2, .int .i64 a0_3, .string a0_4, .slice A0_5 l0_5.length c0_5, .slice (some ad181) l0_6.length c0_6] 29 (0, 0)) (by (with_reducible repeat (first | refine blk_drewN ?_ _ | refine blk_drew ?_ | refine blk_alloc ?_ _)); exact BK176.out) hb); have n1_ := Aside0.mk (below_step (by repeat (first | (with_reducible first | exact HB.out | apply below_alloc | apply pw_below_drewN | apply below_drew1 | refine below_set ?_ GE176.out) | exact HB.out)) hb); have n2_ := Aside0.mk (hbox); have n3_ := Aside0.mk ((by rw [hg]; exact (below_size (by repeat (first | (with_reducible first | exact HB.out | apply below_alloc | apply pw_below_drewN | apply below_drew1 | refine below_set ?_ GE176.out) | exact HB.out))) : w.heap.size ≤ gb182)); have n4_ := Aside0.mk ((by rw [hg]; exact (below_size (by repeat (first | (with_reducible first | exact HB.out | apply below_alloc | apply pw_below_drewN | apply below_drew1 | refine below_set ?_ GE176.out) | exact HB.out))) : w.heap.size ≤ gb182)); have n5_ := Aside0.mk ((by rw [hg]; exact Nat.ne_of_lt (blk_lt (g := gb176) (o := .cells #[.int .i64 a0_0, .int .i64 a0_1, .int .i64 a0_2, .int .i64 a0_3, .string a0_4, .slice A0_5 l0_5.length c0_5, .slice (some ad181) l0_6.length c0_6] 29 (0, 0)) (by (with_reducible repeat (first | refine blk_drewN ?_ _ | refine blk_drew ?_ | refine blk_alloc ?_ _)); exact BK176.out)) : gb176 ≠ gb182)); have n6_ := Aside0.mk ((by rw [hg]; exact Nat.ne_of_gt (blk_lt (g := gb176) (o := .cells #[.int .i64 a0_0, .int .i64 a0_1, .int .i64 a0_2, .int .i64 a0_3, .string a0_4, .slice A0_5 l0_5.length c0_5, .slice (some ad181) l0_6.length c0_6] 29 (0, 0)) (by (with_reducible repeat (first | refine blk_drewN ?_ _ | refine blk_drew ?_ | refine blk_alloc ?_ _)); exact BK176.out)) : gb182 ≠ gb176)); clear BK176; clear HB; have BK176 := n0_; have HB := n1_; have BK182 := n2_; have GW182 := n3_; have GE182 := n4_; have NB176_182 := n5_; have NB182_176 := n6_; clear n0_ n1_ n2_ n3_ n4_ n5_ n6_; clear hb hbox hg; have hnb62 := NB182_176.out; have hnc62 := NB176_182.out; have hcz63_0 : w61.cell? ⟨gb182, 0, none⟩ = some (.int .i64 0) := (blk_cell BK182.out 0).trans rfl; have hcz63_1 : w61.cell? ⟨gb182, 1, none⟩ = some (.int .i64 0) := (blk_cell BK182.out 1).trans rfl; have hcz63_2 : w61.cell? ⟨gb182, 2, none⟩ = some (.slice none 0 0) := (blk_cell BK182.out 2).trans rfl; have hfz63_0 := blk_frozen BK182.out 0; have hfz63_1 := blk_frozen BK182.out 1; have hfz63_2 := blk_frozen BK182.out 2) | ((with_reducible refine gate_callee (f := 28) rfl ?_); refine goesL_ (some 87) rfl rfl Try.func28 (by kernel_rfl) rfl #[.slice A181_2 ((rd_T58 l0_6 x5_4).f2).length c181_2] rfl (by (try simp only [List.map_toArray, List.map_cons, List.map_nil]); first | done | rfl | (simp only [List.length_drop, List.length_take]; rfl)) ?_; (with_reducible refine (becketref12_proofs.calls k4 _ _ ((rd_T58 l0_6 x5_4).f2) false _ ?side1 ?side2 A42.out).mono ?_); (case side1 => exact Kd.C_below HR181_2.out (by repeat (first | (with_reducible first | exact HB.out | apply below_alloc | apply pw_below_drewN | apply below_drew1 | refine below_set ?_ GE176.out | refine below_set ?_ GE182.out) | exact HB.out))); (case side2 => exact HC181_2.out); rintro e w64 ⟨rfl, hb⟩; refine ⟨_, rfl, ?_⟩; have n0_ := Aside0.mk (blk_below (g := gb176) (o := .cells #[.int .i64 a0_0, .int .i64 a0_1, .int .i64 a0_2, .int .i64 a0_3, .string a0_4, .slice A0_5 l0_5.length c0_5, .slice (some ad181) l0_6.length c0_6] 29 (0, 0)) (by (with_reducible repeat (first | refine blk_drewN ?_ _ | refine blk_drew ?_ | refine blk_alloc ?_ _)); refine blk_far ?_ NB176_182.out _; (with_reducible repeat (first | refine blk_drewN ?_ _ | refine blk_drew ?_ | refine blk_alloc ?_ _)); refine blk_far ?_ NB176_182.out _; (with_reducible repeat (first | refine blk_drewN ?_ _ | refine blk_drew ?_ | refine blk_alloc ?_ _)); refine blk_far ?_ NB176_182.out _; (with_reducible repeat (first | refine blk_drewN ?_ _ | refine blk_drew ?_ | refine blk_alloc ?_ _)); exact BK176.out) hb); have n1_ := Aside0.mk (blk_below (g := gb182) (o := .cells #[.int .i64 ((rd_T58 l0_6 x5_4).f0), .int .i64 ((rd_T58 l0_6 x5_4).f1), .slice A181_2 ((rd_T58 l0_6 x5_4).f2).length c181_2] 58 (0, 0)) (by (with_reducible repeat (first | refine blk_drewN ?_ _ | refine blk_drew ?_ | refine blk_alloc ?_ _)); refine blk_put (cs := #[.int .i64 ((rd_T58 l0_6 x5_4).f0), .int .i64 ((rd_T58 l0_6 x5_4).f1), .slice none 0 0]) ?_ 2 _ rfl; (with_reducible repeat (first | refine blk_drewN ?_ _ | refine blk_drew ?_ | refine blk_alloc ?_ _)); refine blk_put (cs := #[.int .i64 ((rd_T58 l0_6 x5_4).f0), .int .i64 0, .slice none 0 0]) ?_ 1 _ rfl; (with_reducible repeat (first | refine blk_drewN ?_ _ | refine blk_drew ?_ | refine blk_alloc ?_ _)); refine blk_put (cs := #[.int .i64 0, .int .i64 0, .slice none 0 0]) ?_ 0 _ rfl; (with_reducible repeat (first | refine blk_drewN ?_ _ | refine blk_drew ?_ | refine blk_alloc ?_ _)); exact BK182.out) hb); have n2_ := Aside0.mk (below_step (by repeat (first | (with_reducible first | exact HB.out | apply below_alloc | apply pw_below_drewN | apply below_drew1 | refine below_set ?_ GE176.out | refine below_set ?_ GE182.out) | exact HB.out)) hb); clear BK176; clear BK182; clear HB; have BK176 := n0_; have BK182 := n1_; have HB := n2_; clear n0_ n1_ n2_; (try clear hb); (try clear hb2); (try clear hk); (try clear hi)))
                              go_roundg k4
                              case measure => have := HJ1.out; have := HJ5.out; have := HJ21.out; have := HK4.out; omega
                              case rel => exact ⟨(false), (wrap64 (x5_4 + 1)), (by first | rfl | (simp; done) | (simp [*]; done)), (by first | rfl | (simp; done) | (simp [*]; done)), H', ⟨by have := HJ1.out; have := HJ5.out; have := HJ21.out; have := HK4.out; omega⟩, ⟨by (with_reducible repeat (first | refine blk_drewN ?_ _ | refine blk_drew ?_ | refine blk_alloc ?_ _)); exact BK176.out⟩, ⟨by repeat (first | (with_reducible first | exact HB.out | apply below_alloc | apply pw_below_drewN | apply below_drew1 | refine below_set ?_ GE176.out | refine below_set ?_ GE182.out) | exact HB.out)⟩⟩
                          · replace c43 := Bool.eq_false_iff.mpr c43
                            subst c43
                            have H1 : (becketref12_May.l0 k4 false (wrap64 (x5_4 + 1)) a0_0 a0_1 a0_2 a0_3 a0_4 l0_5 l0_6) = some r := by rw [if_neg (show ¬ (false = true) by decide)] at H; exact H
                            clear H
                            have H := H1
                            clear H1
                            have H' := Aside0.mk H
                            clear H
                            have hcz65_0 : wr.cell? ⟨gb176, 0, none⟩ = some (.int .i64 a0_0) := (blk_cell BK176.out 0).trans rfl
                            have hcz65_1 : wr.cell? ⟨gb176, 1, none⟩ = some (.int .i64 a0_1) := (blk_cell BK176.out 1).trans rfl
                            have hcz65_2 : wr.cell? ⟨gb176, 2, none⟩ = some (.int .i64 a0_2) := (blk_cell BK176.out 2).trans rfl
                            have hcz65_3 : wr.cell? ⟨gb176, 3, none⟩ = some (.int .i64 a0_3) := (blk_cell BK176.out 3).trans rfl
                            have hcz65_4 : wr.cell? ⟨gb176, 4, none⟩ = some (.string a0_4) := (blk_cell BK176.out 4).trans rfl
                            have hcz65_5 : wr.cell? ⟨gb176, 5, none⟩ = some (.slice A0_5 l0_5.length c0_5) := (blk_cell BK176.out 5).trans rfl
                            have hcz65_6 : wr.cell? ⟨gb176, 6, none⟩ = some (.slice A0_6 l0_6.length c0_6) := (blk_cell BK176.out 6).trans rfl
                            have hfz65_0 := blk_frozen BK176.out 0
                            have hfz65_1 := blk_frozen BK176.out 1
                            have hfz65_2 := blk_frozen BK176.out 2
                            have hfz65_3 := blk_frozen BK176.out 3
                            have hfz65_4 := blk_frozen BK176.out 4
                            have hfz65_5 := blk_frozen BK176.out 5
                            have hfz65_6 := blk_frozen BK176.out 6
                            have p181 : 0 ≤ (x5_4 : Int) := of_decide_eq_true (by first | (with_reducible assumption) | assumption)
                            have q181 : x5_4 < (l0_6.length : Int) := of_decide_eq_true (by first | (with_reducible assumption) | assumption)
                            obtain ⟨ad181, A181_2, c181_2, e181, hx181_0, hx181_1, hx181_2, hl181_2, hi181_2⟩ := at_T58 HR0_6.out x5_4 p181 q181
                            cases e181
                            replace hx181_0 := (HB.out.cell (World.block_lt_of_cell? w _ hx181_0)).trans hx181_0
                            replace hx181_1 := (HB.out.cell (World.block_lt_of_cell? w _ hx181_1)).trans hx181_1
                            replace hx181_2 := (HB.out.cell (World.block_lt_of_cell? w _ hx181_2)).trans hx181_2
                            have HR181_2 := Aside0.mk hi181_2
                            have HC181_2 := Aside0.mk hl181_2
                            clear hi181_2 hl181_2
                            replace p181 := eq_true p181
                            replace q181 := eq_true q181
                            go_wp2_with (first | ((with_reducible refine gate_dst (N := 6) rfl ?_); (try (refine gate_guard (by rfl) ?_; dsimp only)); refine box_event ?hg (N := 6) ?hd (cs := #[.int .i64 0, .int .i64 0, .slice none 0 0]) (t := 58) ?hr ?_; (case hd => rfl); (case hg => rfl); (case hr => first | (go_simp; done) | (go_simp; rfl)); intro gb182 hg w66 hbox hb; have n0_ := Aside0.mk (blk_below (g := gb176) (o := .cells #[.int .i64 a0_0, .int .i64 a0_1, .int .i64 a0_2, .int .i64 a0_3, .string a0_4, .slice A0_5 l0_5.length c0_5, .slice (some ad181) l0_6.length c0_6] 29 (0, 0)) (by (with_reducible repeat (first | refine blk_drewN ?_ _ | refine blk_drew ?_ | refine blk_alloc ?_ _)); exact BK176.out) hb); have n1_ := Aside0.mk (below_step (by repeat (first | (with_reducible first | exact HB.out | apply below_alloc | apply pw_below_drewN | apply below_drew1 | refine below_set ?_ GE176.out) | exact HB.out)) hb); have n2_ := Aside0.mk (hbox); have n3_ := Aside0.mk ((by rw [hg]; exact (below_size (by repeat (first | (with_reducible first | exact HB.out | apply below_alloc | apply pw_below_drewN | apply below_drew1 | refine below_set ?_ GE176.out) | exact HB.out))) : w.heap.size ≤ gb182)); have n4_ := Aside0.mk ((by rw [hg]; exact (below_size (by repeat (first | (with_reducible first | exact HB.out | apply below_alloc | apply pw_below_drewN | apply below_drew1 | refine below_set ?_ GE176.out) | exact HB.out))) : w.heap.size ≤ gb182)); have n5_ := Aside0.mk ((by rw [hg]; exact Nat.ne_of_lt (blk_lt (g := gb176) (o := .cells #[.int .i64 a0_0, .int .i64 a0_1, .int .i64 a0_2, .int .i64 a0_3, .string a0_4, .slice A0_5 l0_5.length c0_5, .slice (some ad181) l0_6.length c0_6] 29 (0, 0)) (by (with_reducible repeat (first | refine blk_drewN ?_ _ | refine blk_drew ?_ | refine blk_alloc ?_ _)); exact BK176.out)) : gb176 ≠ gb182)); have n6_ := Aside0.mk ((by rw [hg]; exact Nat.ne_of_gt (blk_lt (g := gb176) (o := .cells #[.int .i64 a0_0, .int .i64 a0_1, .int .i64 a0_2, .int .i64 a0_3, .string a0_4, .slice A0_5 l0_5.length c0_5, .slice (some ad181) l0_6.length c0_6] 29 (0, 0)) (by (with_reducible repeat (first | refine blk_drewN ?_ _ | refine blk_drew ?_ | refine blk_alloc ?_ _)); exact BK176.out)) : gb182 ≠ gb176)); clear BK176; clear HB; have BK176 := n0_; have HB := n1_; have BK182 := n2_; have GW182 := n3_; have GE182 := n4_; have NB176_182 := n5_; have NB182_176 := n6_; clear n0_ n1_ n2_ n3_ n4_ n5_ n6_; clear hb hbox hg; have hnb67 := NB182_176.out; have hnc67 := NB176_182.out; have hcz68_0 : w66.cell? ⟨gb182, 0, none⟩ = some (.int .i64 0) := (blk_cell BK182.out 0).trans rfl; have hcz68_1 : w66.cell? ⟨gb182, 1, none⟩ = some (.int .i64 0) := (blk_cell BK182.out 1).trans rfl; have hcz68_2 : w66.cell? ⟨gb182, 2, none⟩ = some (.slice none 0 0) := (blk_cell BK182.out 2).trans rfl; have hfz68_0 := blk_frozen BK182.out 0; have hfz68_1 := blk_frozen BK182.out 1; have hfz68_2 := blk_frozen BK182.out 2) | ((with_reducible refine gate_callee (f := 28) rfl ?_); refine goesL_ (some 87) rfl rfl Try.func28 (by kernel_rfl) rfl #[.slice A181_2 ((rd_T58 l0_6 x5_4).f2).length c181_2] rfl (by (try simp only [List.map_toArray, List.map_cons, List.map_nil]); first | done | rfl | (simp only [List.length_drop, List.length_take]; rfl)) ?_; (with_reducible refine (becketref12_proofs.calls k4 _ _ ((rd_T58 l0_6 x5_4).f2) t183 _ ?side1 ?side2 A42.out).mono ?_); (case side1 => exact Kd.C_below HR181_2.out (by repeat (first | (with_reducible first | exact HB.out | apply below_alloc | apply pw_below_drewN | apply below_drew1 | refine below_set ?_ GE176.out | refine below_set ?_ GE182.out) | exact HB.out))); (case side2 => exact HC181_2.out); rintro e w69 ⟨rfl, hb⟩; refine ⟨_, rfl, ?_⟩; have n0_ := Aside0.mk (blk_below (g := gb176) (o := .cells #[.int .i64 a0_0, .int .i64 a0_1, .int .i64 a0_2, .int .i64 a0_3, .string a0_4, .slice A0_5 l0_5.length c0_5, .slice (some ad181) l0_6.length c0_6] 29 (0, 0)) (by (with_reducible repeat (first | refine blk_drewN ?_ _ | refine blk_drew ?_ | refine blk_alloc ?_ _)); refine blk_far ?_ NB176_182.out _; (with_reducible repeat (first | refine blk_drewN ?_ _ | refine blk_drew ?_ | refine blk_alloc ?_ _)); refine blk_far ?_ NB176_182.out _; (with_reducible repeat (first | refine blk_drewN ?_ _ | refine blk_drew ?_ | refine blk_alloc ?_ _)); refine blk_far ?_ NB176_182.out _; (with_reducible repeat (first | refine blk_drewN ?_ _ | refine blk_drew ?_ | refine blk_alloc ?_ _)); exact BK176.out) hb); have n1_ := Aside0.mk (blk_below (g := gb182) (o := .cells #[.int .i64 ((rd_T58 l0_6 x5_4).f0), .int .i64 ((rd_T58 l0_6 x5_4).f1), .slice A181_2 ((rd_T58 l0_6 x5_4).f2).length c181_2] 58 (0, 0)) (by (with_reducible repeat (first | refine blk_drewN ?_ _ | refine blk_drew ?_ | refine blk_alloc ?_ _)); refine blk_put (cs := #[.int .i64 ((rd_T58 l0_6 x5_4).f0), .int .i64 ((rd_T58 l0_6 x5_4).f1), .slice none 0 0]) ?_ 2 _ rfl; (with_reducible repeat (first | refine blk_drewN ?_ _ | refine blk_drew ?_ | refine blk_alloc ?_ _)); refine blk_put (cs := #[.int .i64 ((rd_T58 l0_6 x5_4).f0), .int .i64 0, .slice none 0 0]) ?_ 1 _ rfl; (with_reducible repeat (first | refine blk_drewN ?_ _ | refine blk_drew ?_ | refine blk_alloc ?_ _)); refine blk_put (cs := #[.int .i64 0, .int .i64 0, .slice none 0 0]) ?_ 0 _ rfl; (with_reducible repeat (first | refine blk_drewN ?_ _ | refine blk_drew ?_ | refine blk_alloc ?_ _)); exact BK182.out) hb); have n2_ := Aside0.mk (below_step (by repeat (first | (with_reducible first | exact HB.out | apply below_alloc | apply pw_below_drewN | apply below_drew1 | refine below_set ?_ GE176.out | refine below_set ?_ GE182.out) | exact HB.out)) hb); clear BK176; clear BK182; clear HB; have BK176 := n0_; have BK182 := n1_; have HB := n2_; clear n0_ n1_ n2_; (try clear hb); (try clear hb2); (try clear hk); (try clear hi)))
                            go_roundg k4
                            case measure => have := HJ1.out; have := HJ5.out; have := HJ21.out; have := HK4.out; omega
                            case rel => exact ⟨(false), (wrap64 (x5_4 + 1)), (by first | rfl | (simp; done) | (simp [*]; done)), (by first | rfl | (simp; done) | (simp [*]; done)), H', ⟨by have := HJ1.out; have := HJ5.out; have := HJ21.out; have := HK4.out; omega⟩, ⟨by (with_reducible repeat (first | refine blk_drewN ?_ _ | refine blk_drew ?_ | refine blk_alloc ?_ _)); exact BK176.out⟩, ⟨by repeat (first | (with_reducible first | exact HB.out | apply below_alloc | apply pw_below_drewN | apply below_drew1 | refine below_set ?_ GE176.out | refine below_set ?_ GE182.out) | exact HB.out)⟩⟩
                        · rw [if_neg c41] at H
                          exact absurd H (by simp)
                      · rw [if_neg c40] at H
                        have c40b0 : decide (x5_4 < (l0_6.length : Int)) = false := decide_eq_false c40
                        clear c40
                        obtain rfl := Option.some.inj H
                        have hcz70_0 : wr.cell? ⟨gb176, 0, none⟩ = some (.int .i64 a0_0) := (blk_cell BK176.out 0).trans rfl
                        have hcz70_1 : wr.cell? ⟨gb176, 1, none⟩ = some (.int .i64 a0_1) := (blk_cell BK176.out 1).trans rfl
                        have hcz70_2 : wr.cell? ⟨gb176, 2, none⟩ = some (.int .i64 a0_2) := (blk_cell BK176.out 2).trans rfl
                        have hcz70_3 : wr.cell? ⟨gb176, 3, none⟩ = some (.int .i64 a0_3) := (blk_cell BK176.out 3).trans rfl
                        have hcz70_4 : wr.cell? ⟨gb176, 4, none⟩ = some (.string a0_4) := (blk_cell BK176.out 4).trans rfl
                        have hcz70_5 : wr.cell? ⟨gb176, 5, none⟩ = some (.slice A0_5 l0_5.length c0_5) := (blk_cell BK176.out 5).trans rfl
                        have hcz70_6 : wr.cell? ⟨gb176, 6, none⟩ = some (.slice A0_6 l0_6.length c0_6) := (blk_cell BK176.out 6).trans rfl
                        have hfz70_0 := blk_frozen BK176.out 0
                        have hfz70_1 := blk_frozen BK176.out 1
                        have hfz70_2 := blk_frozen BK176.out 2
                        have hfz70_3 := blk_frozen BK176.out 3
                        have hfz70_4 := blk_frozen BK176.out 4
                        have hfz70_5 := blk_frozen BK176.out 5
                        have hfz70_6 := blk_frozen BK176.out 6
                        go_wp2
                        go_ret
                        exact ⟨by first | rfl | (simp [errW_none, errW_some] <;> rfl) | (simp [*, errW_none, errW_some] <;> rfl), by repeat (first | (with_reducible first | exact HB.out | apply below_alloc | apply pw_below_drewN | apply below_drew1 | refine below_set ?_ GE176.out) | exact HB.out)⟩
end Go.Proofs.Ytkaoojcafefjjaa.Ms
