-- Cut by a program of this session (wip/shake.py) out of a text of this seat: what this claim doesn't reach is struck out. Lean checks it.
import Derived.Test.YtpbbgbikebcnbaaMsx0Cs
import Derived.Test.YtpbbgbikebcnbaaMsx7Cs
namespace Go.Proofs.Ytpbbgbikebcnbaa.Ms
open Go.RowKit Go.Proofs.YtpbbgbikebcnbaaW.PrintWords Go.Proofs.YtpbbgbikebcnbaaW.PrintLast Go.Proofs.YtpbbgbikebcnbaaW.PrintMore
attribute [local go_sem] max2_int min2_int max_two min_two max_three min_three max_four min_four   -- for this text's walks alone
set_option linter.unusedVariables false
set_option linter.unusedSimpArgs false
attribute [local go_sem] eqlErr neqErr eqlErrNil neqErrNil
open Go.Proofs.Ytpbbgbikebcnbaa.Mw
mutual
def becketref12_Short.j0 : Nat → Bool → Int → Int → Int → Int → ByteArray → List (S95) → List (S61) → Option (Bool)
  | 0, _, _, _, _, _, _, _, _ => none
  | k + 1, x22, x244000, x244001, x244002, x244003, x244004, x244005, x244006 => if x22 = true then (some false) else (becketref12_Short.l0 k 0 x244000 x244001 x244002 x244003 x244004 x244005 x244006)
def becketref12_Short.l0 : Nat → Int → Int → Int → Int → Int → ByteArray → List (S95) → List (S61) → Option (Bool)
  | 0, _, _, _, _, _, _, _, _ => none
  | k + 1, x4, x244000, x244001, x244002, x244003, x244004, x244005, x244006 => if x4 < (x244006.length : Int) then (if 0 ≤ x4 then ((becketref12_short.f k ((rd_T61 x244006 x4).f2)).bind fun t246 => (if t246 = true then (becketref12_Short.l0 k (wrap64 (x4 + 1)) x244000 x244001 x244002 x244003 x244004 x244005 x244006) else (some false))) else (none)) else (some true)
end
def becketref12_Short.f (k : Nat) (a0_0 : Int) (a0_1 : Int) (a0_2 : Int) (a0_3 : Int) (a0_4 : ByteArray) (l0_5 : List (S95)) (l0_6 : List (S61)) : Option (Bool) := (becketref12_short.f k l0_5).bind fun t244 => (if t244 = true then (if (a0_4.size : Int) > 5000 then (becketref12_Short.j0 k true a0_0 a0_1 a0_2 a0_3 a0_4 l0_5 l0_6) else (becketref12_Short.j0 k (decide ((l0_6.length : Int) > 50)) a0_0 a0_1 a0_2 a0_3 a0_4 l0_5 l0_6)) else (becketref12_Short.j0 k true a0_0 a0_1 a0_2 a0_3 a0_4 l0_5 l0_6))
set_option maxHeartbeats 8000000 in
set_option maxRecDepth 100000 in
theorem becketref12_Short.calls (k : Nat) (a0_0 : Int) (a0_1 : Int) (a0_2 : Int) (a0_3 : Int) (a0_4 : ByteArray) (A0_5 : Option Addr) (c0_5 : Nat) (l0_5 : List (S95)) (A0_6 : Option Addr) (c0_6 : Nat) (l0_6 : List (S61)) (r : Bool) (w : World) (hr0_5 : Kd.C k95 w A0_5 l0_5.length l0_5) (hc0_5 : l0_5.length ≤ c0_5) (hr0_6 : Kd.C k61 w A0_6 l0_6.length l0_6) (hc0_6 : l0_6.length ≤ c0_6) (h : becketref12_Short.f k a0_0 a0_1 a0_2 a0_3 a0_4 l0_5 l0_6 = some r) :
    Calls Try.prog 11 #[.agg #[.int .i64 a0_0, .int .i64 a0_1, .int .i64 a0_2, .int .i64 a0_3, .string a0_4, .slice A0_5 l0_5.length c0_5, .slice A0_6 l0_6.length c0_6]] w fun e w' => e = .returned (.bool r) ∧ Below w.heap.size w w' := by
  have hu25 := Try.underlying25
  have HR0_5 := Aside0.mk hr0_5
  have HC0_5 := Aside0.mk hc0_5
  clear hr0_5 hc0_5
  have HR0_6 := Aside0.mk hr0_6
  have HC0_6 := Aside0.mk hc0_6
  clear hr0_6 hc0_6
  have HB := Aside0.mk (Below.refl w.heap.size w)
  have H : ((becketref12_short.f k l0_5).bind fun t244 => (if t244 = true then (if (a0_4.size : Int) > 5000 then (becketref12_Short.j0 k true a0_0 a0_1 a0_2 a0_3 a0_4 l0_5 l0_6) else (becketref12_Short.j0 k (decide ((l0_6.length : Int) > 50)) a0_0 a0_1 a0_2 a0_3 a0_4 l0_5 l0_6)) else (becketref12_Short.j0 k true a0_0 a0_1 a0_2 a0_3 a0_4 l0_5 l0_6))) = some r := h
  clear h
  replace H := Option.bind_eq_some_iff.mp H
  obtain ⟨t244, A20, H⟩ := H
  replace H : (if t244 = true then (if (a0_4.size : Int) > 5000 then (becketref12_Short.j0 k true a0_0 a0_1 a0_2 a0_3 a0_4 l0_5 l0_6) else (becketref12_Short.j0 k (decide ((l0_6.length : Int) > 50)) a0_0 a0_1 a0_2 a0_3 a0_4 l0_5 l0_6)) else (becketref12_Short.j0 k true a0_0 a0_1 a0_2 a0_3 a0_4 l0_5 l0_6)) = some r := H
  have A2 := Aside0.mk A20
  clear A20
  have HC3 := Aside0.mk H
  clear H
  go_enter Try.func11, Try.ntmps11
  go_upto_region 2 with (first | ((with_reducible refine gate_dst (N := 1) rfl ?_); (try (refine gate_guard (by rfl) ?_; dsimp only)); refine box_event ?hg (N := 1) ?hd (cs := #[.int .i64 a0_0, .int .i64 a0_1, .int .i64 a0_2, .int .i64 a0_3, .string a0_4, .slice A0_5 l0_5.length c0_5, .slice A0_6 l0_6.length c0_6]) (t := 25) ?hr ?_; (case hd => rfl); (case hg => rfl); (case hr => first | (go_simp; done) | (go_simp; rfl)); intro gb243 hg w4 hbox hb; have n0_ := Aside0.mk (below_step (by repeat (first | (with_reducible first | exact HB.out | apply below_alloc | apply pw_below_drewN | apply below_drew1) | exact HB.out)) hb); have n1_ := Aside0.mk (hbox); have n2_ := Aside0.mk ((by rw [hg]; exact (below_size (by repeat (first | (with_reducible first | exact HB.out | apply below_alloc | apply pw_below_drewN | apply below_drew1) | exact HB.out))) : w.heap.size ≤ gb243)); have n3_ := Aside0.mk ((by rw [hg]; exact (below_size (by repeat (first | (with_reducible first | exact HB.out | apply below_alloc | apply pw_below_drewN | apply below_drew1) | exact HB.out))) : w.heap.size ≤ gb243)); clear HB; have HB := n0_; have BK243 := n1_; have GW243 := n2_; have GE243 := n3_; clear n0_ n1_ n2_ n3_; clear hb hbox hg; have hcz5_0 : w4.cell? ⟨gb243, 0, none⟩ = some (.int .i64 a0_0) := (blk_cell BK243.out 0).trans rfl; have hcz5_1 : w4.cell? ⟨gb243, 1, none⟩ = some (.int .i64 a0_1) := (blk_cell BK243.out 1).trans rfl; have hcz5_2 : w4.cell? ⟨gb243, 2, none⟩ = some (.int .i64 a0_2) := (blk_cell BK243.out 2).trans rfl; have hcz5_3 : w4.cell? ⟨gb243, 3, none⟩ = some (.int .i64 a0_3) := (blk_cell BK243.out 3).trans rfl; have hcz5_4 : w4.cell? ⟨gb243, 4, none⟩ = some (.string a0_4) := (blk_cell BK243.out 4).trans rfl; have hcz5_5 : w4.cell? ⟨gb243, 5, none⟩ = some (.slice A0_5 l0_5.length c0_5) := (blk_cell BK243.out 5).trans rfl; have hcz5_6 : w4.cell? ⟨gb243, 6, none⟩ = some (.slice A0_6 l0_6.length c0_6) := (blk_cell BK243.out 6).trans rfl; have hfz5_0 := blk_frozen BK243.out 0; have hfz5_1 := blk_frozen BK243.out 1; have hfz5_2 := blk_frozen BK243.out 2; have hfz5_3 := blk_frozen BK243.out 3; have hfz5_4 := blk_frozen BK243.out 4; have hfz5_5 := blk_frozen BK243.out 5; have hfz5_6 := blk_frozen BK243.out 6) | ((with_reducible refine gate_callee (f := 26) rfl ?_); refine goesL_ (some 8) rfl rfl Try.func26 (by kernel_rfl) rfl #[.slice A0_5 l0_5.length c0_5] rfl (by (try simp only [List.map_toArray, List.map_cons, List.map_nil]); first | done | rfl | (simp only [List.length_drop, List.length_take]; rfl)) ?_; (with_reducible refine (becketref12_short.calls k _ _ l0_5 t244 _ ?side1 ?side2 A2.out).mono ?_); (case side1 => repeat (first | exact (Kd.C_below HR0_5.out HB.out) | (with_reducible refine Kd.C_alloc ?_ _) | (with_reducible refine Kd.C_drewN ?_ _) | (with_reducible refine Kd.C_drew ?_))); (case side2 => exact HC0_5.out); rintro e w' ⟨rfl, ⟨nd, rfl⟩⟩; refine ⟨_, rfl, ?_⟩))
  (try simp only [Act.put, List.setIfInBounds_toArray, List.set_cons_zero, List.set_cons_succ])
  go_cut [22] (fun v22 wc => ∃ (kq : Nat) (x22_2 : Bool), v22 = .bool x22_2 ∧ Aside0 (becketref12_Short.j0 kq x22_2 a0_0 a0_1 a0_2 a0_3 a0_4 l0_5 l0_6 = some r) ∧ Aside0 (kq ≤ k) ∧ Aside0 (wc.heap[gb243]? = some (.cells #[.int .i64 a0_0, .int .i64 a0_1, .int .i64 a0_2, .int .i64 a0_3, .string a0_4, (.slice A0_5 l0_5.length c0_5), (.slice A0_6 l0_6.length c0_6)] 25 (0, 0))) ∧ Aside0 (Below w.heap.size w wc))
  case first =>
    have H := HC3.out
    clear HC3
    by_cases c6 : t244 = true
    · subst c6
      have H1 : (if (a0_4.size : Int) > 5000 then (becketref12_Short.j0 k true a0_0 a0_1 a0_2 a0_3 a0_4 l0_5 l0_6) else (becketref12_Short.j0 k (decide ((l0_6.length : Int) > 50)) a0_0 a0_1 a0_2 a0_3 a0_4 l0_5 l0_6)) = some r := by first | (rw [if_pos rfl] at H; with_reducible exact H) | exact (if_pos rfl).symm.trans H | (simp only [if_true, eq_self_iff_true] at H ⊢; exact H)
      clear H
      have H := H1
      clear H1
      by_cases c7 : (a0_4.size : Int) > 5000
      · rw [if_pos c7] at H
        have c7b0 : decide (5000 < (a0_4.size : Int)) = true := decide_eq_true c7
        have c7b1 : decide (5000 < a0_4.size) = true := decide_eq_true (by omega)
        clear c7
        (first | rw [c7b0] | (simp only [i64_w, i32_w]; rw [c7b0]) | skip)
        have H' := Aside0.mk H
        clear H
        have hcz8_0 : w4.cell? ⟨gb243, 0, none⟩ = some (.int .i64 a0_0) := (blk_cell BK243.out 0).trans rfl
        have hcz8_1 : w4.cell? ⟨gb243, 1, none⟩ = some (.int .i64 a0_1) := (blk_cell BK243.out 1).trans rfl
        have hcz8_2 : w4.cell? ⟨gb243, 2, none⟩ = some (.int .i64 a0_2) := (blk_cell BK243.out 2).trans rfl
        have hcz8_3 : w4.cell? ⟨gb243, 3, none⟩ = some (.int .i64 a0_3) := (blk_cell BK243.out 3).trans rfl
        have hcz8_4 : w4.cell? ⟨gb243, 4, none⟩ = some (.string a0_4) := (blk_cell BK243.out 4).trans rfl
        have hcz8_5 : w4.cell? ⟨gb243, 5, none⟩ = some (.slice A0_5 l0_5.length c0_5) := (blk_cell BK243.out 5).trans rfl
        have hcz8_6 : w4.cell? ⟨gb243, 6, none⟩ = some (.slice A0_6 l0_6.length c0_6) := (blk_cell BK243.out 6).trans rfl
        have hfz8_0 := blk_frozen BK243.out 0
        have hfz8_1 := blk_frozen BK243.out 1
        have hfz8_2 := blk_frozen BK243.out 2
        have hfz8_3 := blk_frozen BK243.out 3
        have hfz8_4 := blk_frozen BK243.out 4
        have hfz8_5 := blk_frozen BK243.out 5
        have hfz8_6 := blk_frozen BK243.out 6
        go_wp2
        go_meet
        case rel => exact ⟨_, (true), (by first | rfl | (simp; done) | (simp [*]; done)), H', ⟨by first | omega | exact Nat.le_refl _⟩, ⟨by (with_reducible repeat (first | refine blk_drewN ?_ _ | refine blk_drew ?_ | refine blk_alloc ?_ _)); exact BK243.out⟩, ⟨by repeat (first | (with_reducible first | exact HB.out | apply below_alloc | apply pw_below_drewN | apply below_drew1 | refine below_set ?_ GE243.out) | exact HB.out)⟩⟩
      · rw [if_neg c7] at H
        have c7b0 : decide (5000 < (a0_4.size : Int)) = false := decide_eq_false c7
        have c7b1 : decide (5000 < a0_4.size) = false := decide_eq_false (by omega)
        clear c7
        (first | rw [c7b0] | (simp only [i64_w, i32_w]; rw [c7b0]) | skip)
        have H' := Aside0.mk H
        clear H
        have hcz9_0 : w4.cell? ⟨gb243, 0, none⟩ = some (.int .i64 a0_0) := (blk_cell BK243.out 0).trans rfl
        have hcz9_1 : w4.cell? ⟨gb243, 1, none⟩ = some (.int .i64 a0_1) := (blk_cell BK243.out 1).trans rfl
        have hcz9_2 : w4.cell? ⟨gb243, 2, none⟩ = some (.int .i64 a0_2) := (blk_cell BK243.out 2).trans rfl
        have hcz9_3 : w4.cell? ⟨gb243, 3, none⟩ = some (.int .i64 a0_3) := (blk_cell BK243.out 3).trans rfl
        have hcz9_4 : w4.cell? ⟨gb243, 4, none⟩ = some (.string a0_4) := (blk_cell BK243.out 4).trans rfl
        have hcz9_5 : w4.cell? ⟨gb243, 5, none⟩ = some (.slice A0_5 l0_5.length c0_5) := (blk_cell BK243.out 5).trans rfl
        have hcz9_6 : w4.cell? ⟨gb243, 6, none⟩ = some (.slice A0_6 l0_6.length c0_6) := (blk_cell BK243.out 6).trans rfl
        have hfz9_0 := blk_frozen BK243.out 0
        have hfz9_1 := blk_frozen BK243.out 1
        have hfz9_2 := blk_frozen BK243.out 2
        have hfz9_3 := blk_frozen BK243.out 3
        have hfz9_4 := blk_frozen BK243.out 4
        have hfz9_5 := blk_frozen BK243.out 5
        have hfz9_6 := blk_frozen BK243.out 6
        go_wp2
        go_meet
        case rel => exact ⟨_, (decide ((l0_6.length : Int) > 50)), (by first | rfl | (simp; done) | (simp [*]; done)), H', ⟨by first | omega | exact Nat.le_refl _⟩, ⟨by (with_reducible repeat (first | refine blk_drewN ?_ _ | refine blk_drew ?_ | refine blk_alloc ?_ _)); exact BK243.out⟩, ⟨by repeat (first | (with_reducible first | exact HB.out | apply below_alloc | apply pw_below_drewN | apply below_drew1 | refine below_set ?_ GE243.out) | exact HB.out)⟩⟩
    · replace c6 := Bool.eq_false_iff.mpr c6
      subst c6
      have H1 : (becketref12_Short.j0 k true a0_0 a0_1 a0_2 a0_3 a0_4 l0_5 l0_6) = some r := by rw [if_neg (show ¬ (false = true) by decide)] at H; exact H
      clear H
      have H := H1
      clear H1
      have H' := Aside0.mk H
      clear H
      go_wp2
      go_meet
      case rel => exact ⟨_, (true), (by first | rfl | (simp; done) | (simp [*]; done)), H', ⟨by first | omega | exact Nat.le_refl _⟩, ⟨by (with_reducible repeat (first | refine blk_drewN ?_ _ | refine blk_drew ?_ | refine blk_alloc ?_ _)); exact BK243.out⟩, ⟨by repeat (first | (with_reducible first | exact HB.out | apply below_alloc | apply pw_below_drewN | apply below_drew1 | refine below_set ?_ GE243.out) | exact HB.out)⟩⟩
  case rest =>
    clear HC3
    try clear c1
    try clear c2
    try clear p2
    try clear c6
    try clear c7
    try clear c7b0
    try clear c7b1
    try clear hcz5_0
    try clear hcz5_1
    try clear hcz5_2
    try clear hcz5_3
    try clear hcz5_4
    try clear hcz5_5
    try clear hcz5_6
    try clear hcz8_0
    try clear hcz8_1
    try clear hcz8_2
    try clear hcz8_3
    try clear hcz8_4
    try clear hcz8_5
    try clear hcz8_6
    try clear hcz9_0
    try clear hcz9_1
    try clear hcz9_2
    try clear hcz9_3
    try clear hcz9_4
    try clear hcz9_5
    try clear hcz9_6
    try clear hfz5_0
    try clear hfz5_1
    try clear hfz5_2
    try clear hfz5_3
    try clear hfz5_4
    try clear hfz5_5
    try clear hfz5_6
    try clear hfz8_0
    try clear hfz8_1
    try clear hfz8_2
    try clear hfz8_3
    try clear hfz8_4
    try clear hfz8_5
    try clear hfz8_6
    try clear hfz9_0
    try clear hfz9_1
    try clear hfz9_2
    try clear hfz9_3
    try clear hfz9_4
    try clear hfz9_5
    try clear hfz9_6
    obtain ⟨kq, x22_2, rfl, HA, HJ2, BK243, HB⟩ := hcut
    cases kq with
    | zero => exact absurd HA.out (by simp [becketref12_Short.j0])
    | succ kj2 =>
      have H := HA.out
      clear HA
      simp only [becketref12_Short.j0] at H
      by_cases c10 : x22_2 = true
      · subst c10
        have H1 : (some false) = some r := by first | (rw [if_pos rfl] at H; with_reducible exact H) | exact (if_pos rfl).symm.trans H | (simp only [if_true, eq_self_iff_true] at H ⊢; exact H)
        clear H
        have H := H1
        clear H1
        obtain rfl := Option.some.inj H
        go_wp2
        go_ret
        exact ⟨by first | rfl | (simp [errW_none, errW_some] <;> rfl) | (simp [*, errW_none, errW_some] <;> rfl), by repeat (first | (with_reducible first | exact HB.out | apply below_alloc | apply pw_below_drewN | apply below_drew1 | refine below_set ?_ GE243.out) | exact HB.out)⟩
      · replace c10 := Bool.eq_false_iff.mpr c10
        subst c10
        have H1 : (becketref12_Short.l0 kj2 0 a0_0 a0_1 a0_2 a0_3 a0_4 l0_5 l0_6) = some r := by rw [if_neg (show ¬ (false = true) by decide)] at H; exact H
        clear H
        have H := H1
        clear H1
        have H' := Aside0.mk H
        clear H
        go_wp2
        go_loopg [4] kj2 (fun kq v4 w' => ∃ (x4_2 : Int), v4 = .int .i64 x4_2 ∧ Aside0 (becketref12_Short.l0 kq x4_2 a0_0 a0_1 a0_2 a0_3 a0_4 l0_5 l0_6 = some r) ∧ Aside0 (kq ≤ kj2) ∧ Aside0 (w'.heap[gb243]? = some (.cells #[.int .i64 a0_0, .int .i64 a0_1, .int .i64 a0_2, .int .i64 a0_3, .string a0_4, (.slice A0_5 l0_5.length c0_5), (.slice A0_6 l0_6.length c0_6)] 25 (0, 0))) ∧ Aside0 (Below w.heap.size w w'))
        case atStart => exact ⟨(0), (by first | rfl | (simp; done) | (simp [*]; done)), H', ⟨Nat.le_refl _⟩, ⟨by (with_reducible repeat (first | refine blk_drewN ?_ _ | refine blk_drew ?_ | refine blk_alloc ?_ _)); exact BK243.out⟩, ⟨by repeat (first | (with_reducible first | exact HB.out | apply below_alloc | apply pw_below_drewN | apply below_drew1 | refine below_set ?_ GE243.out) | exact HB.out)⟩⟩
        case round =>
          clear H'
          try clear c1
          try clear c2
          try clear p2
          try clear c6
          try clear c7
          try clear c7b0
          try clear c7b1
          try clear c10
          try clear hcz5_0
          try clear hcz5_1
          try clear hcz5_2
          try clear hcz5_3
          try clear hcz5_4
          try clear hcz5_5
          try clear hcz5_6
          try clear hcz8_0
          try clear hcz8_1
          try clear hcz8_2
          try clear hcz8_3
          try clear hcz8_4
          try clear hcz8_5
          try clear hcz8_6
          try clear hcz9_0
          try clear hcz9_1
          try clear hcz9_2
          try clear hcz9_3
          try clear hcz9_4
          try clear hcz9_5
          try clear hcz9_6
          try clear hfz5_0
          try clear hfz5_1
          try clear hfz5_2
          try clear hfz5_3
          try clear hfz5_4
          try clear hfz5_5
          try clear hfz5_6
          try clear hfz8_0
          try clear hfz8_1
          try clear hfz8_2
          try clear hfz8_3
          try clear hfz8_4
          try clear hfz8_5
          try clear hfz8_6
          try clear hfz9_0
          try clear hfz9_1
          try clear hfz9_2
          try clear hfz9_3
          try clear hfz9_4
          try clear hfz9_5
          try clear hfz9_6
          try clear p2
          obtain ⟨x4_2, rfl, HA, HK2, BK243, HB⟩ := hrel
          cases gk with
          | zero => exact absurd HA.out (by simp [becketref12_Short.l0])
          | succ k2 =>
            have H := HA.out
            clear HA
            simp only [becketref12_Short.l0] at H
            by_cases c11 : x4_2 < (l0_6.length : Int)
            · rw [if_pos c11] at H
              have c11b0 : decide (x4_2 < (l0_6.length : Int)) = true := decide_eq_true c11
              clear c11
              by_cases c12 : 0 ≤ x4_2
              · rw [if_pos c12] at H
                have c12b0 : decide (0 ≤ x4_2) = true := decide_eq_true c12
                clear c12
                replace H := Option.bind_eq_some_iff.mp H
                obtain ⟨t246, A130, H⟩ := H
                replace H : (if t246 = true then (becketref12_Short.l0 k2 (wrap64 (x4_2 + 1)) a0_0 a0_1 a0_2 a0_3 a0_4 l0_5 l0_6) else (some false)) = some r := H
                have A13 := Aside0.mk A130
                clear A130
                by_cases c14 : t246 = true
                · subst c14
                  have H1 : (becketref12_Short.l0 k2 (wrap64 (x4_2 + 1)) a0_0 a0_1 a0_2 a0_3 a0_4 l0_5 l0_6) = some r := by first | (rw [if_pos rfl] at H; with_reducible exact H) | exact (if_pos rfl).symm.trans H | (simp only [if_true, eq_self_iff_true] at H ⊢; exact H)
                  clear H
                  have H := H1
                  clear H1
                  have H' := Aside0.mk H
                  clear H
                  have hcz15_0 : wr.cell? ⟨gb243, 0, none⟩ = some (.int .i64 a0_0) := (blk_cell BK243.out 0).trans rfl
                  have hcz15_1 : wr.cell? ⟨gb243, 1, none⟩ = some (.int .i64 a0_1) := (blk_cell BK243.out 1).trans rfl
                  have hcz15_2 : wr.cell? ⟨gb243, 2, none⟩ = some (.int .i64 a0_2) := (blk_cell BK243.out 2).trans rfl
                  have hcz15_3 : wr.cell? ⟨gb243, 3, none⟩ = some (.int .i64 a0_3) := (blk_cell BK243.out 3).trans rfl
                  have hcz15_4 : wr.cell? ⟨gb243, 4, none⟩ = some (.string a0_4) := (blk_cell BK243.out 4).trans rfl
                  have hcz15_5 : wr.cell? ⟨gb243, 5, none⟩ = some (.slice A0_5 l0_5.length c0_5) := (blk_cell BK243.out 5).trans rfl
                  have hcz15_6 : wr.cell? ⟨gb243, 6, none⟩ = some (.slice A0_6 l0_6.length c0_6) := (blk_cell BK243.out 6).trans rfl
                  have hfz15_0 := blk_frozen BK243.out 0
                  have hfz15_1 := blk_frozen BK243.out 1
                  have hfz15_2 := blk_frozen BK243.out 2
                  have hfz15_3 := blk_frozen BK243.out 3
                  have hfz15_4 := blk_frozen BK243.out 4
                  have hfz15_5 := blk_frozen BK243.out 5
                  have hfz15_6 := blk_frozen BK243.out 6
                  have p245 : 0 ≤ (x4_2 : Int) := of_decide_eq_true (by first | (with_reducible assumption) | assumption)
                  have q245 : x4_2 < (l0_6.length : Int) := of_decide_eq_true (by first | (with_reducible assumption) | assumption)
                  obtain ⟨ad245, A245_2, c245_2, e245, hx245_0, hx245_1, hx245_2, hl245_2, hi245_2⟩ := at_T61 HR0_6.out x4_2 p245 q245
                  cases e245
                  replace hx245_0 := (HB.out.cell (World.block_lt_of_cell? w _ hx245_0)).trans hx245_0
                  replace hx245_1 := (HB.out.cell (World.block_lt_of_cell? w _ hx245_1)).trans hx245_1
                  replace hx245_2 := (HB.out.cell (World.block_lt_of_cell? w _ hx245_2)).trans hx245_2
                  have HR245_2 := Aside0.mk hi245_2
                  have HC245_2 := Aside0.mk hl245_2
                  clear hi245_2 hl245_2
                  replace p245 := eq_true p245
                  replace q245 := eq_true q245
                  go_wp2_with (first | ((with_reducible refine gate_callee (f := 26) rfl ?_); refine goesL_ (some 36) rfl rfl Try.func26 (by kernel_rfl) rfl #[.slice A245_2 ((rd_T61 l0_6 x4_2).f2).length c245_2] rfl (by (try simp only [List.map_toArray, List.map_cons, List.map_nil]); first | done | rfl | (simp only [List.length_drop, List.length_take]; rfl)) ?_; (with_reducible refine (becketref12_short.calls k2 _ _ ((rd_T61 l0_6 x4_2).f2) true _ ?side1 ?side2 A13.out).mono ?_); (case side1 => repeat (first | exact (Kd.C_below HR245_2.out HB.out) | (with_reducible refine Kd.C_alloc ?_ _) | (with_reducible refine Kd.C_drewN ?_ _) | (with_reducible refine Kd.C_drew ?_))); (case side2 => exact HC245_2.out); rintro e w' ⟨rfl, ⟨nd, rfl⟩⟩; refine ⟨_, rfl, ?_⟩))
                  go_roundg k2
                  case measure => have := HJ2.out; have := HK2.out; omega
                  case rel => exact ⟨(wrap64 (x4_2 + 1)), (by first | rfl | (simp; done) | (simp [*]; done)), H', ⟨by have := HJ2.out; have := HK2.out; omega⟩, ⟨by (with_reducible repeat (first | refine blk_drewN ?_ _ | refine blk_drew ?_ | refine blk_alloc ?_ _)); exact BK243.out⟩, ⟨by repeat (first | (with_reducible first | exact HB.out | apply below_alloc | apply pw_below_drewN | apply below_drew1 | refine below_set ?_ GE243.out) | exact HB.out)⟩⟩
                · replace c14 := Bool.eq_false_iff.mpr c14
                  subst c14
                  have H1 : (some false) = some r := by rw [if_neg (show ¬ (false = true) by decide)] at H; exact H
                  clear H
                  have H := H1
                  clear H1
                  obtain rfl := Option.some.inj H
                  have hcz16_0 : wr.cell? ⟨gb243, 0, none⟩ = some (.int .i64 a0_0) := (blk_cell BK243.out 0).trans rfl
                  have hcz16_1 : wr.cell? ⟨gb243, 1, none⟩ = some (.int .i64 a0_1) := (blk_cell BK243.out 1).trans rfl
                  have hcz16_2 : wr.cell? ⟨gb243, 2, none⟩ = some (.int .i64 a0_2) := (blk_cell BK243.out 2).trans rfl
                  have hcz16_3 : wr.cell? ⟨gb243, 3, none⟩ = some (.int .i64 a0_3) := (blk_cell BK243.out 3).trans rfl
                  have hcz16_4 : wr.cell? ⟨gb243, 4, none⟩ = some (.string a0_4) := (blk_cell BK243.out 4).trans rfl
                  have hcz16_5 : wr.cell? ⟨gb243, 5, none⟩ = some (.slice A0_5 l0_5.length c0_5) := (blk_cell BK243.out 5).trans rfl
                  have hcz16_6 : wr.cell? ⟨gb243, 6, none⟩ = some (.slice A0_6 l0_6.length c0_6) := (blk_cell BK243.out 6).trans rfl
                  have hfz16_0 := blk_frozen BK243.out 0
                  have hfz16_1 := blk_frozen BK243.out 1
                  have hfz16_2 := blk_frozen BK243.out 2
                  have hfz16_3 := blk_frozen BK243.out 3
                  have hfz16_4 := blk_frozen BK243.out 4
                  have hfz16_5 := blk_frozen BK243.out 5
                  have hfz16_6 := blk_frozen BK243.out 6
                  have p245 : 0 ≤ (x4_2 : Int) := of_decide_eq_true (by first | (with_reducible assumption) | assumption)
                  have q245 : x4_2 < (l0_6.length : Int) := of_decide_eq_true (by first | (with_reducible assumption) | assumption)
                  obtain ⟨ad245, A245_2, c245_2, e245, hx245_0, hx245_1, hx245_2, hl245_2, hi245_2⟩ := at_T61 HR0_6.out x4_2 p245 q245
                  cases e245
                  replace hx245_0 := (HB.out.cell (World.block_lt_of_cell? w _ hx245_0)).trans hx245_0
                  replace hx245_1 := (HB.out.cell (World.block_lt_of_cell? w _ hx245_1)).trans hx245_1
                  replace hx245_2 := (HB.out.cell (World.block_lt_of_cell? w _ hx245_2)).trans hx245_2
                  have HR245_2 := Aside0.mk hi245_2
                  have HC245_2 := Aside0.mk hl245_2
                  clear hi245_2 hl245_2
                  replace p245 := eq_true p245
                  replace q245 := eq_true q245
                  go_wp2_with (first | ((with_reducible refine gate_callee (f := 26) rfl ?_); refine goesL_ (some 36) rfl rfl Try.func26 (by kernel_rfl) rfl #[.slice A245_2 ((rd_T61 l0_6 x4_2).f2).length c245_2] rfl (by (try simp only [List.map_toArray, List.map_cons, List.map_nil]); first | done | rfl | (simp only [List.length_drop, List.length_take]; rfl)) ?_; (with_reducible refine (becketref12_short.calls k2 _ _ ((rd_T61 l0_6 x4_2).f2) false _ ?side1 ?side2 A13.out).mono ?_); (case side1 => repeat (first | exact (Kd.C_below HR245_2.out HB.out) | (with_reducible refine Kd.C_alloc ?_ _) | (with_reducible refine Kd.C_drewN ?_ _) | (with_reducible refine Kd.C_drew ?_))); (case side2 => exact HC245_2.out); rintro e w' ⟨rfl, ⟨nd, rfl⟩⟩; refine ⟨_, rfl, ?_⟩))
                  go_ret
                  exact ⟨by first | rfl | (simp [errW_none, errW_some] <;> rfl) | (simp [*, errW_none, errW_some] <;> rfl), by repeat (first | (with_reducible first | exact HB.out | apply below_alloc | apply pw_below_drewN | apply below_drew1 | refine below_set ?_ GE243.out) | exact HB.out)⟩
              · rw [if_neg c12] at H
                exact absurd H (by simp)
            · rw [if_neg c11] at H
              have c11b0 : decide (x4_2 < (l0_6.length : Int)) = false := decide_eq_false c11
              clear c11
              obtain rfl := Option.some.inj H
              have hcz17_0 : wr.cell? ⟨gb243, 0, none⟩ = some (.int .i64 a0_0) := (blk_cell BK243.out 0).trans rfl
              have hcz17_1 : wr.cell? ⟨gb243, 1, none⟩ = some (.int .i64 a0_1) := (blk_cell BK243.out 1).trans rfl
              have hcz17_2 : wr.cell? ⟨gb243, 2, none⟩ = some (.int .i64 a0_2) := (blk_cell BK243.out 2).trans rfl
              have hcz17_3 : wr.cell? ⟨gb243, 3, none⟩ = some (.int .i64 a0_3) := (blk_cell BK243.out 3).trans rfl
              have hcz17_4 : wr.cell? ⟨gb243, 4, none⟩ = some (.string a0_4) := (blk_cell BK243.out 4).trans rfl
              have hcz17_5 : wr.cell? ⟨gb243, 5, none⟩ = some (.slice A0_5 l0_5.length c0_5) := (blk_cell BK243.out 5).trans rfl
              have hcz17_6 : wr.cell? ⟨gb243, 6, none⟩ = some (.slice A0_6 l0_6.length c0_6) := (blk_cell BK243.out 6).trans rfl
              have hfz17_0 := blk_frozen BK243.out 0
              have hfz17_1 := blk_frozen BK243.out 1
              have hfz17_2 := blk_frozen BK243.out 2
              have hfz17_3 := blk_frozen BK243.out 3
              have hfz17_4 := blk_frozen BK243.out 4
              have hfz17_5 := blk_frozen BK243.out 5
              have hfz17_6 := blk_frozen BK243.out 6
              go_wp2
              go_ret
              exact ⟨by first | rfl | (simp [errW_none, errW_some] <;> rfl) | (simp [*, errW_none, errW_some] <;> rfl), by repeat (first | (with_reducible first | exact HB.out | apply below_alloc | apply pw_below_drewN | apply below_drew1 | refine below_set ?_ GE243.out) | exact HB.out)⟩
end Go.Proofs.Ytpbbgbikebcnbaa.Ms
