-- Cut by a program of this session (wip/shake.py) out of a text of this seat: what this claim doesn't reach is struck out. Lean checks it.
import Derived.Test.YtkaoojcafefjjaaMsx0Cp
import Derived.Test.YtkaoojcafefjjaaMsx8Cp
import Derived.Test.YtkaoojcafefjjaaMsx10Cp
namespace Go.Proofs.Ytkaoojcafefjjaa.Ms
open Go.RowKit Go.Proofs.YtkaoojcafefjjaaW.PrintWords Go.Proofs.YtkaoojcafefjjaaW.PrintLast Go.Proofs.YtkaoojcafefjjaaW.PrintMore
attribute [local go_sem] max2_int min2_int max_two min_two max_three min_three max_four min_four   -- for this text's walks alone
set_option linter.unusedVariables false
set_option linter.unusedSimpArgs false
attribute [local go_sem] eqlErr neqErr eqlErrNil neqErrNil
open Go.Proofs.Ytkaoojcafefjjaa.Mw
mutual
def becketref18_Send.l0 : Nat → Int → Int → List (S31) → List (S41) → Int → Option ((List (S41)))
  | 0, _, _, _, _, _ => none
  | k + 1, x0, x1, x2, x7, x8 => if x8 < (x2.length : Int) then (if 0 ≤ x8 then ((becketref12_May.f k ((rd_T31 x2 x8).f1.f0) ((rd_T31 x2 x8).f1.f1) ((rd_T31 x2 x8).f1.f2) ((rd_T31 x2 x8).f1.f3) ((rd_T31 x2 x8).f1.f4) ((rd_T31 x2 x8).f1.f5) ((rd_T31 x2 x8).f1.f6)).bind fun t303 => (if t303 = true then ((becketref12_Put.f k ((rd_T31 x2 x8).f1.f0) ((rd_T31 x2 x8).f1.f1) ((rd_T31 x2 x8).f1.f2) ((rd_T31 x2 x8).f1.f3) ((rd_T31 x2 x8).f1.f4) ((rd_T31 x2 x8).f1.f5) ((rd_T31 x2 x8).f1.f6)).bind fun t306 => (if ((rd_T31 x2 x8).f0) ≥ 0 then (if ((rd_T31 x2 x8).f0) ≤ (wrap64 (3 * x0)) then (becketref18_Send.j1 k x0 x1 x2 x7 x8 ((rd_T31 x2 x8).f0) true x1 ((rd_T31 x2 x8).f0) (strOfNums t306)) else (if ((rd_T31 x2 x8).f0) ≥ 100 then (becketref18_Send.j1 k x0 x1 x2 x7 x8 ((rd_T31 x2 x8).f0) (decide (((rd_T31 x2 x8).f0) ≤ 107)) x1 ((rd_T31 x2 x8).f0) (strOfNums t306)) else (becketref18_Send.j1 k x0 x1 x2 x7 x8 ((rd_T31 x2 x8).f0) false x1 ((rd_T31 x2 x8).f0) (strOfNums t306)))) else (if ((rd_T31 x2 x8).f0) ≥ 100 then (becketref18_Send.j1 k x0 x1 x2 x7 x8 ((rd_T31 x2 x8).f0) (decide (((rd_T31 x2 x8).f0) ≤ 107)) x1 ((rd_T31 x2 x8).f0) (strOfNums t306)) else (becketref18_Send.j1 k x0 x1 x2 x7 x8 ((rd_T31 x2 x8).f0) false x1 ((rd_T31 x2 x8).f0) (strOfNums t306))))) else (becketref18_Send.l0 k x0 x1 x2 x7 (wrap64 (x8 + 1))))) else (none)) else (some x7)
def becketref18_Send.j1 : Nat → Int → Int → List (S31) → List (S41) → Int → Int → Bool → Int → Int → ByteArray → Option ((List (S41)))
  | 0, _, _, _, _, _, _, _, _, _, _ => none
  | k + 1, x0, x1, x2, x7, x8, x11, x61, x310000, x310001, x310002 => if x61 = true then (if x7.length < 4398046511104 then (becketref18_Send.j2 k x0 x1 x2 (x7 ++ [(⟨x310000, x310001, x310002⟩ : S41)]) x8 x11 x310000 x310001 x310002) else (none)) else (becketref18_Send.j2 k x0 x1 x2 x7 x8 x11 x310000 x310001 x310002)
def becketref18_Send.j2 : Nat → Int → Int → List (S31) → List (S41) → Int → Int → Int → Int → ByteArray → Option ((List (S41)))
  | 0, _, _, _, _, _, _, _, _, _ => none
  | k + 1, x0, x1, x2, x7, x8, x11, x310000, x310001, x310002 => if x11 = (-1) then (becketref18_Send.l1 k x0 x1 x2 x7 x8 0 x310000 x310001 x310002) else (becketref18_Send.l0 k x0 x1 x2 x7 (wrap64 (x8 + 1)))
def becketref18_Send.l1 : Nat → Int → Int → List (S31) → List (S41) → Int → Int → Int → Int → ByteArray → Option ((List (S41)))
  | 0, _, _, _, _, _, _, _, _, _ => none
  | k + 1, x0, x1, x2, x7, x8, x12, x310000, x310001, x310002 => if x12 ≤ (wrap64 (3 * x0)) then (if x12 = x1 then (becketref18_Send.l1 k x0 x1 x2 x7 x8 (wrap64 (x12 + 1)) x310000 x310001 x310002) else (if x7.length < 4398046511104 then (becketref18_Send.l1 k x0 x1 x2 (x7 ++ [(⟨x310000, x12, x310002⟩ : S41)]) x8 (wrap64 (x12 + 1)) x310000 x12 x310002) else (none))) else (becketref18_Send.l0 k x0 x1 x2 x7 (wrap64 (x8 + 1)))
end
def becketref18_Send.f (k : Nat) (a0 : Int) (a1 : Int) (l2 : List (S31)) : Option ((List (S41))) := becketref18_Send.l0 k a0 a1 l2 ([] : List (S41)) 0
def becketref18_Send.T7 : Bool × List (List Nat × List Nat) := (true, [([], []), ([], []), ([], []), ([1, 2], [1, 2]), ([3], [3]), ([4], [4]), ([], []), ([], []), ([6, 7], [6, 7]), ([8], [8]), ([9], [9]), ([10], [10]), ([11], [11]), ([0, 5, 12], [0, 5, 12]), ([], []), ([14, 13, 11, 0, 1, 2, 3, 4, 5, 6, 7, 8, 9, 10, 11, 12, 13, 14], [13, 14])])
def becketref18_Send.B7 : List Nat := [0, 0, 0, 6, 14, 30, 0, 0, 192, 448, 960, 1984, 4032, 8191, 0, 32767]
theorem becketref18_Send.tab7 : rtab .any (opsOf Try.f16 7) = becketref18_Send.T7 := by kernel_rfl
theorem becketref18_Send.bits7 : waitsOk becketref18_Send.T7.2 becketref18_Send.B7 = true := by kernel_rfl
theorem V_string_becketref18_Send {P : Program} {w : World} {base E : Nat} {ok : Nat → Prop} {src dst e : TypeId} {v : Value} {xs : List Int} (hs : P.underlying src = some (.slice e)) (he : P.underlying e = some (.int .u8)) (hd : P.underlying dst = some .string) (h : (Kd.int .u8).V E w base ok v xs) : (convert src dst v).run P w = .ok (.string (strOfNums xs)) w := by
  obtain ⟨A, c, rfl, hc, hF⟩ := h
  exact Kd.C_string hs he hd (Kd.F_now hF)
set_option maxHeartbeats 8000000 in
set_option maxRecDepth 100000 in
theorem becketref18_Send.calls (k : Nat) (a0 : Int) (a1 : Int) (A2 : Option Addr) (c2 : Nat) (l2 : List (S31)) (r : List (S41)) (w : World) (hr2 : Kd.C k31 w A2 l2.length l2) (hc2 : l2.length ≤ c2) (h : becketref18_Send.f k a0 a1 l2 = some r) :
    Calls Try.prog 16 #[.int .i64 a0, .int .i64 a1, .slice A2 l2.length c2] w fun e w' => ∃ v0_ : Value, e = .returned (v0_) ∧ Kd.R k41 41 w' w.heap.size (fun _ => True) v0_ r ∧ Below w.heap.size w w' := by
  have hu29 := Try.underlying29
  have hu41 := Try.underlying41
  have HR2 := Aside0.mk hr2
  have HC2 := Aside0.mk hc2
  clear hr2 hc2
  have HB := Aside0.mk (Below.refl w.heap.size w)
  have H : (becketref18_Send.l0 k a0 a1 l2 ([] : List (S41)) 0) = some r := h
  clear h
  have H' := Aside0.mk H
  clear H
  go_enter Try.func16, Try.ntmps16
  go_wp2
  go_loopg [7, 8] k (fun kq v7 v8 w' => ∃ (x7_1 : List (S41)) (x8_1 : Int), v8 = .int .i64 x8_1 ∧ Aside0 (becketref18_Send.l0 kq a0 a1 l2 x7_1 x8_1 = some r) ∧ Aside0 (kq ≤ k) ∧ Aside0 (Kd.R k41 41 w' w.heap.size (fun _ => True) v7 x7_1) ∧ Aside0 (Below w.heap.size w w'))
  case atStart => exact ⟨(([] : List (S41))), (0), (by first | rfl | (simp; done) | (simp [*]; done)), H', ⟨Nat.le_refl _⟩, ⟨by first | exact Kd.R_nil _ _ _ _ _ | exact Kd.N_nil _ _ _ _ _ | exact Kd.V_nil _ _ _ _ _ | exact Kd.Q_nil _ _ _ _ _ | exact Kd.S_nil _ _ _ _ _⟩, ⟨by repeat (first | (with_reducible first | exact HB.out | apply below_alloc | apply pw_below_drewN | apply below_drew1) | exact HB.out)⟩⟩
  case round =>
    clear H'
    try clear c1
    try clear c2
    try clear p2
    obtain ⟨x7_1, x8_1, rfl, HA, HK1, HO_7, HB⟩ := hrel
    cases gk with
    | zero => exact absurd HA.out (by simp [becketref18_Send.l0])
    | succ k1 =>
      have H := HA.out
      clear HA
      simp only [becketref18_Send.l0] at H
      by_cases c4 : x8_1 < (l2.length : Int)
      · rw [if_pos c4] at H
        have c4b0 : decide (x8_1 < (l2.length : Int)) = true := decide_eq_true c4
        clear c4
        by_cases c5 : 0 ≤ x8_1
        · rw [if_pos c5] at H
          have c5b0 : decide (0 ≤ x8_1) = true := decide_eq_true c5
          clear c5
          replace H := Option.bind_eq_some_iff.mp H
          obtain ⟨t303, A60, H⟩ := H
          replace H : (if t303 = true then ((becketref12_Put.f k1 ((rd_T31 l2 x8_1).f1.f0) ((rd_T31 l2 x8_1).f1.f1) ((rd_T31 l2 x8_1).f1.f2) ((rd_T31 l2 x8_1).f1.f3) ((rd_T31 l2 x8_1).f1.f4) ((rd_T31 l2 x8_1).f1.f5) ((rd_T31 l2 x8_1).f1.f6)).bind fun t306 => (if ((rd_T31 l2 x8_1).f0) ≥ 0 then (if ((rd_T31 l2 x8_1).f0) ≤ (wrap64 (3 * a0)) then (becketref18_Send.j1 k1 a0 a1 l2 x7_1 x8_1 ((rd_T31 l2 x8_1).f0) true a1 ((rd_T31 l2 x8_1).f0) (strOfNums t306)) else (if ((rd_T31 l2 x8_1).f0) ≥ 100 then (becketref18_Send.j1 k1 a0 a1 l2 x7_1 x8_1 ((rd_T31 l2 x8_1).f0) (decide (((rd_T31 l2 x8_1).f0) ≤ 107)) a1 ((rd_T31 l2 x8_1).f0) (strOfNums t306)) else (becketref18_Send.j1 k1 a0 a1 l2 x7_1 x8_1 ((rd_T31 l2 x8_1).f0) false a1 ((rd_T31 l2 x8_1).f0) (strOfNums t306)))) else (if ((rd_T31 l2 x8_1).f0) ≥ 100 then (becketref18_Send.j1 k1 a0 a1 l2 x7_1 x8_1 ((rd_T31 l2 x8_1).f0) (decide (((rd_T31 l2 x8_1).f0) ≤ 107)) a1 ((rd_T31 l2 x8_1).f0) (strOfNums t306)) else (becketref18_Send.j1 k1 a0 a1 l2 x7_1 x8_1 ((rd_T31 l2 x8_1).f0) false a1 ((rd_T31 l2 x8_1).f0) (strOfNums t306))))) else (becketref18_Send.l0 k1 a0 a1 l2 x7_1 (wrap64 (x8_1 + 1)))) = some r := H
          have A6 := Aside0.mk A60
          clear A60
          by_cases c7 : t303 = true
          · subst c7
            have H1 : ((becketref12_Put.f k1 ((rd_T31 l2 x8_1).f1.f0) ((rd_T31 l2 x8_1).f1.f1) ((rd_T31 l2 x8_1).f1.f2) ((rd_T31 l2 x8_1).f1.f3) ((rd_T31 l2 x8_1).f1.f4) ((rd_T31 l2 x8_1).f1.f5) ((rd_T31 l2 x8_1).f1.f6)).bind fun t306 => (if ((rd_T31 l2 x8_1).f0) ≥ 0 then (if ((rd_T31 l2 x8_1).f0) ≤ (wrap64 (3 * a0)) then (becketref18_Send.j1 k1 a0 a1 l2 x7_1 x8_1 ((rd_T31 l2 x8_1).f0) true a1 ((rd_T31 l2 x8_1).f0) (strOfNums t306)) else (if ((rd_T31 l2 x8_1).f0) ≥ 100 then (becketref18_Send.j1 k1 a0 a1 l2 x7_1 x8_1 ((rd_T31 l2 x8_1).f0) (decide (((rd_T31 l2 x8_1).f0) ≤ 107)) a1 ((rd_T31 l2 x8_1).f0) (strOfNums t306)) else (becketref18_Send.j1 k1 a0 a1 l2 x7_1 x8_1 ((rd_T31 l2 x8_1).f0) false a1 ((rd_T31 l2 x8_1).f0) (strOfNums t306)))) else (if ((rd_T31 l2 x8_1).f0) ≥ 100 then (becketref18_Send.j1 k1 a0 a1 l2 x7_1 x8_1 ((rd_T31 l2 x8_1).f0) (decide (((rd_T31 l2 x8_1).f0) ≤ 107)) a1 ((rd_T31 l2 x8_1).f0) (strOfNums t306)) else (becketref18_Send.j1 k1 a0 a1 l2 x7_1 x8_1 ((rd_T31 l2 x8_1).f0) false a1 ((rd_T31 l2 x8_1).f0) (strOfNums t306))))) = some r := by first | (rw [if_pos rfl] at H; with_reducible exact H) | exact (if_pos rfl).symm.trans H | (simp only [if_true, eq_self_iff_true] at H ⊢; exact H)
            clear H
            have H := H1
            clear H1
            replace H := Option.bind_eq_some_iff.mp H
            obtain ⟨t306, A80, H⟩ := H
            replace H : (if ((rd_T31 l2 x8_1).f0) ≥ 0 then (if ((rd_T31 l2 x8_1).f0) ≤ (wrap64 (3 * a0)) then (becketref18_Send.j1 k1 a0 a1 l2 x7_1 x8_1 ((rd_T31 l2 x8_1).f0) true a1 ((rd_T31 l2 x8_1).f0) (strOfNums t306)) else (if ((rd_T31 l2 x8_1).f0) ≥ 100 then (becketref18_Send.j1 k1 a0 a1 l2 x7_1 x8_1 ((rd_T31 l2 x8_1).f0) (decide (((rd_T31 l2 x8_1).f0) ≤ 107)) a1 ((rd_T31 l2 x8_1).f0) (strOfNums t306)) else (becketref18_Send.j1 k1 a0 a1 l2 x7_1 x8_1 ((rd_T31 l2 x8_1).f0) false a1 ((rd_T31 l2 x8_1).f0) (strOfNums t306)))) else (if ((rd_T31 l2 x8_1).f0) ≥ 100 then (becketref18_Send.j1 k1 a0 a1 l2 x7_1 x8_1 ((rd_T31 l2 x8_1).f0) (decide (((rd_T31 l2 x8_1).f0) ≤ 107)) a1 ((rd_T31 l2 x8_1).f0) (strOfNums t306)) else (becketref18_Send.j1 k1 a0 a1 l2 x7_1 x8_1 ((rd_T31 l2 x8_1).f0) false a1 ((rd_T31 l2 x8_1).f0) (strOfNums t306)))) = some r := H
            have A8 := Aside0.mk A80
            clear A80
            have HC9 := Aside0.mk H
            clear H
            have p302 : 0 ≤ (x8_1 : Int) := of_decide_eq_true (by first | (with_reducible assumption) | assumption)
            have q302 : x8_1 < (l2.length : Int) := of_decide_eq_true (by first | (with_reducible assumption) | assumption)
            obtain ⟨ad302, A302_6, c302_6, A302_7, c302_7, e302, hx302_0, hx302_1, hx302_2, hx302_3, hx302_4, hx302_5, hx302_6, hx302_7, hl302_6, hi302_6, hl302_7, hi302_7⟩ := at_T31 HR2.out x8_1 p302 q302
            cases e302
            replace hx302_0 := (HB.out.cell (World.block_lt_of_cell? w _ hx302_0)).trans hx302_0
            replace hx302_1 := (HB.out.cell (World.block_lt_of_cell? w _ hx302_1)).trans hx302_1
            replace hx302_2 := (HB.out.cell (World.block_lt_of_cell? w _ hx302_2)).trans hx302_2
            replace hx302_3 := (HB.out.cell (World.block_lt_of_cell? w _ hx302_3)).trans hx302_3
            replace hx302_4 := (HB.out.cell (World.block_lt_of_cell? w _ hx302_4)).trans hx302_4
            replace hx302_5 := (HB.out.cell (World.block_lt_of_cell? w _ hx302_5)).trans hx302_5
            replace hx302_6 := (HB.out.cell (World.block_lt_of_cell? w _ hx302_6)).trans hx302_6
            replace hx302_7 := (HB.out.cell (World.block_lt_of_cell? w _ hx302_7)).trans hx302_7
            have HR302_6 := Aside0.mk hi302_6
            have HC302_6 := Aside0.mk hl302_6
            clear hi302_6 hl302_6
            have HR302_7 := Aside0.mk hi302_7
            have HC302_7 := Aside0.mk hl302_7
            clear hi302_7 hl302_7
            replace p302 := eq_true p302
            replace q302 := eq_true q302
            try go_wp2_with (first | ((with_reducible refine gate_callee (f := 21) rfl ?_); refine goesL_ (some 24) rfl rfl Try.func21 (by kernel_rfl) rfl #[.agg #[.int .i64 ((rd_T31 l2 x8_1).f1.f0), .int .i64 ((rd_T31 l2 x8_1).f1.f1), .int .i64 ((rd_T31 l2 x8_1).f1.f2), .int .i64 ((rd_T31 l2 x8_1).f1.f3), .string ((rd_T31 l2 x8_1).f1.f4), .slice A302_6 ((rd_T31 l2 x8_1).f1.f5).length c302_6, .slice A302_7 ((rd_T31 l2 x8_1).f1.f6).length c302_7]] rfl (by (try simp only [List.map_toArray, List.map_cons, List.map_nil]); first | done | rfl | (simp only [List.length_drop, List.length_take]; rfl)) ?_; (with_reducible refine (becketref12_May.calls k1 ((rd_T31 l2 x8_1).f1.f0) ((rd_T31 l2 x8_1).f1.f1) ((rd_T31 l2 x8_1).f1.f2) ((rd_T31 l2 x8_1).f1.f3) ((rd_T31 l2 x8_1).f1.f4) _ _ ((rd_T31 l2 x8_1).f1.f5) _ _ ((rd_T31 l2 x8_1).f1.f6) true _ ?side1 ?side2 ?side3 ?side4 A6.out).mono ?_); (case side1 => repeat (first | exact (Kd.C_below HR302_6.out HB.out) | (with_reducible refine Kd.C_alloc ?_ _) | (with_reducible refine Kd.C_drewN ?_ _) | (with_reducible refine Kd.C_drew ?_))); (case side2 => exact HC302_6.out); (case side3 => repeat (first | exact (Kd.C_below HR302_7.out HB.out) | (with_reducible refine Kd.C_alloc ?_ _) | (with_reducible refine Kd.C_drewN ?_ _) | (with_reducible refine Kd.C_drew ?_))); (case side4 => exact HC302_7.out); rintro e w10 ⟨rfl, hb⟩; refine ⟨_, rfl, ?_⟩; have n0_ := Aside0.mk (Kd.R_below (by (with_reducible repeat (first | apply Kd.R_alloc | apply Kd.R_drewN | apply Kd.R_drew)); exact HO_7.out) hb); have n1_ := Aside0.mk (below_step (by repeat (first | (with_reducible first | exact HB.out | apply below_alloc | apply pw_below_drewN | apply below_drew1) | exact HB.out)) hb); clear HO_7; clear HB; have HO_7 := n0_; have HB := n1_; clear n0_ n1_; (try clear hb); (try clear hb2); (try clear hk); (try clear hi)))
            have n0_ := Aside0.mk (Kd.R_drew HO_7.out)
            have n1_ := Aside0.mk (below_drew1 HB.out)
            clear HO_7
            clear HB
            have HO_7 := n0_
            have HB := n1_
            clear n0_ n1_
            have p304 : 0 ≤ (x8_1 : Int) := of_decide_eq_true (by first | (with_reducible assumption) | assumption)
            have q304 : x8_1 < (l2.length : Int) := of_decide_eq_true (by first | (with_reducible assumption) | assumption)
            obtain ⟨ad304, A304_6, c304_6, A304_7, c304_7, e304, hx304_0, hx304_1, hx304_2, hx304_3, hx304_4, hx304_5, hx304_6, hx304_7, hl304_6, hi304_6, hl304_7, hi304_7⟩ := at_T31 HR2.out x8_1 p304 q304
            have hw304_7 := hx304_7
            have hw304_6 := hx304_6
            have hw304_5 := hx304_5
            have hw304_4 := hx304_4
            have hw304_3 := hx304_3
            have hw304_2 := hx304_2
            have hw304_1 := hx304_1
            have hw304_0 := hx304_0
            obtain rfl : ad302 = ad304 := (by injection e304)
            replace hx304_0 := (HB.out.cell (World.block_lt_of_cell? w _ hx304_0)).trans hx304_0
            replace hx304_1 := (HB.out.cell (World.block_lt_of_cell? w _ hx304_1)).trans hx304_1
            replace hx304_2 := (HB.out.cell (World.block_lt_of_cell? w _ hx304_2)).trans hx304_2
            replace hx304_3 := (HB.out.cell (World.block_lt_of_cell? w _ hx304_3)).trans hx304_3
            replace hx304_4 := (HB.out.cell (World.block_lt_of_cell? w _ hx304_4)).trans hx304_4
            replace hx304_5 := (HB.out.cell (World.block_lt_of_cell? w _ hx304_5)).trans hx304_5
            replace hx304_6 := (HB.out.cell (World.block_lt_of_cell? w _ hx304_6)).trans hx304_6
            replace hx304_7 := (HB.out.cell (World.block_lt_of_cell? w _ hx304_7)).trans hx304_7
            have HR304_6 := Aside0.mk hi304_6
            have HC304_6 := Aside0.mk hl304_6
            clear hi304_6 hl304_6
            have HR304_7 := Aside0.mk hi304_7
            have HC304_7 := Aside0.mk hl304_7
            clear hi304_7 hl304_7
            replace p304 := eq_true p304
            replace q304 := eq_true q304
            have p305 : 0 ≤ (x8_1 : Int) := of_decide_eq_true (by first | (with_reducible assumption) | assumption)
            have q305 : x8_1 < (l2.length : Int) := of_decide_eq_true (by first | (with_reducible assumption) | assumption)
            obtain ⟨ad305, A305_6, c305_6, A305_7, c305_7, e305, hx305_0, hx305_1, hx305_2, hx305_3, hx305_4, hx305_5, hx305_6, hx305_7, hl305_6, hi305_6, hl305_7, hi305_7⟩ := at_T31 HR2.out x8_1 p305 q305
            have hw305_7 := hx305_7
            have hw305_6 := hx305_6
            have hw305_5 := hx305_5
            have hw305_4 := hx305_4
            have hw305_3 := hx305_3
            have hw305_2 := hx305_2
            have hw305_1 := hx305_1
            have hw305_0 := hx305_0
            obtain rfl : ad302 = ad305 := (by injection e305)
            replace hx305_0 := (HB.out.cell (World.block_lt_of_cell? w _ hx305_0)).trans hx305_0
            replace hx305_1 := (HB.out.cell (World.block_lt_of_cell? w _ hx305_1)).trans hx305_1
            replace hx305_2 := (HB.out.cell (World.block_lt_of_cell? w _ hx305_2)).trans hx305_2
            replace hx305_3 := (HB.out.cell (World.block_lt_of_cell? w _ hx305_3)).trans hx305_3
            replace hx305_4 := (HB.out.cell (World.block_lt_of_cell? w _ hx305_4)).trans hx305_4
            replace hx305_5 := (HB.out.cell (World.block_lt_of_cell? w _ hx305_5)).trans hx305_5
            replace hx305_6 := (HB.out.cell (World.block_lt_of_cell? w _ hx305_6)).trans hx305_6
            replace hx305_7 := (HB.out.cell (World.block_lt_of_cell? w _ hx305_7)).trans hx305_7
            have HR305_6 := Aside0.mk hi305_6
            have HC305_6 := Aside0.mk hl305_6
            clear hi305_6 hl305_6
            have HR305_7 := Aside0.mk hi305_7
            have HC305_7 := Aside0.mk hl305_7
            clear hi305_7 hl305_7
            replace p305 := eq_true p305
            replace q305 := eq_true q305
            have ea_ := Option.some.inj (hx304_6.symm.trans hx305_6)
            injection ea_ with ea_ en_ ec_
            subst ea_
            subst ec_
            clear en_
            have ea_ := Option.some.inj (hx304_7.symm.trans hx305_7)
            injection ea_ with ea_ en_ ec_
            subst ea_
            subst ec_
            clear en_
            refine start_ (n := 16) (S := fun w' => w'.cell? (ad302.add ((x8_1).toNat * 8)) = some (.int .i64 ((rd_T31 l2 x8_1).f0)) ∧ w'.cell? ⟨(ad302.add ((x8_1).toNat * 8)).block, (ad302.add ((x8_1).toNat * 8)).off + 1, none⟩ = some (.int .i64 ((rd_T31 l2 x8_1).f1.f0)) ∧ w'.cell? ⟨(ad302.add ((x8_1).toNat * 8)).block, (ad302.add ((x8_1).toNat * 8)).off + 2, none⟩ = some (.int .i64 ((rd_T31 l2 x8_1).f1.f1)) ∧ w'.cell? ⟨(ad302.add ((x8_1).toNat * 8)).block, (ad302.add ((x8_1).toNat * 8)).off + 3, none⟩ = some (.int .i64 ((rd_T31 l2 x8_1).f1.f2)) ∧ w'.cell? ⟨(ad302.add ((x8_1).toNat * 8)).block, (ad302.add ((x8_1).toNat * 8)).off + 4, none⟩ = some (.int .i64 ((rd_T31 l2 x8_1).f1.f3)) ∧ w'.cell? ⟨(ad302.add ((x8_1).toNat * 8)).block, (ad302.add ((x8_1).toNat * 8)).off + 5, none⟩ = some (.string ((rd_T31 l2 x8_1).f1.f4)) ∧ w'.cell? ⟨(ad302.add ((x8_1).toNat * 8)).block, (ad302.add ((x8_1).toNat * 8)).off + 6, none⟩ = some (.slice A304_6 ((rd_T31 l2 x8_1).f1.f5).length c304_6) ∧ w'.cell? ⟨(ad302.add ((x8_1).toNat * 8)).block, (ad302.add ((x8_1).toNat * 8)).off + 7, none⟩ = some (.slice A304_7 ((rd_T31 l2 x8_1).f1.f6).length c304_7) ∧ w'.cell? (ad302.add ((x8_1).toNat * 8)) = some (.int .i64 ((rd_T31 l2 x8_1).f0)) ∧ w'.cell? ⟨(ad302.add ((x8_1).toNat * 8)).block, (ad302.add ((x8_1).toNat * 8)).off + 1, none⟩ = some (.int .i64 ((rd_T31 l2 x8_1).f1.f0)) ∧ w'.cell? ⟨(ad302.add ((x8_1).toNat * 8)).block, (ad302.add ((x8_1).toNat * 8)).off + 2, none⟩ = some (.int .i64 ((rd_T31 l2 x8_1).f1.f1)) ∧ w'.cell? ⟨(ad302.add ((x8_1).toNat * 8)).block, (ad302.add ((x8_1).toNat * 8)).off + 3, none⟩ = some (.int .i64 ((rd_T31 l2 x8_1).f1.f2)) ∧ w'.cell? ⟨(ad302.add ((x8_1).toNat * 8)).block, (ad302.add ((x8_1).toNat * 8)).off + 4, none⟩ = some (.int .i64 ((rd_T31 l2 x8_1).f1.f3)) ∧ w'.cell? ⟨(ad302.add ((x8_1).toNat * 8)).block, (ad302.add ((x8_1).toNat * 8)).off + 5, none⟩ = some (.string ((rd_T31 l2 x8_1).f1.f4)) ∧ w'.cell? ⟨(ad302.add ((x8_1).toNat * 8)).block, (ad302.add ((x8_1).toNat * 8)).off + 6, none⟩ = some (.slice A304_6 ((rd_T31 l2 x8_1).f1.f5).length c304_6) ∧ w'.cell? ⟨(ad302.add ((x8_1).toNat * 8)).block, (ad302.add ((x8_1).toNat * 8)).off + 7, none⟩ = some (.slice A304_7 ((rd_T31 l2 x8_1).f1.f6).length c304_7)) (ds := []) #[false, false, false, false, false, false, false, false, false, false, false, false, false, false, false, false] (by kernel_rfl) rfl rfl ⟨((HB.out.cell (World.block_lt_of_cell? w _ hw304_0)).trans hw304_0), ((HB.out.cell (World.block_lt_of_cell? w _ hw304_1)).trans hw304_1), ((HB.out.cell (World.block_lt_of_cell? w _ hw304_2)).trans hw304_2), ((HB.out.cell (World.block_lt_of_cell? w _ hw304_3)).trans hw304_3), ((HB.out.cell (World.block_lt_of_cell? w _ hw304_4)).trans hw304_4), ((HB.out.cell (World.block_lt_of_cell? w _ hw304_5)).trans hw304_5), ((HB.out.cell (World.block_lt_of_cell? w _ hw304_6)).trans hw304_6), ((HB.out.cell (World.block_lt_of_cell? w _ hw304_7)).trans hw304_7), ((HB.out.cell (World.block_lt_of_cell? w _ hw305_0)).trans hw305_0), ((HB.out.cell (World.block_lt_of_cell? w _ hw305_1)).trans hw305_1), ((HB.out.cell (World.block_lt_of_cell? w _ hw305_2)).trans hw305_2), ((HB.out.cell (World.block_lt_of_cell? w _ hw305_3)).trans hw305_3), ((HB.out.cell (World.block_lt_of_cell? w _ hw305_4)).trans hw305_4), ((HB.out.cell (World.block_lt_of_cell? w _ hw305_5)).trans hw305_5), ((HB.out.cell (World.block_lt_of_cell? w _ hw305_6)).trans hw305_6), ((HB.out.cell (World.block_lt_of_cell? w _ hw305_7)).trans hw305_7)⟩ (fun hHeld => ?_); refine with_tabW becketref18_Send.tab7 becketref18_Send.bits7 (fun HT_ HW_ => ?_)
            generalize w10.drew = w11 at HO_7 HB HR304_6 HR304_7 HR305_6 HR305_7 hx304_0 hx304_1 hx304_2 hx304_3 hx304_4 hx304_5 hx304_6 hx304_7 hx305_0 hx305_1 hx305_2 hx305_3 hx305_4 hx305_5 hx305_6 hx305_7 hHeld ⊢
            refine pure_ (i := 0) (N := some 27) (v := ?_) (a' := ?_) #[true, false, false, false, false, false, false, false, false, false, false, false, false, false, false, false] rfl rfl (any_of HT_.out (by kernel_rfl)) (fun _ _ _ h => h) (Or.inl ⟨by rfl, ?_⟩) ?_ ?_
            rotate_left
            · intro w'
              go_simp
              with_reducible rfl
            rotate_left
            · simp only [Act.put, List.setIfInBounds_toArray, List.set_cons_zero, List.set_cons_succ, i64_w, i32_w]
              rfl
            refine pure_ (i := 1) (N := some 28) (v := ?_) (a' := ?_) #[true, true, false, false, false, false, false, false, false, false, false, false, false, false, false, false] rfl rfl (any_of HT_.out (by kernel_rfl)) (fun _ _ _ h => h) (Or.inl ⟨by rfl, ?_⟩) ?_ ?_
            rotate_left
            · intro w'
              go_simp
              with_reducible rfl
            rotate_left
            · simp only [Act.put, List.setIfInBounds_toArray, List.set_cons_zero, List.set_cons_succ, i64_w, i32_w]
              rfl
            refine pure_ (i := 2) (N := some 29) (v := ?_) (a' := ?_) #[true, true, true, false, false, false, false, false, false, false, false, false, false, false, false, false] rfl rfl (any_of HT_.out (by kernel_rfl)) (fun _ _ _ h => h) (Or.inl ⟨by rfl, ?_⟩) ?_ ?_
            rotate_left
            · intro w'
              go_simp
              with_reducible rfl
            rotate_left
            · simp only [Act.put, List.setIfInBounds_toArray, List.set_cons_zero, List.set_cons_succ, i64_w, i32_w]
              rfl
            refine pure_ (i := 3) (N := some 30) (v := ?_) (a' := ?_) #[true, true, true, true, false, false, false, false, false, false, false, false, false, false, false, false] rfl rfl (any_of HT_.out (by kernel_rfl)) (fun _ _ _ h => h) (Or.inl ⟨by rfl, ?_⟩) ?_ ?_
            rotate_left
            · intro w'
              go_simp
              with_reducible rfl
            rotate_left
            · simp only [Act.put, List.setIfInBounds_toArray, List.set_cons_zero, List.set_cons_succ, i64_w, i32_w]
              rfl
            refine pure_ (i := 4) (N := some 31) (v := ?_) (a' := ?_) #[true, true, true, true, true, false, false, false, false, false, false, false, false, false, false, false] rfl rfl (any_of HT_.out (by kernel_rfl)) (fun _ _ _ h => h) (Or.inl ⟨by rfl, ?_⟩) ?_ ?_
            rotate_left
            · intro w'
              go_simp
              with_reducible rfl
            rotate_left
            · simp only [Act.put, List.setIfInBounds_toArray, List.set_cons_zero, List.set_cons_succ, i64_w, i32_w]
              rfl
            refine pure_ (i := 6) (N := some 33) (v := ?_) (a' := ?_) #[true, true, true, true, true, false, true, false, false, false, false, false, false, false, false, false] rfl rfl (any_of HT_.out (by kernel_rfl)) (fun _ _ _ h => h) (Or.inl ⟨by rfl, ?_⟩) ?_ ?_
            rotate_left
            · intro w'
              go_simp
              with_reducible rfl
            rotate_left
            · simp only [Act.put, List.setIfInBounds_toArray, List.set_cons_zero, List.set_cons_succ, i64_w, i32_w]
              rfl
            refine pure_ (i := 7) (N := some 34) (v := ?_) (a' := ?_) #[true, true, true, true, true, false, true, true, false, false, false, false, false, false, false, false] rfl rfl (any_of HT_.out (by kernel_rfl)) (fun _ _ _ h => h) (Or.inl ⟨by rfl, ?_⟩) ?_ ?_
            rotate_left
            · intro w'
              go_simp
              with_reducible rfl
            rotate_left
            · simp only [Act.put, List.setIfInBounds_toArray, List.set_cons_zero, List.set_cons_succ, i64_w, i32_w]
              rfl
            refine pure_ (i := 8) (N := some 35) (v := ?_) (a' := ?_) #[true, true, true, true, true, false, true, true, true, false, false, false, false, false, false, false] rfl rfl (any_of HT_.out (by kernel_rfl)) (fun _ _ _ h => h) (Or.inl ⟨by rfl, ?_⟩) ?_ ?_
            rotate_left
            · intro w'
              go_simp
              with_reducible rfl
            rotate_left
            · simp only [Act.put, List.setIfInBounds_toArray, List.set_cons_zero, List.set_cons_succ, i64_w, i32_w]
              rfl
            refine pure_ (i := 9) (N := some 36) (v := ?_) (a' := ?_) #[true, true, true, true, true, false, true, true, true, true, false, false, false, false, false, false] rfl rfl (any_of HT_.out (by kernel_rfl)) (fun _ _ _ h => h) (Or.inl ⟨by rfl, ?_⟩) ?_ ?_
            rotate_left
            · intro w'
              go_simp
              with_reducible rfl
            rotate_left
            · simp only [Act.put, List.setIfInBounds_toArray, List.set_cons_zero, List.set_cons_succ, i64_w, i32_w]
              rfl
            refine take_ (i := 5) (N := some 32) (v := ?_) (a' := ?_) #[true, true, true, true, true, true, true, true, true, true, false, false, false, false, false, false] rfl rfl (take_ofW HT_.out HW_.out (by kernel_rfl)) (fun _ _ _ h => h) (Or.inl ⟨by rfl, ?_⟩) hHeld ?_ ?_
            rotate_left
            · rintro w' ⟨s0, s1, s2, s3, s4, s5, s6, s7, s8, s9, s10, s11, s12, s13, s14, s15⟩
              go_simp
              with_reducible rfl
            rotate_left
            · simp only [Act.put, List.setIfInBounds_toArray, List.set_cons_zero, List.set_cons_succ, i64_w, i32_w]
              rfl
            refine take_ (i := 10) (N := some 37) (v := ?_) (a' := ?_) #[true, true, true, true, true, true, true, true, true, true, true, false, false, false, false, false] rfl rfl (take_ofW HT_.out HW_.out (by kernel_rfl)) (fun _ _ _ h => h) (Or.inl ⟨by rfl, ?_⟩) hHeld ?_ ?_
            rotate_left
            · rintro w' ⟨s0, s1, s2, s3, s4, s5, s6, s7, s8, s9, s10, s11, s12, s13, s14, s15⟩
              go_simp
              with_reducible rfl
            rotate_left
            · simp only [Act.put, List.setIfInBounds_toArray, List.set_cons_zero, List.set_cons_succ, i64_w, i32_w]
              rfl
            refine join_ (σ := Value × Nat) 1 #[true, true, true, true, true, true, true, true, true, true, true, true, true, true, true, false] (fun s_ => [(38, s_.1), (39, .string (strOfNums t306)), (10, .pointer (some ⟨s_.2, 0, none⟩)), (40, .agg #[.int .i64 a1, .int .i64 ((rd_T31 l2 x8_1).f0), .string (strOfNums t306)])]) (fun s_ w' => (w'.cell? (ad302.add ((x8_1).toNat * 8)) = some (.int .i64 ((rd_T31 l2 x8_1).f0)) ∧ w'.cell? ⟨(ad302.add ((x8_1).toNat * 8)).block, (ad302.add ((x8_1).toNat * 8)).off + 1, none⟩ = some (.int .i64 ((rd_T31 l2 x8_1).f1.f0)) ∧ w'.cell? ⟨(ad302.add ((x8_1).toNat * 8)).block, (ad302.add ((x8_1).toNat * 8)).off + 2, none⟩ = some (.int .i64 ((rd_T31 l2 x8_1).f1.f1)) ∧ w'.cell? ⟨(ad302.add ((x8_1).toNat * 8)).block, (ad302.add ((x8_1).toNat * 8)).off + 3, none⟩ = some (.int .i64 ((rd_T31 l2 x8_1).f1.f2)) ∧ w'.cell? ⟨(ad302.add ((x8_1).toNat * 8)).block, (ad302.add ((x8_1).toNat * 8)).off + 4, none⟩ = some (.int .i64 ((rd_T31 l2 x8_1).f1.f3)) ∧ w'.cell? ⟨(ad302.add ((x8_1).toNat * 8)).block, (ad302.add ((x8_1).toNat * 8)).off + 5, none⟩ = some (.string ((rd_T31 l2 x8_1).f1.f4)) ∧ w'.cell? ⟨(ad302.add ((x8_1).toNat * 8)).block, (ad302.add ((x8_1).toNat * 8)).off + 6, none⟩ = some (.slice A304_6 ((rd_T31 l2 x8_1).f1.f5).length c304_6) ∧ w'.cell? ⟨(ad302.add ((x8_1).toNat * 8)).block, (ad302.add ((x8_1).toNat * 8)).off + 7, none⟩ = some (.slice A304_7 ((rd_T31 l2 x8_1).f1.f6).length c304_7) ∧ w'.cell? (ad302.add ((x8_1).toNat * 8)) = some (.int .i64 ((rd_T31 l2 x8_1).f0)) ∧ w'.cell? ⟨(ad302.add ((x8_1).toNat * 8)).block, (ad302.add ((x8_1).toNat * 8)).off + 1, none⟩ = some (.int .i64 ((rd_T31 l2 x8_1).f1.f0)) ∧ w'.cell? ⟨(ad302.add ((x8_1).toNat * 8)).block, (ad302.add ((x8_1).toNat * 8)).off + 2, none⟩ = some (.int .i64 ((rd_T31 l2 x8_1).f1.f1)) ∧ w'.cell? ⟨(ad302.add ((x8_1).toNat * 8)).block, (ad302.add ((x8_1).toNat * 8)).off + 3, none⟩ = some (.int .i64 ((rd_T31 l2 x8_1).f1.f2)) ∧ w'.cell? ⟨(ad302.add ((x8_1).toNat * 8)).block, (ad302.add ((x8_1).toNat * 8)).off + 4, none⟩ = some (.int .i64 ((rd_T31 l2 x8_1).f1.f3)) ∧ w'.cell? ⟨(ad302.add ((x8_1).toNat * 8)).block, (ad302.add ((x8_1).toNat * 8)).off + 5, none⟩ = some (.string ((rd_T31 l2 x8_1).f1.f4)) ∧ w'.cell? ⟨(ad302.add ((x8_1).toNat * 8)).block, (ad302.add ((x8_1).toNat * 8)).off + 6, none⟩ = some (.slice A304_6 ((rd_T31 l2 x8_1).f1.f5).length c304_6) ∧ w'.cell? ⟨(ad302.add ((x8_1).toNat * 8)).block, (ad302.add ((x8_1).toNat * 8)).off + 7, none⟩ = some (.slice A304_7 ((rd_T31 l2 x8_1).f1.f6).length c304_7)) ∧ (Kd.R (Kd.int .u8) 5 w' w.heap.size (fun _ => True) s_.1 t306) ∧ (Kd.R k41 41 w' w.heap.size (fun k_ => k_ ≠ s_.2) u7 x7_1) ∧ (w'.heap[s_.2]? = some (.cells #[.int .i64 0, .int .i64 0, .string (⟨#[]⟩ : ByteArray)] 41 (0, 0))) ∧ (w.heap.size ≤ s_.2) ∧ (w.heap.size ≤ s_.2) ∧ (Below w.heap.size w w')) ?_ ?_
            rotate_left
            · intro hCont
              refine two_ (i := 11) (j := 14) (Ni := some 38) (Nj := some 10) #[true, true, true, true, true, true, true, true, true, true, true, true, false, false, false, false] #[true, true, true, true, true, true, true, true, true, true, true, false, false, false, true, false] rfl rfl rfl rfl (two_of HT_.out (by kernel_rfl)) (by decide) (by decide) (fun K hK => ?_) (fun K hK => ?_)
              · skip
                refine goes_ Try.func22 (by kernel_rfl) rfl #[.agg #[.int .i64 ((rd_T31 l2 x8_1).f1.f0), .int .i64 ((rd_T31 l2 x8_1).f1.f1), .int .i64 ((rd_T31 l2 x8_1).f1.f2), .int .i64 ((rd_T31 l2 x8_1).f1.f3), .string ((rd_T31 l2 x8_1).f1.f4), .slice A304_6 ((rd_T31 l2 x8_1).f1.f5).length c304_6, .slice A304_7 ((rd_T31 l2 x8_1).f1.f6).length c304_7]] (by rfl) rfl rfl (by (try simp only [List.map_toArray, List.map_cons, List.map_nil]); first | done | rfl | (simp only [List.length_drop, List.length_take]; rfl)) ?_
                with_reducible refine (becketref12_Put.calls k1 ((rd_T31 l2 x8_1).f1.f0) ((rd_T31 l2 x8_1).f1.f1) ((rd_T31 l2 x8_1).f1.f2) ((rd_T31 l2 x8_1).f1.f3) ((rd_T31 l2 x8_1).f1.f4) _ _ ((rd_T31 l2 x8_1).f1.f5) _ _ ((rd_T31 l2 x8_1).f1.f6) t306 _ ?side1 ?side2 ?side3 ?side4 A8.out).mono ?_
                (case side1 => repeat (first | exact (Kd.C_below HR305_6.out HB.out) | (with_reducible refine Kd.C_alloc ?_ _) | (with_reducible refine Kd.C_drewN ?_ _) | (with_reducible refine Kd.C_drew ?_)))
                (case side2 => exact HC305_6.out)
                (case side3 => repeat (first | exact (Kd.C_below HR305_7.out HB.out) | (with_reducible refine Kd.C_alloc ?_ _) | (with_reducible refine Kd.C_drewN ?_ _) | (with_reducible refine Kd.C_drew ?_)))
                (case side4 => exact HC305_7.out)
                rintro e w12 ⟨v307, rfl, ho0, hb⟩
                refine ⟨_, rfl, ?_⟩
                have n0_ := Aside0.mk (Kd.R_below (by (with_reducible repeat (first | apply Kd.R_alloc | apply Kd.R_drewN | apply Kd.R_drew)); exact HO_7.out) hb)
                have n1_ := Aside0.mk (Kd.R_lower ho0 (below_size (by repeat (first | (with_reducible first | exact HB.out | apply below_alloc | apply pw_below_drewN | apply below_drew1) | exact HB.out))))
                have n2_ := Aside0.mk (below_step (by repeat (first | (with_reducible first | exact HB.out | apply below_alloc | apply pw_below_drewN | apply below_drew1) | exact HB.out)) hb)
                clear HO_7
                clear HB
                have HO_7 := n0_
                have HO308 := n1_
                have HB := n2_
                clear n0_ n1_ n2_
                (try clear hb)
                (try clear hb2)
                (try clear hk)
                (try clear hi)
                (try clear ho0)
                refine hK.out _ _ ⟨((HB.out.cell (World.block_lt_of_cell? w _ hw304_0)).trans hw304_0), ((HB.out.cell (World.block_lt_of_cell? w _ hw304_1)).trans hw304_1), ((HB.out.cell (World.block_lt_of_cell? w _ hw304_2)).trans hw304_2), ((HB.out.cell (World.block_lt_of_cell? w _ hw304_3)).trans hw304_3), ((HB.out.cell (World.block_lt_of_cell? w _ hw304_4)).trans hw304_4), ((HB.out.cell (World.block_lt_of_cell? w _ hw304_5)).trans hw304_5), ((HB.out.cell (World.block_lt_of_cell? w _ hw304_6)).trans hw304_6), ((HB.out.cell (World.block_lt_of_cell? w _ hw304_7)).trans hw304_7), ((HB.out.cell (World.block_lt_of_cell? w _ hw305_0)).trans hw305_0), ((HB.out.cell (World.block_lt_of_cell? w _ hw305_1)).trans hw305_1), ((HB.out.cell (World.block_lt_of_cell? w _ hw305_2)).trans hw305_2), ((HB.out.cell (World.block_lt_of_cell? w _ hw305_3)).trans hw305_3), ((HB.out.cell (World.block_lt_of_cell? w _ hw305_4)).trans hw305_4), ((HB.out.cell (World.block_lt_of_cell? w _ hw305_5)).trans hw305_5), ((HB.out.cell (World.block_lt_of_cell? w _ hw305_6)).trans hw305_6), ((HB.out.cell (World.block_lt_of_cell? w _ hw305_7)).trans hw305_7)⟩ (fun hHeld => ?_)
                clear hK K
                refine norm_ (a' := ?_) ?_ ?_
                rotate_left
                · show Act.put _ (some 38) _ = _
                  simp only [Act.put, List.setIfInBounds_toArray, List.set_cons_zero, List.set_cons_succ, i64_w, i32_w]
                  rfl
                refine two_ (i := 12) (j := 14) (Ni := some 39) (Nj := some 10) #[true, true, true, true, true, true, true, true, true, true, true, true, true, false, false, false] #[true, true, true, true, true, true, true, true, true, true, true, true, false, false, true, false] rfl rfl rfl rfl (two_of HT_.out (by kernel_rfl)) (by decide) (by decide) (fun K hK => ?_) (fun K hK => ?_)
                · skip
                  (first | have hcv13 := own_string (P := Try.prog) Try.underlying61 Try.underlying5 Try.underlying9 (Kd.own_of_R HO308.out) | have hcv13 := V_string_becketref18_Send (P := Try.prog) Try.underlying61 Try.underlying5 Try.underlying9 HO308.out)
                  refine value_ (w1 := ?_) (v := ?_) (by rfl) rfl ?_ ?_
                  rotate_left 2
                  · go_simp
                    constructor
                    · rfl
                    · rfl
                  clear hcv13
                  refine hK.out _ _ ⟨((HB.out.cell (World.block_lt_of_cell? w _ hw304_0)).trans hw304_0), ((HB.out.cell (World.block_lt_of_cell? w _ hw304_1)).trans hw304_1), ((HB.out.cell (World.block_lt_of_cell? w _ hw304_2)).trans hw304_2), ((HB.out.cell (World.block_lt_of_cell? w _ hw304_3)).trans hw304_3), ((HB.out.cell (World.block_lt_of_cell? w _ hw304_4)).trans hw304_4), ((HB.out.cell (World.block_lt_of_cell? w _ hw304_5)).trans hw304_5), ((HB.out.cell (World.block_lt_of_cell? w _ hw304_6)).trans hw304_6), ((HB.out.cell (World.block_lt_of_cell? w _ hw304_7)).trans hw304_7), ((HB.out.cell (World.block_lt_of_cell? w _ hw305_0)).trans hw305_0), ((HB.out.cell (World.block_lt_of_cell? w _ hw305_1)).trans hw305_1), ((HB.out.cell (World.block_lt_of_cell? w _ hw305_2)).trans hw305_2), ((HB.out.cell (World.block_lt_of_cell? w _ hw305_3)).trans hw305_3), ((HB.out.cell (World.block_lt_of_cell? w _ hw305_4)).trans hw305_4), ((HB.out.cell (World.block_lt_of_cell? w _ hw305_5)).trans hw305_5), ((HB.out.cell (World.block_lt_of_cell? w _ hw305_6)).trans hw305_6), ((HB.out.cell (World.block_lt_of_cell? w _ hw305_7)).trans hw305_7)⟩ (fun hHeld => ?_)
                  clear hK K
                  refine norm_ (a' := ?_) ?_ ?_
                  rotate_left
                  · show Act.put _ (some 39) _ = _
                    simp only [Act.put, List.setIfInBounds_toArray, List.set_cons_zero, List.set_cons_succ, i64_w, i32_w]
                    rfl
                  refine pure_ (i := 13) (N := some 40) (v := ?_) (a' := ?_) #[true, true, true, true, true, true, true, true, true, true, true, true, true, true, false, false] rfl rfl (any_of HT_.out (by kernel_rfl)) (fun _ _ _ h => h) (Or.inl ⟨by rfl, ?_⟩) ?_ ?_
                  rotate_left
                  · intro w'
                    go_simp
                    with_reducible rfl
                  rotate_left
                  · simp only [Act.put, List.setIfInBounds_toArray, List.set_cons_zero, List.set_cons_succ, i64_w, i32_w]
                    rfl
                  refine one_ (i := 14) (N := some 10) #[true, true, true, true, true, true, true, true, true, true, true, true, true, true, true, false] rfl rfl (one_of HT_.out (by kernel_rfl)) (by decide) (fun K hK => ?_)
                  refine box_step ?hg (N := 10) ?hd (cs := #[.int .i64 0, .int .i64 0, .string (⟨#[]⟩ : ByteArray)]) (t := 41) ?hr ?_; (case hd => rfl); (case hg => rfl); (case hr => first | (go_simp; done) | (go_simp; rfl))
                  intro gb309 hg w14 hbox hb
                  have n0_ := Aside0.mk (Kd.R_below (Kd.R_elderB (by (with_reducible repeat (first | apply Kd.R_alloc | apply Kd.R_drewN | apply Kd.R_drew)); exact HO_7.out) gb309 (Nat.le_of_eq hg.symm)) hb)
                  have n1_ := Aside0.mk (Kd.R_below (by (with_reducible repeat (first | apply Kd.R_alloc | apply Kd.R_drewN | apply Kd.R_drew)); exact HO308.out) hb)
                  have n2_ := Aside0.mk (below_step (by repeat (first | (with_reducible first | exact HB.out | apply below_alloc | apply pw_below_drewN | apply below_drew1) | exact HB.out)) hb)
                  have n3_ := Aside0.mk (hbox)
                  have n4_ := Aside0.mk ((by rw [hg]; exact (below_size (by repeat (first | (with_reducible first | exact HB.out | apply below_alloc | apply pw_below_drewN | apply below_drew1) | exact HB.out))) : w.heap.size ≤ gb309))
                  have n5_ := Aside0.mk ((by rw [hg]; exact (below_size (by repeat (first | (with_reducible first | exact HB.out | apply below_alloc | apply pw_below_drewN | apply below_drew1) | exact HB.out))) : w.heap.size ≤ gb309))
                  clear HO_7
                  clear HO308
                  clear HB
                  have HO_7 := n0_
                  have HO308 := n1_
                  have HB := n2_
                  have BK309 := n3_
                  have GW309 := n4_
                  have GE309 := n5_
                  clear n0_ n1_ n2_ n3_ n4_ n5_
                  clear hb hbox hg
                  refine hK.out _ _ ⟨((HB.out.cell (World.block_lt_of_cell? w _ hw304_0)).trans hw304_0), ((HB.out.cell (World.block_lt_of_cell? w _ hw304_1)).trans hw304_1), ((HB.out.cell (World.block_lt_of_cell? w _ hw304_2)).trans hw304_2), ((HB.out.cell (World.block_lt_of_cell? w _ hw304_3)).trans hw304_3), ((HB.out.cell (World.block_lt_of_cell? w _ hw304_4)).trans hw304_4), ((HB.out.cell (World.block_lt_of_cell? w _ hw304_5)).trans hw304_5), ((HB.out.cell (World.block_lt_of_cell? w _ hw304_6)).trans hw304_6), ((HB.out.cell (World.block_lt_of_cell? w _ hw304_7)).trans hw304_7), ((HB.out.cell (World.block_lt_of_cell? w _ hw305_0)).trans hw305_0), ((HB.out.cell (World.block_lt_of_cell? w _ hw305_1)).trans hw305_1), ((HB.out.cell (World.block_lt_of_cell? w _ hw305_2)).trans hw305_2), ((HB.out.cell (World.block_lt_of_cell? w _ hw305_3)).trans hw305_3), ((HB.out.cell (World.block_lt_of_cell? w _ hw305_4)).trans hw305_4), ((HB.out.cell (World.block_lt_of_cell? w _ hw305_5)).trans hw305_5), ((HB.out.cell (World.block_lt_of_cell? w _ hw305_6)).trans hw305_6), ((HB.out.cell (World.block_lt_of_cell? w _ hw305_7)).trans hw305_7)⟩ (fun hHeld => ?_)
                  clear hK K
                  refine norm_ (a' := ?_) ?_ ?_
                  rotate_left
                  · show Act.put _ (some 10) _ = _
                    simp only [Act.put, List.setIfInBounds_toArray, List.set_cons_zero, List.set_cons_succ, i64_w, i32_w]
                    rfl
                  exact norm_ (by simp only [putAll, Act.put, List.setIfInBounds_toArray, List.set_cons_zero, List.set_cons_succ]) (hCont (v307, gb309) _ ⟨hHeld, (by (with_reducible repeat (first | apply Kd.R_alloc | apply Kd.R_drewN | apply Kd.R_drew)); exact HO308.out), (by (with_reducible repeat (first | apply Kd.R_alloc | apply Kd.R_drewN | apply Kd.R_drew)); exact Kd.R_mono HO_7.out (fun _ hk => hk.2)), (by (with_reducible repeat (first | refine blk_drewN ?_ _ | refine blk_drew ?_ | refine blk_alloc ?_ _)); exact BK309.out), GW309.out, GE309.out, (by repeat (first | (with_reducible first | exact HB.out | apply below_alloc | apply pw_below_drewN | apply below_drew1 | refine below_set ?_ GE309.out) | exact HB.out))⟩)
                · skip
                  refine box_step ?hg (N := 10) ?hd (cs := #[.int .i64 0, .int .i64 0, .string (⟨#[]⟩ : ByteArray)]) (t := 41) ?hr ?_; (case hd => rfl); (case hg => rfl); (case hr => first | (go_simp; done) | (go_simp; rfl))
                  intro gb309 hg w13 hbox hb
                  have n0_ := Aside0.mk (Kd.R_below (Kd.R_elderB (by (with_reducible repeat (first | apply Kd.R_alloc | apply Kd.R_drewN | apply Kd.R_drew)); exact HO_7.out) gb309 (Nat.le_of_eq hg.symm)) hb)
                  have n1_ := Aside0.mk (Kd.R_below (by (with_reducible repeat (first | apply Kd.R_alloc | apply Kd.R_drewN | apply Kd.R_drew)); exact HO308.out) hb)
                  have n2_ := Aside0.mk (below_step (by repeat (first | (with_reducible first | exact HB.out | apply below_alloc | apply pw_below_drewN | apply below_drew1) | exact HB.out)) hb)
                  have n3_ := Aside0.mk (hbox)
                  have n4_ := Aside0.mk ((by rw [hg]; exact (below_size (by repeat (first | (with_reducible first | exact HB.out | apply below_alloc | apply pw_below_drewN | apply below_drew1) | exact HB.out))) : w.heap.size ≤ gb309))
                  have n5_ := Aside0.mk ((by rw [hg]; exact (below_size (by repeat (first | (with_reducible first | exact HB.out | apply below_alloc | apply pw_below_drewN | apply below_drew1) | exact HB.out))) : w.heap.size ≤ gb309))
                  clear HO_7
                  clear HO308
                  clear HB
                  have HO_7 := n0_
                  have HO308 := n1_
                  have HB := n2_
                  have BK309 := n3_
                  have GW309 := n4_
                  have GE309 := n5_
                  clear n0_ n1_ n2_ n3_ n4_ n5_
                  clear hb hbox hg
                  refine hK.out _ _ ⟨((HB.out.cell (World.block_lt_of_cell? w _ hw304_0)).trans hw304_0), ((HB.out.cell (World.block_lt_of_cell? w _ hw304_1)).trans hw304_1), ((HB.out.cell (World.block_lt_of_cell? w _ hw304_2)).trans hw304_2), ((HB.out.cell (World.block_lt_of_cell? w _ hw304_3)).trans hw304_3), ((HB.out.cell (World.block_lt_of_cell? w _ hw304_4)).trans hw304_4), ((HB.out.cell (World.block_lt_of_cell? w _ hw304_5)).trans hw304_5), ((HB.out.cell (World.block_lt_of_cell? w _ hw304_6)).trans hw304_6), ((HB.out.cell (World.block_lt_of_cell? w _ hw304_7)).trans hw304_7), ((HB.out.cell (World.block_lt_of_cell? w _ hw305_0)).trans hw305_0), ((HB.out.cell (World.block_lt_of_cell? w _ hw305_1)).trans hw305_1), ((HB.out.cell (World.block_lt_of_cell? w _ hw305_2)).trans hw305_2), ((HB.out.cell (World.block_lt_of_cell? w _ hw305_3)).trans hw305_3), ((HB.out.cell (World.block_lt_of_cell? w _ hw305_4)).trans hw305_4), ((HB.out.cell (World.block_lt_of_cell? w _ hw305_5)).trans hw305_5), ((HB.out.cell (World.block_lt_of_cell? w _ hw305_6)).trans hw305_6), ((HB.out.cell (World.block_lt_of_cell? w _ hw305_7)).trans hw305_7)⟩ (fun hHeld => ?_)
                  clear hK K
                  refine norm_ (a' := ?_) ?_ ?_
                  rotate_left
                  · show Act.put _ (some 10) _ = _
                    simp only [Act.put, List.setIfInBounds_toArray, List.set_cons_zero, List.set_cons_succ, i64_w, i32_w]
                    rfl
                  refine one_ (i := 12) (N := some 39) #[true, true, true, true, true, true, true, true, true, true, true, true, true, false, true, false] rfl rfl (one_of HT_.out (by kernel_rfl)) (by decide) (fun K hK => ?_)
                  (first | have hcv14 := own_string (P := Try.prog) Try.underlying61 Try.underlying5 Try.underlying9 (Kd.own_of_R HO308.out) | have hcv14 := V_string_becketref18_Send (P := Try.prog) Try.underlying61 Try.underlying5 Try.underlying9 HO308.out)
                  refine value_ (w1 := ?_) (v := ?_) (by rfl) rfl ?_ ?_
                  rotate_left 2
                  · go_simp
                    constructor
                    · rfl
                    · rfl
                  clear hcv14
                  refine hK.out _ _ ⟨((HB.out.cell (World.block_lt_of_cell? w _ hw304_0)).trans hw304_0), ((HB.out.cell (World.block_lt_of_cell? w _ hw304_1)).trans hw304_1), ((HB.out.cell (World.block_lt_of_cell? w _ hw304_2)).trans hw304_2), ((HB.out.cell (World.block_lt_of_cell? w _ hw304_3)).trans hw304_3), ((HB.out.cell (World.block_lt_of_cell? w _ hw304_4)).trans hw304_4), ((HB.out.cell (World.block_lt_of_cell? w _ hw304_5)).trans hw304_5), ((HB.out.cell (World.block_lt_of_cell? w _ hw304_6)).trans hw304_6), ((HB.out.cell (World.block_lt_of_cell? w _ hw304_7)).trans hw304_7), ((HB.out.cell (World.block_lt_of_cell? w _ hw305_0)).trans hw305_0), ((HB.out.cell (World.block_lt_of_cell? w _ hw305_1)).trans hw305_1), ((HB.out.cell (World.block_lt_of_cell? w _ hw305_2)).trans hw305_2), ((HB.out.cell (World.block_lt_of_cell? w _ hw305_3)).trans hw305_3), ((HB.out.cell (World.block_lt_of_cell? w _ hw305_4)).trans hw305_4), ((HB.out.cell (World.block_lt_of_cell? w _ hw305_5)).trans hw305_5), ((HB.out.cell (World.block_lt_of_cell? w _ hw305_6)).trans hw305_6), ((HB.out.cell (World.block_lt_of_cell? w _ hw305_7)).trans hw305_7)⟩ (fun hHeld => ?_)
                  clear hK K
                  refine norm_ (a' := ?_) ?_ ?_
                  rotate_left
                  · show Act.put _ (some 39) _ = _
                    simp only [Act.put, List.setIfInBounds_toArray, List.set_cons_zero, List.set_cons_succ, i64_w, i32_w]
                    rfl
                  refine pure_ (i := 13) (N := some 40) (v := ?_) (a' := ?_) #[true, true, true, true, true, true, true, true, true, true, true, true, true, true, true, false] rfl rfl (any_of HT_.out (by kernel_rfl)) (fun _ _ _ h => h) (Or.inl ⟨by rfl, ?_⟩) ?_ ?_
                  rotate_left
                  · intro w'
                    go_simp
                    with_reducible rfl
                  rotate_left
                  · simp only [Act.put, List.setIfInBounds_toArray, List.set_cons_zero, List.set_cons_succ, i64_w, i32_w]
                    rfl
                  exact norm_ (by simp only [putAll, Act.put, List.setIfInBounds_toArray, List.set_cons_zero, List.set_cons_succ]) (hCont (v307, gb309) _ ⟨hHeld, (by (with_reducible repeat (first | apply Kd.R_alloc | apply Kd.R_drewN | apply Kd.R_drew)); exact HO308.out), (by (with_reducible repeat (first | apply Kd.R_alloc | apply Kd.R_drewN | apply Kd.R_drew)); exact Kd.R_mono HO_7.out (fun _ hk => hk.2)), (by (with_reducible repeat (first | refine blk_drewN ?_ _ | refine blk_drew ?_ | refine blk_alloc ?_ _)); exact BK309.out), GW309.out, GE309.out, (by repeat (first | (with_reducible first | exact HB.out | apply below_alloc | apply pw_below_drewN | apply below_drew1 | refine below_set ?_ GE309.out) | exact HB.out))⟩)
              · skip
                refine box_step ?hg (N := 10) ?hd (cs := #[.int .i64 0, .int .i64 0, .string (⟨#[]⟩ : ByteArray)]) (t := 41) ?hr ?_; (case hd => rfl); (case hg => rfl); (case hr => first | (go_simp; done) | (go_simp; rfl))
                intro gb309 hg w12 hbox hb
                have n0_ := Aside0.mk (Kd.R_below (Kd.R_elderB (by (with_reducible repeat (first | apply Kd.R_alloc | apply Kd.R_drewN | apply Kd.R_drew)); exact HO_7.out) gb309 (Nat.le_of_eq hg.symm)) hb)
                have n1_ := Aside0.mk (below_step (by repeat (first | (with_reducible first | exact HB.out | apply below_alloc | apply pw_below_drewN | apply below_drew1) | exact HB.out)) hb)
                have n2_ := Aside0.mk (hbox)
                have n3_ := Aside0.mk ((by rw [hg]; exact (below_size (by repeat (first | (with_reducible first | exact HB.out | apply below_alloc | apply pw_below_drewN | apply below_drew1) | exact HB.out))) : w.heap.size ≤ gb309))
                have n4_ := Aside0.mk ((by rw [hg]; exact (below_size (by repeat (first | (with_reducible first | exact HB.out | apply below_alloc | apply pw_below_drewN | apply below_drew1) | exact HB.out))) : w.heap.size ≤ gb309))
                clear HO_7
                clear HB
                have HO_7 := n0_
                have HB := n1_
                have BK309 := n2_
                have GW309 := n3_
                have GE309 := n4_
                clear n0_ n1_ n2_ n3_ n4_
                clear hb hbox hg
                refine hK.out _ _ ⟨((HB.out.cell (World.block_lt_of_cell? w _ hw304_0)).trans hw304_0), ((HB.out.cell (World.block_lt_of_cell? w _ hw304_1)).trans hw304_1), ((HB.out.cell (World.block_lt_of_cell? w _ hw304_2)).trans hw304_2), ((HB.out.cell (World.block_lt_of_cell? w _ hw304_3)).trans hw304_3), ((HB.out.cell (World.block_lt_of_cell? w _ hw304_4)).trans hw304_4), ((HB.out.cell (World.block_lt_of_cell? w _ hw304_5)).trans hw304_5), ((HB.out.cell (World.block_lt_of_cell? w _ hw304_6)).trans hw304_6), ((HB.out.cell (World.block_lt_of_cell? w _ hw304_7)).trans hw304_7), ((HB.out.cell (World.block_lt_of_cell? w _ hw305_0)).trans hw305_0), ((HB.out.cell (World.block_lt_of_cell? w _ hw305_1)).trans hw305_1), ((HB.out.cell (World.block_lt_of_cell? w _ hw305_2)).trans hw305_2), ((HB.out.cell (World.block_lt_of_cell? w _ hw305_3)).trans hw305_3), ((HB.out.cell (World.block_lt_of_cell? w _ hw305_4)).trans hw305_4), ((HB.out.cell (World.block_lt_of_cell? w _ hw305_5)).trans hw305_5), ((HB.out.cell (World.block_lt_of_cell? w _ hw305_6)).trans hw305_6), ((HB.out.cell (World.block_lt_of_cell? w _ hw305_7)).trans hw305_7)⟩ (fun hHeld => ?_)
                clear hK K
                refine norm_ (a' := ?_) ?_ ?_
                rotate_left
                · show Act.put _ (some 10) _ = _
                  simp only [Act.put, List.setIfInBounds_toArray, List.set_cons_zero, List.set_cons_succ, i64_w, i32_w]
                  rfl
                refine one_ (i := 11) (N := some 38) #[true, true, true, true, true, true, true, true, true, true, true, true, false, false, true, false] rfl rfl (one_of HT_.out (by kernel_rfl)) (by decide) (fun K hK => ?_)
                refine goes_ Try.func22 (by kernel_rfl) rfl #[.agg #[.int .i64 ((rd_T31 l2 x8_1).f1.f0), .int .i64 ((rd_T31 l2 x8_1).f1.f1), .int .i64 ((rd_T31 l2 x8_1).f1.f2), .int .i64 ((rd_T31 l2 x8_1).f1.f3), .string ((rd_T31 l2 x8_1).f1.f4), .slice A304_6 ((rd_T31 l2 x8_1).f1.f5).length c304_6, .slice A304_7 ((rd_T31 l2 x8_1).f1.f6).length c304_7]] (by rfl) rfl rfl (by (try simp only [List.map_toArray, List.map_cons, List.map_nil]); first | done | rfl | (simp only [List.length_drop, List.length_take]; rfl)) ?_
                with_reducible refine (becketref12_Put.calls k1 ((rd_T31 l2 x8_1).f1.f0) ((rd_T31 l2 x8_1).f1.f1) ((rd_T31 l2 x8_1).f1.f2) ((rd_T31 l2 x8_1).f1.f3) ((rd_T31 l2 x8_1).f1.f4) _ _ ((rd_T31 l2 x8_1).f1.f5) _ _ ((rd_T31 l2 x8_1).f1.f6) t306 _ ?side1 ?side2 ?side3 ?side4 A8.out).mono ?_
                (case side1 => repeat (first | exact (Kd.C_below HR305_6.out HB.out) | (with_reducible refine Kd.C_alloc ?_ _) | (with_reducible refine Kd.C_drewN ?_ _) | (with_reducible refine Kd.C_drew ?_)))
                (case side2 => exact HC305_6.out)
                (case side3 => repeat (first | exact (Kd.C_below HR305_7.out HB.out) | (with_reducible refine Kd.C_alloc ?_ _) | (with_reducible refine Kd.C_drewN ?_ _) | (with_reducible refine Kd.C_drew ?_)))
                (case side4 => exact HC305_7.out)
                rintro e w13 ⟨v307, rfl, ho0, hb⟩
                refine ⟨_, rfl, ?_⟩
                have n0_ := Aside0.mk (Kd.R_below (by (with_reducible repeat (first | apply Kd.R_alloc | apply Kd.R_drewN | apply Kd.R_drew)); exact HO_7.out) hb)
                have n1_ := Aside0.mk (Kd.R_lower ho0 (below_size (by repeat (first | (with_reducible first | exact HB.out | apply below_alloc | apply pw_below_drewN | apply below_drew1 | refine below_set ?_ GE309.out) | exact HB.out))))
                have n2_ := Aside0.mk (blk_below (g := gb309) (o := .cells #[.int .i64 0, .int .i64 0, .string (⟨#[]⟩ : ByteArray)] 41 (0, 0)) (by (with_reducible repeat (first | refine blk_drewN ?_ _ | refine blk_drew ?_ | refine blk_alloc ?_ _)); exact BK309.out) hb)
                have n3_ := Aside0.mk (below_step (by repeat (first | (with_reducible first | exact HB.out | apply below_alloc | apply pw_below_drewN | apply below_drew1 | refine below_set ?_ GE309.out) | exact HB.out)) hb)
                clear HO_7
                clear BK309
                clear HB
                have HO_7 := n0_
                have HO308 := n1_
                have BK309 := n2_
                have HB := n3_
                clear n0_ n1_ n2_ n3_
                (try clear hb)
                (try clear hb2)
                (try clear hk)
                (try clear hi)
                (try clear ho0)
                refine hK.out _ _ ⟨((HB.out.cell (World.block_lt_of_cell? w _ hw304_0)).trans hw304_0), ((HB.out.cell (World.block_lt_of_cell? w _ hw304_1)).trans hw304_1), ((HB.out.cell (World.block_lt_of_cell? w _ hw304_2)).trans hw304_2), ((HB.out.cell (World.block_lt_of_cell? w _ hw304_3)).trans hw304_3), ((HB.out.cell (World.block_lt_of_cell? w _ hw304_4)).trans hw304_4), ((HB.out.cell (World.block_lt_of_cell? w _ hw304_5)).trans hw304_5), ((HB.out.cell (World.block_lt_of_cell? w _ hw304_6)).trans hw304_6), ((HB.out.cell (World.block_lt_of_cell? w _ hw304_7)).trans hw304_7), ((HB.out.cell (World.block_lt_of_cell? w _ hw305_0)).trans hw305_0), ((HB.out.cell (World.block_lt_of_cell? w _ hw305_1)).trans hw305_1), ((HB.out.cell (World.block_lt_of_cell? w _ hw305_2)).trans hw305_2), ((HB.out.cell (World.block_lt_of_cell? w _ hw305_3)).trans hw305_3), ((HB.out.cell (World.block_lt_of_cell? w _ hw305_4)).trans hw305_4), ((HB.out.cell (World.block_lt_of_cell? w _ hw305_5)).trans hw305_5), ((HB.out.cell (World.block_lt_of_cell? w _ hw305_6)).trans hw305_6), ((HB.out.cell (World.block_lt_of_cell? w _ hw305_7)).trans hw305_7)⟩ (fun hHeld => ?_)
                clear hK K
                refine norm_ (a' := ?_) ?_ ?_
                rotate_left
                · show Act.put _ (some 38) _ = _
                  simp only [Act.put, List.setIfInBounds_toArray, List.set_cons_zero, List.set_cons_succ, i64_w, i32_w]
                  rfl
                refine one_ (i := 12) (N := some 39) #[true, true, true, true, true, true, true, true, true, true, true, true, true, false, true, false] rfl rfl (one_of HT_.out (by kernel_rfl)) (by decide) (fun K hK => ?_)
                (first | have hcv14 := own_string (P := Try.prog) Try.underlying61 Try.underlying5 Try.underlying9 (Kd.own_of_R HO308.out) | have hcv14 := V_string_becketref18_Send (P := Try.prog) Try.underlying61 Try.underlying5 Try.underlying9 HO308.out)
                refine value_ (w1 := ?_) (v := ?_) (by rfl) rfl ?_ ?_
                rotate_left 2
                · go_simp
                  constructor
                  · rfl
                  · rfl
                clear hcv14
                refine hK.out _ _ ⟨((HB.out.cell (World.block_lt_of_cell? w _ hw304_0)).trans hw304_0), ((HB.out.cell (World.block_lt_of_cell? w _ hw304_1)).trans hw304_1), ((HB.out.cell (World.block_lt_of_cell? w _ hw304_2)).trans hw304_2), ((HB.out.cell (World.block_lt_of_cell? w _ hw304_3)).trans hw304_3), ((HB.out.cell (World.block_lt_of_cell? w _ hw304_4)).trans hw304_4), ((HB.out.cell (World.block_lt_of_cell? w _ hw304_5)).trans hw304_5), ((HB.out.cell (World.block_lt_of_cell? w _ hw304_6)).trans hw304_6), ((HB.out.cell (World.block_lt_of_cell? w _ hw304_7)).trans hw304_7), ((HB.out.cell (World.block_lt_of_cell? w _ hw305_0)).trans hw305_0), ((HB.out.cell (World.block_lt_of_cell? w _ hw305_1)).trans hw305_1), ((HB.out.cell (World.block_lt_of_cell? w _ hw305_2)).trans hw305_2), ((HB.out.cell (World.block_lt_of_cell? w _ hw305_3)).trans hw305_3), ((HB.out.cell (World.block_lt_of_cell? w _ hw305_4)).trans hw305_4), ((HB.out.cell (World.block_lt_of_cell? w _ hw305_5)).trans hw305_5), ((HB.out.cell (World.block_lt_of_cell? w _ hw305_6)).trans hw305_6), ((HB.out.cell (World.block_lt_of_cell? w _ hw305_7)).trans hw305_7)⟩ (fun hHeld => ?_)
                clear hK K
                refine norm_ (a' := ?_) ?_ ?_
                rotate_left
                · show Act.put _ (some 39) _ = _
                  simp only [Act.put, List.setIfInBounds_toArray, List.set_cons_zero, List.set_cons_succ, i64_w, i32_w]
                  rfl
                refine pure_ (i := 13) (N := some 40) (v := ?_) (a' := ?_) #[true, true, true, true, true, true, true, true, true, true, true, true, true, true, true, false] rfl rfl (any_of HT_.out (by kernel_rfl)) (fun _ _ _ h => h) (Or.inl ⟨by rfl, ?_⟩) ?_ ?_
                rotate_left
                · intro w'
                  go_simp
                  with_reducible rfl
                rotate_left
                · simp only [Act.put, List.setIfInBounds_toArray, List.set_cons_zero, List.set_cons_succ, i64_w, i32_w]
                  rfl
                exact norm_ (by simp only [putAll, Act.put, List.setIfInBounds_toArray, List.set_cons_zero, List.set_cons_succ]) (hCont (v307, gb309) _ ⟨hHeld, (by (with_reducible repeat (first | apply Kd.R_alloc | apply Kd.R_drewN | apply Kd.R_drew)); exact HO308.out), (by (with_reducible repeat (first | apply Kd.R_alloc | apply Kd.R_drewN | apply Kd.R_drew)); exact Kd.R_mono HO_7.out (fun _ hk => hk.2)), (by (with_reducible repeat (first | refine blk_drewN ?_ _ | refine blk_drew ?_ | refine blk_alloc ?_ _)); exact BK309.out), GW309.out, GE309.out, (by repeat (first | (with_reducible first | exact HB.out | apply below_alloc | apply pw_below_drewN | apply below_drew1 | refine below_set ?_ GE309.out) | exact HB.out))⟩)
            rintro ⟨v307, gb309⟩ w15 ⟨hS_, h0_, h1_, h2_, h3_, h4_, h5_⟩
            have n0_ : Aside0 (Kd.R (Kd.int .u8) 5 w15 w.heap.size (fun _ => True) v307 t306) := ⟨h0_⟩
            have n1_ : Aside0 (Kd.R k41 41 w15 w.heap.size (fun k_ => k_ ≠ gb309) u7 x7_1) := ⟨h1_⟩
            have n2_ : Aside0 (w15.heap[gb309]? = some (.cells #[.int .i64 0, .int .i64 0, .string (⟨#[]⟩ : ByteArray)] 41 (0, 0))) := ⟨h2_⟩
            have n3_ : Aside0 (w.heap.size ≤ gb309) := ⟨h3_⟩
            have n4_ : Aside0 (w.heap.size ≤ gb309) := ⟨h4_⟩
            have n5_ : Aside0 (Below w.heap.size w w15) := ⟨h5_⟩
            clear HO_7
            clear HB
            clear h0_ h1_ h2_ h3_ h4_ h5_
            have HO308 := n0_
            have HO_7 := n1_
            have BK309 := n2_
            have GW309 := n3_
            have GE309 := n4_
            have HB := n5_
            clear n0_ n1_ n2_ n3_ n4_ n5_
            have hHeld : w15.cell? (ad302.add ((x8_1).toNat * 8)) = some (.int .i64 ((rd_T31 l2 x8_1).f0)) ∧ w15.cell? ⟨(ad302.add ((x8_1).toNat * 8)).block, (ad302.add ((x8_1).toNat * 8)).off + 1, none⟩ = some (.int .i64 ((rd_T31 l2 x8_1).f1.f0)) ∧ w15.cell? ⟨(ad302.add ((x8_1).toNat * 8)).block, (ad302.add ((x8_1).toNat * 8)).off + 2, none⟩ = some (.int .i64 ((rd_T31 l2 x8_1).f1.f1)) ∧ w15.cell? ⟨(ad302.add ((x8_1).toNat * 8)).block, (ad302.add ((x8_1).toNat * 8)).off + 3, none⟩ = some (.int .i64 ((rd_T31 l2 x8_1).f1.f2)) ∧ w15.cell? ⟨(ad302.add ((x8_1).toNat * 8)).block, (ad302.add ((x8_1).toNat * 8)).off + 4, none⟩ = some (.int .i64 ((rd_T31 l2 x8_1).f1.f3)) ∧ w15.cell? ⟨(ad302.add ((x8_1).toNat * 8)).block, (ad302.add ((x8_1).toNat * 8)).off + 5, none⟩ = some (.string ((rd_T31 l2 x8_1).f1.f4)) ∧ w15.cell? ⟨(ad302.add ((x8_1).toNat * 8)).block, (ad302.add ((x8_1).toNat * 8)).off + 6, none⟩ = some (.slice A304_6 ((rd_T31 l2 x8_1).f1.f5).length c304_6) ∧ w15.cell? ⟨(ad302.add ((x8_1).toNat * 8)).block, (ad302.add ((x8_1).toNat * 8)).off + 7, none⟩ = some (.slice A304_7 ((rd_T31 l2 x8_1).f1.f6).length c304_7) ∧ w15.cell? (ad302.add ((x8_1).toNat * 8)) = some (.int .i64 ((rd_T31 l2 x8_1).f0)) ∧ w15.cell? ⟨(ad302.add ((x8_1).toNat * 8)).block, (ad302.add ((x8_1).toNat * 8)).off + 1, none⟩ = some (.int .i64 ((rd_T31 l2 x8_1).f1.f0)) ∧ w15.cell? ⟨(ad302.add ((x8_1).toNat * 8)).block, (ad302.add ((x8_1).toNat * 8)).off + 2, none⟩ = some (.int .i64 ((rd_T31 l2 x8_1).f1.f1)) ∧ w15.cell? ⟨(ad302.add ((x8_1).toNat * 8)).block, (ad302.add ((x8_1).toNat * 8)).off + 3, none⟩ = some (.int .i64 ((rd_T31 l2 x8_1).f1.f2)) ∧ w15.cell? ⟨(ad302.add ((x8_1).toNat * 8)).block, (ad302.add ((x8_1).toNat * 8)).off + 4, none⟩ = some (.int .i64 ((rd_T31 l2 x8_1).f1.f3)) ∧ w15.cell? ⟨(ad302.add ((x8_1).toNat * 8)).block, (ad302.add ((x8_1).toNat * 8)).off + 5, none⟩ = some (.string ((rd_T31 l2 x8_1).f1.f4)) ∧ w15.cell? ⟨(ad302.add ((x8_1).toNat * 8)).block, (ad302.add ((x8_1).toNat * 8)).off + 6, none⟩ = some (.slice A304_6 ((rd_T31 l2 x8_1).f1.f5).length c304_6) ∧ w15.cell? ⟨(ad302.add ((x8_1).toNat * 8)).block, (ad302.add ((x8_1).toNat * 8)).off + 7, none⟩ = some (.slice A304_7 ((rd_T31 l2 x8_1).f1.f6).length c304_7) := hS_
            refine norm_ (a' := ?_) ?_ ?_
            rotate_left
            · simp only [putAll, Act.put, List.setIfInBounds_toArray, List.set_cons_zero, List.set_cons_succ]
              rfl
            refine one_ (i := 15) (N := none) #[true, true, true, true, true, true, true, true, true, true, true, true, true, true, true, true] rfl rfl (one_of HT_.out (by kernel_rfl)) (by decide) (fun K hK => ?_)
            have hs16 : w15.cell? ⟨gb309, 0, none⟩ = some (.int .i64 0) := (blk_cell BK309.out 0).trans rfl
            have hfs16 := blk_frozen BK309.out 0
            have hs17 : w15.cell? ⟨gb309, 1, none⟩ = some (.int .i64 0) := (blk_cell BK309.out 1).trans rfl
            have hfs17 := blk_frozen BK309.out 1
            have hs18 : w15.cell? ⟨gb309, 2, none⟩ = some (.string (⟨#[]⟩ : ByteArray)) := (blk_cell BK309.out 2).trans rfl
            have hfs18 := blk_frozen BK309.out 2
            refine skip_ (w1 := ?_) (by rfl) rfl ?_ ?_
            rotate_left
            · go_simp
              rfl
            refine hK.out _ _ ⟨((cell_far (p := ⟨gb309, _, none⟩) (by first | exact Nat.ne_of_lt (Nat.lt_of_lt_of_le (by have := World.block_lt_of_cell? _ _ hw304_0; first | rwa [add_block] at this | exact this) GW309.out) | (rw [add_block]; exact Nat.ne_of_lt (Nat.lt_of_lt_of_le (by have := World.block_lt_of_cell? _ _ hw304_0; first | rwa [add_block] at this | exact this) GW309.out)) | (show (Addr.add _ _).block ≠ _; rw [add_block]; exact Nat.ne_of_lt (Nat.lt_of_lt_of_le (by have := World.block_lt_of_cell? _ _ hw304_0; first | rwa [add_block] at this | exact this) GW309.out)) | (dsimp only; exact Nat.ne_of_lt (Nat.lt_of_lt_of_le (by have := World.block_lt_of_cell? _ _ hw304_0; first | rwa [add_block] at this | exact this) GW309.out))) _).trans (((cell_far (p := ⟨gb309, _, none⟩) (by first | exact Nat.ne_of_lt (Nat.lt_of_lt_of_le (by have := World.block_lt_of_cell? _ _ hw304_0; first | rwa [add_block] at this | exact this) GW309.out) | (rw [add_block]; exact Nat.ne_of_lt (Nat.lt_of_lt_of_le (by have := World.block_lt_of_cell? _ _ hw304_0; first | rwa [add_block] at this | exact this) GW309.out)) | (show (Addr.add _ _).block ≠ _; rw [add_block]; exact Nat.ne_of_lt (Nat.lt_of_lt_of_le (by have := World.block_lt_of_cell? _ _ hw304_0; first | rwa [add_block] at this | exact this) GW309.out)) | (dsimp only; exact Nat.ne_of_lt (Nat.lt_of_lt_of_le (by have := World.block_lt_of_cell? _ _ hw304_0; first | rwa [add_block] at this | exact this) GW309.out))) _).trans (((cell_far (p := ⟨gb309, _, none⟩) (by first | exact Nat.ne_of_lt (Nat.lt_of_lt_of_le (by have := World.block_lt_of_cell? _ _ hw304_0; first | rwa [add_block] at this | exact this) GW309.out) | (rw [add_block]; exact Nat.ne_of_lt (Nat.lt_of_lt_of_le (by have := World.block_lt_of_cell? _ _ hw304_0; first | rwa [add_block] at this | exact this) GW309.out)) | (show (Addr.add _ _).block ≠ _; rw [add_block]; exact Nat.ne_of_lt (Nat.lt_of_lt_of_le (by have := World.block_lt_of_cell? _ _ hw304_0; first | rwa [add_block] at this | exact this) GW309.out)) | (dsimp only; exact Nat.ne_of_lt (Nat.lt_of_lt_of_le (by have := World.block_lt_of_cell? _ _ hw304_0; first | rwa [add_block] at this | exact this) GW309.out))) _).trans (hHeld.1)))))), ((cell_far (p := ⟨gb309, _, none⟩) (by first | exact Nat.ne_of_lt (Nat.lt_of_lt_of_le (by have := World.block_lt_of_cell? _ _ hw304_1; first | rwa [add_block] at this | exact this) GW309.out) | (rw [add_block]; exact Nat.ne_of_lt (Nat.lt_of_lt_of_le (by have := World.block_lt_of_cell? _ _ hw304_1; first | rwa [add_block] at this | exact this) GW309.out)) | (show (Addr.add _ _).block ≠ _; rw [add_block]; exact Nat.ne_of_lt (Nat.lt_of_lt_of_le (by have := World.block_lt_of_cell? _ _ hw304_1; first | rwa [add_block] at this | exact this) GW309.out)) | (dsimp only; exact Nat.ne_of_lt (Nat.lt_of_lt_of_le (by have := World.block_lt_of_cell? _ _ hw304_1; first | rwa [add_block] at this | exact this) GW309.out))) _).trans (((cell_far (p := ⟨gb309, _, none⟩) (by first | exact Nat.ne_of_lt (Nat.lt_of_lt_of_le (by have := World.block_lt_of_cell? _ _ hw304_1; first | rwa [add_block] at this | exact this) GW309.out) | (rw [add_block]; exact Nat.ne_of_lt (Nat.lt_of_lt_of_le (by have := World.block_lt_of_cell? _ _ hw304_1; first | rwa [add_block] at this | exact this) GW309.out)) | (show (Addr.add _ _).block ≠ _; rw [add_block]; exact Nat.ne_of_lt (Nat.lt_of_lt_of_le (by have := World.block_lt_of_cell? _ _ hw304_1; first | rwa [add_block] at this | exact this) GW309.out)) | (dsimp only; exact Nat.ne_of_lt (Nat.lt_of_lt_of_le (by have := World.block_lt_of_cell? _ _ hw304_1; first | rwa [add_block] at this | exact this) GW309.out))) _).trans (((cell_far (p := ⟨gb309, _, none⟩) (by first | exact Nat.ne_of_lt (Nat.lt_of_lt_of_le (by have := World.block_lt_of_cell? _ _ hw304_1; first | rwa [add_block] at this | exact this) GW309.out) | (rw [add_block]; exact Nat.ne_of_lt (Nat.lt_of_lt_of_le (by have := World.block_lt_of_cell? _ _ hw304_1; first | rwa [add_block] at this | exact this) GW309.out)) | (show (Addr.add _ _).block ≠ _; rw [add_block]; exact Nat.ne_of_lt (Nat.lt_of_lt_of_le (by have := World.block_lt_of_cell? _ _ hw304_1; first | rwa [add_block] at this | exact this) GW309.out)) | (dsimp only; exact Nat.ne_of_lt (Nat.lt_of_lt_of_le (by have := World.block_lt_of_cell? _ _ hw304_1; first | rwa [add_block] at this | exact this) GW309.out))) _).trans (hHeld.2.1)))))), ((cell_far (p := ⟨gb309, _, none⟩) (by first | exact Nat.ne_of_lt (Nat.lt_of_lt_of_le (by have := World.block_lt_of_cell? _ _ hw304_2; first | rwa [add_block] at this | exact this) GW309.out) | (rw [add_block]; exact Nat.ne_of_lt (Nat.lt_of_lt_of_le (by have := World.block_lt_of_cell? _ _ hw304_2; first | rwa [add_block] at this | exact this) GW309.out)) | (show (Addr.add _ _).block ≠ _; rw [add_block]; exact Nat.ne_of_lt (Nat.lt_of_lt_of_le (by have := World.block_lt_of_cell? _ _ hw304_2; first | rwa [add_block] at this | exact this) GW309.out)) | (dsimp only; exact Nat.ne_of_lt (Nat.lt_of_lt_of_le (by have := World.block_lt_of_cell? _ _ hw304_2; first | rwa [add_block] at this | exact this) GW309.out))) _).trans (((cell_far (p := ⟨gb309, _, none⟩) (by first | exact Nat.ne_of_lt (Nat.lt_of_lt_of_le (by have := World.block_lt_of_cell? _ _ hw304_2; first | rwa [add_block] at this | exact this) GW309.out) | (rw [add_block]; exact Nat.ne_of_lt (Nat.lt_of_lt_of_le (by have := World.block_lt_of_cell? _ _ hw304_2; first | rwa [add_block] at this | exact this) GW309.out)) | (show (Addr.add _ _).block ≠ _; rw [add_block]; exact Nat.ne_of_lt (Nat.lt_of_lt_of_le (by have := World.block_lt_of_cell? _ _ hw304_2; first | rwa [add_block] at this | exact this) GW309.out)) | (dsimp only; exact Nat.ne_of_lt (Nat.lt_of_lt_of_le (by have := World.block_lt_of_cell? _ _ hw304_2; first | rwa [add_block] at this | exact this) GW309.out))) _).trans (((cell_far (p := ⟨gb309, _, none⟩) (by first | exact Nat.ne_of_lt (Nat.lt_of_lt_of_le (by have := World.block_lt_of_cell? _ _ hw304_2; first | rwa [add_block] at this | exact this) GW309.out) | (rw [add_block]; exact Nat.ne_of_lt (Nat.lt_of_lt_of_le (by have := World.block_lt_of_cell? _ _ hw304_2; first | rwa [add_block] at this | exact this) GW309.out)) | (show (Addr.add _ _).block ≠ _; rw [add_block]; exact Nat.ne_of_lt (Nat.lt_of_lt_of_le (by have := World.block_lt_of_cell? _ _ hw304_2; first | rwa [add_block] at this | exact this) GW309.out)) | (dsimp only; exact Nat.ne_of_lt (Nat.lt_of_lt_of_le (by have := World.block_lt_of_cell? _ _ hw304_2; first | rwa [add_block] at this | exact this) GW309.out))) _).trans (hHeld.2.2.1)))))), ((cell_far (p := ⟨gb309, _, none⟩) (by first | exact Nat.ne_of_lt (Nat.lt_of_lt_of_le (by have := World.block_lt_of_cell? _ _ hw304_3; first | rwa [add_block] at this | exact this) GW309.out) | (rw [add_block]; exact Nat.ne_of_lt (Nat.lt_of_lt_of_le (by have := World.block_lt_of_cell? _ _ hw304_3; first | rwa [add_block] at this | exact this) GW309.out)) | (show (Addr.add _ _).block ≠ _; rw [add_block]; exact Nat.ne_of_lt (Nat.lt_of_lt_of_le (by have := World.block_lt_of_cell? _ _ hw304_3; first | rwa [add_block] at this | exact this) GW309.out)) | (dsimp only; exact Nat.ne_of_lt (Nat.lt_of_lt_of_le (by have := World.block_lt_of_cell? _ _ hw304_3; first | rwa [add_block] at this | exact this) GW309.out))) _).trans (((cell_far (p := ⟨gb309, _, none⟩) (by first | exact Nat.ne_of_lt (Nat.lt_of_lt_of_le (by have := World.block_lt_of_cell? _ _ hw304_3; first | rwa [add_block] at this | exact this) GW309.out) | (rw [add_block]; exact Nat.ne_of_lt (Nat.lt_of_lt_of_le (by have := World.block_lt_of_cell? _ _ hw304_3; first | rwa [add_block] at this | exact this) GW309.out)) | (show (Addr.add _ _).block ≠ _; rw [add_block]; exact Nat.ne_of_lt (Nat.lt_of_lt_of_le (by have := World.block_lt_of_cell? _ _ hw304_3; first | rwa [add_block] at this | exact this) GW309.out)) | (dsimp only; exact Nat.ne_of_lt (Nat.lt_of_lt_of_le (by have := World.block_lt_of_cell? _ _ hw304_3; first | rwa [add_block] at this | exact this) GW309.out))) _).trans (((cell_far (p := ⟨gb309, _, none⟩) (by first | exact Nat.ne_of_lt (Nat.lt_of_lt_of_le (by have := World.block_lt_of_cell? _ _ hw304_3; first | rwa [add_block] at this | exact this) GW309.out) | (rw [add_block]; exact Nat.ne_of_lt (Nat.lt_of_lt_of_le (by have := World.block_lt_of_cell? _ _ hw304_3; first | rwa [add_block] at this | exact this) GW309.out)) | (show (Addr.add _ _).block ≠ _; rw [add_block]; exact Nat.ne_of_lt (Nat.lt_of_lt_of_le (by have := World.block_lt_of_cell? _ _ hw304_3; first | rwa [add_block] at this | exact this) GW309.out)) | (dsimp only; exact Nat.ne_of_lt (Nat.lt_of_lt_of_le (by have := World.block_lt_of_cell? _ _ hw304_3; first | rwa [add_block] at this | exact this) GW309.out))) _).trans (hHeld.2.2.2.1)))))), ((cell_far (p := ⟨gb309, _, none⟩) (by first | exact Nat.ne_of_lt (Nat.lt_of_lt_of_le (by have := World.block_lt_of_cell? _ _ hw304_4; first | rwa [add_block] at this | exact this) GW309.out) | (rw [add_block]; exact Nat.ne_of_lt (Nat.lt_of_lt_of_le (by have := World.block_lt_of_cell? _ _ hw304_4; first | rwa [add_block] at this | exact this) GW309.out)) | (show (Addr.add _ _).block ≠ _; rw [add_block]; exact Nat.ne_of_lt (Nat.lt_of_lt_of_le (by have := World.block_lt_of_cell? _ _ hw304_4; first | rwa [add_block] at this | exact this) GW309.out)) | (dsimp only; exact Nat.ne_of_lt (Nat.lt_of_lt_of_le (by have := World.block_lt_of_cell? _ _ hw304_4; first | rwa [add_block] at this | exact this) GW309.out))) _).trans (((cell_far (p := ⟨gb309, _, none⟩) (by first | exact Nat.ne_of_lt (Nat.lt_of_lt_of_le (by have := World.block_lt_of_cell? _ _ hw304_4; first | rwa [add_block] at this | exact this) GW309.out) | (rw [add_block]; exact Nat.ne_of_lt (Nat.lt_of_lt_of_le (by have := World.block_lt_of_cell? _ _ hw304_4; first | rwa [add_block] at this | exact this) GW309.out)) | (show (Addr.add _ _).block ≠ _; rw [add_block]; exact Nat.ne_of_lt (Nat.lt_of_lt_of_le (by have := World.block_lt_of_cell? _ _ hw304_4; first | rwa [add_block] at this | exact this) GW309.out)) | (dsimp only; exact Nat.ne_of_lt (Nat.lt_of_lt_of_le (by have := World.block_lt_of_cell? _ _ hw304_4; first | rwa [add_block] at this | exact this) GW309.out))) _).trans (((cell_far (p := ⟨gb309, _, none⟩) (by first | exact Nat.ne_of_lt (Nat.lt_of_lt_of_le (by have := World.block_lt_of_cell? _ _ hw304_4; first | rwa [add_block] at this | exact this) GW309.out) | (rw [add_block]; exact Nat.ne_of_lt (Nat.lt_of_lt_of_le (by have := World.block_lt_of_cell? _ _ hw304_4; first | rwa [add_block] at this | exact this) GW309.out)) | (show (Addr.add _ _).block ≠ _; rw [add_block]; exact Nat.ne_of_lt (Nat.lt_of_lt_of_le (by have := World.block_lt_of_cell? _ _ hw304_4; first | rwa [add_block] at this | exact this) GW309.out)) | (dsimp only; exact Nat.ne_of_lt (Nat.lt_of_lt_of_le (by have := World.block_lt_of_cell? _ _ hw304_4; first | rwa [add_block] at this | exact this) GW309.out))) _).trans (hHeld.2.2.2.2.1)))))), ((cell_far (p := ⟨gb309, _, none⟩) (by first | exact Nat.ne_of_lt (Nat.lt_of_lt_of_le (by have := World.block_lt_of_cell? _ _ hw304_5; first | rwa [add_block] at this | exact this) GW309.out) | (rw [add_block]; exact Nat.ne_of_lt (Nat.lt_of_lt_of_le (by have := World.block_lt_of_cell? _ _ hw304_5; first | rwa [add_block] at this | exact this) GW309.out)) | (show (Addr.add _ _).block ≠ _; rw [add_block]; exact Nat.ne_of_lt (Nat.lt_of_lt_of_le (by have := World.block_lt_of_cell? _ _ hw304_5; first | rwa [add_block] at this | exact this) GW309.out)) | (dsimp only; exact Nat.ne_of_lt (Nat.lt_of_lt_of_le (by have := World.block_lt_of_cell? _ _ hw304_5; first | rwa [add_block] at this | exact this) GW309.out))) _).trans (((cell_far (p := ⟨gb309, _, none⟩) (by first | exact Nat.ne_of_lt (Nat.lt_of_lt_of_le (by have := World.block_lt_of_cell? _ _ hw304_5; first | rwa [add_block] at this | exact this) GW309.out) | (rw [add_block]; exact Nat.ne_of_lt (Nat.lt_of_lt_of_le (by have := World.block_lt_of_cell? _ _ hw304_5; first | rwa [add_block] at this | exact this) GW309.out)) | (show (Addr.add _ _).block ≠ _; rw [add_block]; exact Nat.ne_of_lt (Nat.lt_of_lt_of_le (by have := World.block_lt_of_cell? _ _ hw304_5; first | rwa [add_block] at this | exact this) GW309.out)) | (dsimp only; exact Nat.ne_of_lt (Nat.lt_of_lt_of_le (by have := World.block_lt_of_cell? _ _ hw304_5; first | rwa [add_block] at this | exact this) GW309.out))) _).trans (((cell_far (p := ⟨gb309, _, none⟩) (by first | exact Nat.ne_of_lt (Nat.lt_of_lt_of_le (by have := World.block_lt_of_cell? _ _ hw304_5; first | rwa [add_block] at this | exact this) GW309.out) | (rw [add_block]; exact Nat.ne_of_lt (Nat.lt_of_lt_of_le (by have := World.block_lt_of_cell? _ _ hw304_5; first | rwa [add_block] at this | exact this) GW309.out)) | (show (Addr.add _ _).block ≠ _; rw [add_block]; exact Nat.ne_of_lt (Nat.lt_of_lt_of_le (by have := World.block_lt_of_cell? _ _ hw304_5; first | rwa [add_block] at this | exact this) GW309.out)) | (dsimp only; exact Nat.ne_of_lt (Nat.lt_of_lt_of_le (by have := World.block_lt_of_cell? _ _ hw304_5; first | rwa [add_block] at this | exact this) GW309.out))) _).trans (hHeld.2.2.2.2.2.1)))))), ((cell_far (p := ⟨gb309, _, none⟩) (by first | exact Nat.ne_of_lt (Nat.lt_of_lt_of_le (by have := World.block_lt_of_cell? _ _ hw304_6; first | rwa [add_block] at this | exact this) GW309.out) | (rw [add_block]; exact Nat.ne_of_lt (Nat.lt_of_lt_of_le (by have := World.block_lt_of_cell? _ _ hw304_6; first | rwa [add_block] at this | exact this) GW309.out)) | (show (Addr.add _ _).block ≠ _; rw [add_block]; exact Nat.ne_of_lt (Nat.lt_of_lt_of_le (by have := World.block_lt_of_cell? _ _ hw304_6; first | rwa [add_block] at this | exact this) GW309.out)) | (dsimp only; exact Nat.ne_of_lt (Nat.lt_of_lt_of_le (by have := World.block_lt_of_cell? _ _ hw304_6; first | rwa [add_block] at this | exact this) GW309.out))) _).trans (((cell_far (p := ⟨gb309, _, none⟩) (by first | exact Nat.ne_of_lt (Nat.lt_of_lt_of_le (by have := World.block_lt_of_cell? _ _ hw304_6; first | rwa [add_block] at this | exact this) GW309.out) | (rw [add_block]; exact Nat.ne_of_lt (Nat.lt_of_lt_of_le (by have := World.block_lt_of_cell? _ _ hw304_6; first | rwa [add_block] at this | exact this) GW309.out)) | (show (Addr.add _ _).block ≠ _; rw [add_block]; exact Nat.ne_of_lt (Nat.lt_of_lt_of_le (by have := World.block_lt_of_cell? _ _ hw304_6; first | rwa [add_block] at this | exact this) GW309.out)) | (dsimp only; exact Nat.ne_of_lt (Nat.lt_of_lt_of_le (by have := World.block_lt_of_cell? _ _ hw304_6; first | rwa [add_block] at this | exact this) GW309.out))) _).trans (((cell_far (p := ⟨gb309, _, none⟩) (by first | exact Nat.ne_of_lt (Nat.lt_of_lt_of_le (by have := World.block_lt_of_cell? _ _ hw304_6; first | rwa [add_block] at this | exact this) GW309.out) | (rw [add_block]; exact Nat.ne_of_lt (Nat.lt_of_lt_of_le (by have := World.block_lt_of_cell? _ _ hw304_6; first | rwa [add_block] at this | exact this) GW309.out)) | (show (Addr.add _ _).block ≠ _; rw [add_block]; exact Nat.ne_of_lt (Nat.lt_of_lt_of_le (by have := World.block_lt_of_cell? _ _ hw304_6; first | rwa [add_block] at this | exact this) GW309.out)) | (dsimp only; exact Nat.ne_of_lt (Nat.lt_of_lt_of_le (by have := World.block_lt_of_cell? _ _ hw304_6; first | rwa [add_block] at this | exact this) GW309.out))) _).trans (hHeld.2.2.2.2.2.2.1)))))), ((cell_far (p := ⟨gb309, _, none⟩) (by first | exact Nat.ne_of_lt (Nat.lt_of_lt_of_le (by have := World.block_lt_of_cell? _ _ hw304_7; first | rwa [add_block] at this | exact this) GW309.out) | (rw [add_block]; exact Nat.ne_of_lt (Nat.lt_of_lt_of_le (by have := World.block_lt_of_cell? _ _ hw304_7; first | rwa [add_block] at this | exact this) GW309.out)) | (show (Addr.add _ _).block ≠ _; rw [add_block]; exact Nat.ne_of_lt (Nat.lt_of_lt_of_le (by have := World.block_lt_of_cell? _ _ hw304_7; first | rwa [add_block] at this | exact this) GW309.out)) | (dsimp only; exact Nat.ne_of_lt (Nat.lt_of_lt_of_le (by have := World.block_lt_of_cell? _ _ hw304_7; first | rwa [add_block] at this | exact this) GW309.out))) _).trans (((cell_far (p := ⟨gb309, _, none⟩) (by first | exact Nat.ne_of_lt (Nat.lt_of_lt_of_le (by have := World.block_lt_of_cell? _ _ hw304_7; first | rwa [add_block] at this | exact this) GW309.out) | (rw [add_block]; exact Nat.ne_of_lt (Nat.lt_of_lt_of_le (by have := World.block_lt_of_cell? _ _ hw304_7; first | rwa [add_block] at this | exact this) GW309.out)) | (show (Addr.add _ _).block ≠ _; rw [add_block]; exact Nat.ne_of_lt (Nat.lt_of_lt_of_le (by have := World.block_lt_of_cell? _ _ hw304_7; first | rwa [add_block] at this | exact this) GW309.out)) | (dsimp only; exact Nat.ne_of_lt (Nat.lt_of_lt_of_le (by have := World.block_lt_of_cell? _ _ hw304_7; first | rwa [add_block] at this | exact this) GW309.out))) _).trans (((cell_far (p := ⟨gb309, _, none⟩) (by first | exact Nat.ne_of_lt (Nat.lt_of_lt_of_le (by have := World.block_lt_of_cell? _ _ hw304_7; first | rwa [add_block] at this | exact this) GW309.out) | (rw [add_block]; exact Nat.ne_of_lt (Nat.lt_of_lt_of_le (by have := World.block_lt_of_cell? _ _ hw304_7; first | rwa [add_block] at this | exact this) GW309.out)) | (show (Addr.add _ _).block ≠ _; rw [add_block]; exact Nat.ne_of_lt (Nat.lt_of_lt_of_le (by have := World.block_lt_of_cell? _ _ hw304_7; first | rwa [add_block] at this | exact this) GW309.out)) | (dsimp only; exact Nat.ne_of_lt (Nat.lt_of_lt_of_le (by have := World.block_lt_of_cell? _ _ hw304_7; first | rwa [add_block] at this | exact this) GW309.out))) _).trans (hHeld.2.2.2.2.2.2.2.1)))))), ((cell_far (p := ⟨gb309, _, none⟩) (by first | exact Nat.ne_of_lt (Nat.lt_of_lt_of_le (by have := World.block_lt_of_cell? _ _ hw305_0; first | rwa [add_block] at this | exact this) GW309.out) | (rw [add_block]; exact Nat.ne_of_lt (Nat.lt_of_lt_of_le (by have := World.block_lt_of_cell? _ _ hw305_0; first | rwa [add_block] at this | exact this) GW309.out)) | (show (Addr.add _ _).block ≠ _; rw [add_block]; exact Nat.ne_of_lt (Nat.lt_of_lt_of_le (by have := World.block_lt_of_cell? _ _ hw305_0; first | rwa [add_block] at this | exact this) GW309.out)) | (dsimp only; exact Nat.ne_of_lt (Nat.lt_of_lt_of_le (by have := World.block_lt_of_cell? _ _ hw305_0; first | rwa [add_block] at this | exact this) GW309.out))) _).trans (((cell_far (p := ⟨gb309, _, none⟩) (by first | exact Nat.ne_of_lt (Nat.lt_of_lt_of_le (by have := World.block_lt_of_cell? _ _ hw305_0; first | rwa [add_block] at this | exact this) GW309.out) | (rw [add_block]; exact Nat.ne_of_lt (Nat.lt_of_lt_of_le (by have := World.block_lt_of_cell? _ _ hw305_0; first | rwa [add_block] at this | exact this) GW309.out)) | (show (Addr.add _ _).block ≠ _; rw [add_block]; exact Nat.ne_of_lt (Nat.lt_of_lt_of_le (by have := World.block_lt_of_cell? _ _ hw305_0; first | rwa [add_block] at this | exact this) GW309.out)) | (dsimp only; exact Nat.ne_of_lt (Nat.lt_of_lt_of_le (by have := World.block_lt_of_cell? _ _ hw305_0; first | rwa [add_block] at this | exact this) GW309.out))) _).trans (((cell_far (p := ⟨gb309, _, none⟩) (by first | exact Nat.ne_of_lt (Nat.lt_of_lt_of_le (by have := World.block_lt_of_cell? _ _ hw305_0; first | rwa [add_block] at this | exact this) GW309.out) | (rw [add_block]; exact Nat.ne_of_lt (Nat.lt_of_lt_of_le (by have := World.block_lt_of_cell? _ _ hw305_0; first | rwa [add_block] at this | exact this) GW309.out)) | (show (Addr.add _ _).block ≠ _; rw [add_block]; exact Nat.ne_of_lt (Nat.lt_of_lt_of_le (by have := World.block_lt_of_cell? _ _ hw305_0; first | rwa [add_block] at this | exact this) GW309.out)) | (dsimp only; exact Nat.ne_of_lt (Nat.lt_of_lt_of_le (by have := World.block_lt_of_cell? _ _ hw305_0; first | rwa [add_block] at this | exact this) GW309.out))) _).trans (hHeld.2.2.2.2.2.2.2.2.1)))))), ((cell_far (p := ⟨gb309, _, none⟩) (by first | exact Nat.ne_of_lt (Nat.lt_of_lt_of_le (by have := World.block_lt_of_cell? _ _ hw305_1; first | rwa [add_block] at this | exact this) GW309.out) | (rw [add_block]; exact Nat.ne_of_lt (Nat.lt_of_lt_of_le (by have := World.block_lt_of_cell? _ _ hw305_1; first | rwa [add_block] at this | exact this) GW309.out)) | (show (Addr.add _ _).block ≠ _; rw [add_block]; exact Nat.ne_of_lt (Nat.lt_of_lt_of_le (by have := World.block_lt_of_cell? _ _ hw305_1; first | rwa [add_block] at this | exact this) GW309.out)) | (dsimp only; exact Nat.ne_of_lt (Nat.lt_of_lt_of_le (by have := World.block_lt_of_cell? _ _ hw305_1; first | rwa [add_block] at this | exact this) GW309.out))) _).trans (((cell_far (p := ⟨gb309, _, none⟩) (by first | exact Nat.ne_of_lt (Nat.lt_of_lt_of_le (by have := World.block_lt_of_cell? _ _ hw305_1; first | rwa [add_block] at this | exact this) GW309.out) | (rw [add_block]; exact Nat.ne_of_lt (Nat.lt_of_lt_of_le (by have := World.block_lt_of_cell? _ _ hw305_1; first | rwa [add_block] at this | exact this) GW309.out)) | (show (Addr.add _ _).block ≠ _; rw [add_block]; exact Nat.ne_of_lt (Nat.lt_of_lt_of_le (by have := World.block_lt_of_cell? _ _ hw305_1; first | rwa [add_block] at this | exact this) GW309.out)) | (dsimp only; exact Nat.ne_of_lt (Nat.lt_of_lt_of_le (by have := World.block_lt_of_cell? _ _ hw305_1; first | rwa [add_block] at this | exact this) GW309.out))) _).trans (((cell_far (p := ⟨gb309, _, none⟩) (by first | exact Nat.ne_of_lt (Nat.lt_of_lt_of_le (by have := World.block_lt_of_cell? _ _ hw305_1; first | rwa [add_block] at this | exact this) GW309.out) | (rw [add_block]; exact Nat.ne_of_lt (Nat.lt_of_lt_of_le (by have := World.block_lt_of_cell? _ _ hw305_1; first | rwa [add_block] at this | exact this) GW309.out)) | (show (Addr.add _ _).block ≠ _; rw [add_block]; exact Nat.ne_of_lt (Nat.lt_of_lt_of_le (by have := World.block_lt_of_cell? _ _ hw305_1; first | rwa [add_block] at this | exact this) GW309.out)) | (dsimp only; exact Nat.ne_of_lt (Nat.lt_of_lt_of_le (by have := World.block_lt_of_cell? _ _ hw305_1; first | rwa [add_block] at this | exact this) GW309.out))) _).trans (hHeld.2.2.2.2.2.2.2.2.2.1)))))), ((cell_far (p := ⟨gb309, _, none⟩) (by first | exact Nat.ne_of_lt (Nat.lt_of_lt_of_le (by have := World.block_lt_of_cell? _ _ hw305_2; first | rwa [add_block] at this | exact this) GW309.out) | (rw [add_block]; exact Nat.ne_of_lt (Nat.lt_of_lt_of_le (by have := World.block_lt_of_cell? _ _ hw305_2; first | rwa [add_block] at this | exact this) GW309.out)) | (show (Addr.add _ _).block ≠ _; rw [add_block]; exact Nat.ne_of_lt (Nat.lt_of_lt_of_le (by have := World.block_lt_of_cell? _ _ hw305_2; first | rwa [add_block] at this | exact this) GW309.out)) | (dsimp only; exact Nat.ne_of_lt (Nat.lt_of_lt_of_le (by have := World.block_lt_of_cell? _ _ hw305_2; first | rwa [add_block] at this | exact this) GW309.out))) _).trans (((cell_far (p := ⟨gb309, _, none⟩) (by first | exact Nat.ne_of_lt (Nat.lt_of_lt_of_le (by have := World.block_lt_of_cell? _ _ hw305_2; first | rwa [add_block] at this | exact this) GW309.out) | (rw [add_block]; exact Nat.ne_of_lt (Nat.lt_of_lt_of_le (by have := World.block_lt_of_cell? _ _ hw305_2; first | rwa [add_block] at this | exact this) GW309.out)) | (show (Addr.add _ _).block ≠ _; rw [add_block]; exact Nat.ne_of_lt (Nat.lt_of_lt_of_le (by have := World.block_lt_of_cell? _ _ hw305_2; first | rwa [add_block] at this | exact this) GW309.out)) | (dsimp only; exact Nat.ne_of_lt (Nat.lt_of_lt_of_le (by have := World.block_lt_of_cell? _ _ hw305_2; first | rwa [add_block] at this | exact this) GW309.out))) _).trans (((cell_far (p := ⟨gb309, _, none⟩) (by first | exact Nat.ne_of_lt (Nat.lt_of_lt_of_le (by have := World.block_lt_of_cell? _ _ hw305_2; first | rwa [add_block] at this | exact this) GW309.out) | (rw [add_block]; exact Nat.ne_of_lt (Nat.lt_of_lt_of_le (by have := World.block_lt_of_cell? _ _ hw305_2; first | rwa [add_block] at this | exact this) GW309.out)) | (show (Addr.add _ _).block ≠ _; rw [add_block]; exact Nat.ne_of_lt (Nat.lt_of_lt_of_le (by have := World.block_lt_of_cell? _ _ hw305_2; first | rwa [add_block] at this | exact this) GW309.out)) | (dsimp only; exact Nat.ne_of_lt (Nat.lt_of_lt_of_le (by have := World.block_lt_of_cell? _ _ hw305_2; first | rwa [add_block] at this | exact this) GW309.out))) _).trans (hHeld.2.2.2.2.2.2.2.2.2.2.1)))))), ((cell_far (p := ⟨gb309, _, none⟩) (by first | exact Nat.ne_of_lt (Nat.lt_of_lt_of_le (by have := World.block_lt_of_cell? _ _ hw305_3; first | rwa [add_block] at this | exact this) GW309.out) | (rw [add_block]; exact Nat.ne_of_lt (Nat.lt_of_lt_of_le (by have := World.block_lt_of_cell? _ _ hw305_3; first | rwa [add_block] at this | exact this) GW309.out)) | (show (Addr.add _ _).block ≠ _; rw [add_block]; exact Nat.ne_of_lt (Nat.lt_of_lt_of_le (by have := World.block_lt_of_cell? _ _ hw305_3; first | rwa [add_block] at this | exact this) GW309.out)) | (dsimp only; exact Nat.ne_of_lt (Nat.lt_of_lt_of_le (by have := World.block_lt_of_cell? _ _ hw305_3; first | rwa [add_block] at this | exact this) GW309.out))) _).trans (((cell_far (p := ⟨gb309, _, none⟩) (by first | exact Nat.ne_of_lt (Nat.lt_of_lt_of_le (by have := World.block_lt_of_cell? _ _ hw305_3; first | rwa [add_block] at this | exact this) GW309.out) | (rw [add_block]; exact Nat.ne_of_lt (Nat.lt_of_lt_of_le (by have := World.block_lt_of_cell? _ _ hw305_3; first | rwa [add_block] at this | exact this) GW309.out)) | (show (Addr.add _ _).block ≠ _; rw [add_block]; exact Nat.ne_of_lt (Nat.lt_of_lt_of_le (by have := World.block_lt_of_cell? _ _ hw305_3; first | rwa [add_block] at this | exact this) GW309.out)) | (dsimp only; exact Nat.ne_of_lt (Nat.lt_of_lt_of_le (by have := World.block_lt_of_cell? _ _ hw305_3; first | rwa [add_block] at this | exact this) GW309.out))) _).trans (((cell_far (p := ⟨gb309, _, none⟩) (by first | exact Nat.ne_of_lt (Nat.lt_of_lt_of_le (by have := World.block_lt_of_cell? _ _ hw305_3; first | rwa [add_block] at this | exact this) GW309.out) | (rw [add_block]; exact Nat.ne_of_lt (Nat.lt_of_lt_of_le (by have := World.block_lt_of_cell? _ _ hw305_3; first | rwa [add_block] at this | exact this) GW309.out)) | (show (Addr.add _ _).block ≠ _; rw [add_block]; exact Nat.ne_of_lt (Nat.lt_of_lt_of_le (by have := World.block_lt_of_cell? _ _ hw305_3; first | rwa [add_block] at this | exact this) GW309.out)) | (dsimp only; exact Nat.ne_of_lt (Nat.lt_of_lt_of_le (by have := World.block_lt_of_cell? _ _ hw305_3; first | rwa [add_block] at this | exact this) GW309.out))) _).trans (hHeld.2.2.2.2.2.2.2.2.2.2.2.1)))))), ((cell_far (p := ⟨gb309, _, none⟩) (by first | exact Nat.ne_of_lt (Nat.lt_of_lt_of_le (by have := World.block_lt_of_cell? _ _ hw305_4; first | rwa [add_block] at this | exact this) GW309.out) | (rw [add_block]; exact Nat.ne_of_lt (Nat.lt_of_lt_of_le (by have := World.block_lt_of_cell? _ _ hw305_4; first | rwa [add_block] at this | exact this) GW309.out)) | (show (Addr.add _ _).block ≠ _; rw [add_block]; exact Nat.ne_of_lt (Nat.lt_of_lt_of_le (by have := World.block_lt_of_cell? _ _ hw305_4; first | rwa [add_block] at this | exact this) GW309.out)) | (dsimp only; exact Nat.ne_of_lt (Nat.lt_of_lt_of_le (by have := World.block_lt_of_cell? _ _ hw305_4; first | rwa [add_block] at this | exact this) GW309.out))) _).trans (((cell_far (p := ⟨gb309, _, none⟩) (by first | exact Nat.ne_of_lt (Nat.lt_of_lt_of_le (by have := World.block_lt_of_cell? _ _ hw305_4; first | rwa [add_block] at this | exact this) GW309.out) | (rw [add_block]; exact Nat.ne_of_lt (Nat.lt_of_lt_of_le (by have := World.block_lt_of_cell? _ _ hw305_4; first | rwa [add_block] at this | exact this) GW309.out)) | (show (Addr.add _ _).block ≠ _; rw [add_block]; exact Nat.ne_of_lt (Nat.lt_of_lt_of_le (by have := World.block_lt_of_cell? _ _ hw305_4; first | rwa [add_block] at this | exact this) GW309.out)) | (dsimp only; exact Nat.ne_of_lt (Nat.lt_of_lt_of_le (by have := World.block_lt_of_cell? _ _ hw305_4; first | rwa [add_block] at this | exact this) GW309.out))) _).trans (((cell_far (p := ⟨gb309, _, none⟩) (by first | exact Nat.ne_of_lt (Nat.lt_of_lt_of_le (by have := World.block_lt_of_cell? _ _ hw305_4; first | rwa [add_block] at this | exact this) GW309.out) | (rw [add_block]; exact Nat.ne_of_lt (Nat.lt_of_lt_of_le (by have := World.block_lt_of_cell? _ _ hw305_4; first | rwa [add_block] at this | exact this) GW309.out)) | (show (Addr.add _ _).block ≠ _; rw [add_block]; exact Nat.ne_of_lt (Nat.lt_of_lt_of_le (by have := World.block_lt_of_cell? _ _ hw305_4; first | rwa [add_block] at this | exact this) GW309.out)) | (dsimp only; exact Nat.ne_of_lt (Nat.lt_of_lt_of_le (by have := World.block_lt_of_cell? _ _ hw305_4; first | rwa [add_block] at this | exact this) GW309.out))) _).trans (hHeld.2.2.2.2.2.2.2.2.2.2.2.2.1)))))), ((cell_far (p := ⟨gb309, _, none⟩) (by first | exact Nat.ne_of_lt (Nat.lt_of_lt_of_le (by have := World.block_lt_of_cell? _ _ hw305_5; first | rwa [add_block] at this | exact this) GW309.out) | (rw [add_block]; exact Nat.ne_of_lt (Nat.lt_of_lt_of_le (by have := World.block_lt_of_cell? _ _ hw305_5; first | rwa [add_block] at this | exact this) GW309.out)) | (show (Addr.add _ _).block ≠ _; rw [add_block]; exact Nat.ne_of_lt (Nat.lt_of_lt_of_le (by have := World.block_lt_of_cell? _ _ hw305_5; first | rwa [add_block] at this | exact this) GW309.out)) | (dsimp only; exact Nat.ne_of_lt (Nat.lt_of_lt_of_le (by have := World.block_lt_of_cell? _ _ hw305_5; first | rwa [add_block] at this | exact this) GW309.out))) _).trans (((cell_far (p := ⟨gb309, _, none⟩) (by first | exact Nat.ne_of_lt (Nat.lt_of_lt_of_le (by have := World.block_lt_of_cell? _ _ hw305_5; first | rwa [add_block] at this | exact this) GW309.out) | (rw [add_block]; exact Nat.ne_of_lt (Nat.lt_of_lt_of_le (by have := World.block_lt_of_cell? _ _ hw305_5; first | rwa [add_block] at this | exact this) GW309.out)) | (show (Addr.add _ _).block ≠ _; rw [add_block]; exact Nat.ne_of_lt (Nat.lt_of_lt_of_le (by have := World.block_lt_of_cell? _ _ hw305_5; first | rwa [add_block] at this | exact this) GW309.out)) | (dsimp only; exact Nat.ne_of_lt (Nat.lt_of_lt_of_le (by have := World.block_lt_of_cell? _ _ hw305_5; first | rwa [add_block] at this | exact this) GW309.out))) _).trans (((cell_far (p := ⟨gb309, _, none⟩) (by first | exact Nat.ne_of_lt (Nat.lt_of_lt_of_le (by have := World.block_lt_of_cell? _ _ hw305_5; first | rwa [add_block] at this | exact this) GW309.out) | (rw [add_block]; exact Nat.ne_of_lt (Nat.lt_of_lt_of_le (by have := World.block_lt_of_cell? _ _ hw305_5; first | rwa [add_block] at this | exact this) GW309.out)) | (show (Addr.add _ _).block ≠ _; rw [add_block]; exact Nat.ne_of_lt (Nat.lt_of_lt_of_le (by have := World.block_lt_of_cell? _ _ hw305_5; first | rwa [add_block] at this | exact this) GW309.out)) | (dsimp only; exact Nat.ne_of_lt (Nat.lt_of_lt_of_le (by have := World.block_lt_of_cell? _ _ hw305_5; first | rwa [add_block] at this | exact this) GW309.out))) _).trans (hHeld.2.2.2.2.2.2.2.2.2.2.2.2.2.1)))))), ((cell_far (p := ⟨gb309, _, none⟩) (by first | exact Nat.ne_of_lt (Nat.lt_of_lt_of_le (by have := World.block_lt_of_cell? _ _ hw305_6; first | rwa [add_block] at this | exact this) GW309.out) | (rw [add_block]; exact Nat.ne_of_lt (Nat.lt_of_lt_of_le (by have := World.block_lt_of_cell? _ _ hw305_6; first | rwa [add_block] at this | exact this) GW309.out)) | (show (Addr.add _ _).block ≠ _; rw [add_block]; exact Nat.ne_of_lt (Nat.lt_of_lt_of_le (by have := World.block_lt_of_cell? _ _ hw305_6; first | rwa [add_block] at this | exact this) GW309.out)) | (dsimp only; exact Nat.ne_of_lt (Nat.lt_of_lt_of_le (by have := World.block_lt_of_cell? _ _ hw305_6; first | rwa [add_block] at this | exact this) GW309.out))) _).trans (((cell_far (p := ⟨gb309, _, none⟩) (by first | exact Nat.ne_of_lt (Nat.lt_of_lt_of_le (by have := World.block_lt_of_cell? _ _ hw305_6; first | rwa [add_block] at this | exact this) GW309.out) | (rw [add_block]; exact Nat.ne_of_lt (Nat.lt_of_lt_of_le (by have := World.block_lt_of_cell? _ _ hw305_6; first | rwa [add_block] at this | exact this) GW309.out)) | (show (Addr.add _ _).block ≠ _; rw [add_block]; exact Nat.ne_of_lt (Nat.lt_of_lt_of_le (by have := World.block_lt_of_cell? _ _ hw305_6; first | rwa [add_block] at this | exact this) GW309.out)) | (dsimp only; exact Nat.ne_of_lt (Nat.lt_of_lt_of_le (by have := World.block_lt_of_cell? _ _ hw305_6; first | rwa [add_block] at this | exact this) GW309.out))) _).trans (((cell_far (p := ⟨gb309, _, none⟩) (by first | exact Nat.ne_of_lt (Nat.lt_of_lt_of_le (by have := World.block_lt_of_cell? _ _ hw305_6; first | rwa [add_block] at this | exact this) GW309.out) | (rw [add_block]; exact Nat.ne_of_lt (Nat.lt_of_lt_of_le (by have := World.block_lt_of_cell? _ _ hw305_6; first | rwa [add_block] at this | exact this) GW309.out)) | (show (Addr.add _ _).block ≠ _; rw [add_block]; exact Nat.ne_of_lt (Nat.lt_of_lt_of_le (by have := World.block_lt_of_cell? _ _ hw305_6; first | rwa [add_block] at this | exact this) GW309.out)) | (dsimp only; exact Nat.ne_of_lt (Nat.lt_of_lt_of_le (by have := World.block_lt_of_cell? _ _ hw305_6; first | rwa [add_block] at this | exact this) GW309.out))) _).trans (hHeld.2.2.2.2.2.2.2.2.2.2.2.2.2.2.1)))))), ((cell_far (p := ⟨gb309, _, none⟩) (by first | exact Nat.ne_of_lt (Nat.lt_of_lt_of_le (by have := World.block_lt_of_cell? _ _ hw305_7; first | rwa [add_block] at this | exact this) GW309.out) | (rw [add_block]; exact Nat.ne_of_lt (Nat.lt_of_lt_of_le (by have := World.block_lt_of_cell? _ _ hw305_7; first | rwa [add_block] at this | exact this) GW309.out)) | (show (Addr.add _ _).block ≠ _; rw [add_block]; exact Nat.ne_of_lt (Nat.lt_of_lt_of_le (by have := World.block_lt_of_cell? _ _ hw305_7; first | rwa [add_block] at this | exact this) GW309.out)) | (dsimp only; exact Nat.ne_of_lt (Nat.lt_of_lt_of_le (by have := World.block_lt_of_cell? _ _ hw305_7; first | rwa [add_block] at this | exact this) GW309.out))) _).trans (((cell_far (p := ⟨gb309, _, none⟩) (by first | exact Nat.ne_of_lt (Nat.lt_of_lt_of_le (by have := World.block_lt_of_cell? _ _ hw305_7; first | rwa [add_block] at this | exact this) GW309.out) | (rw [add_block]; exact Nat.ne_of_lt (Nat.lt_of_lt_of_le (by have := World.block_lt_of_cell? _ _ hw305_7; first | rwa [add_block] at this | exact this) GW309.out)) | (show (Addr.add _ _).block ≠ _; rw [add_block]; exact Nat.ne_of_lt (Nat.lt_of_lt_of_le (by have := World.block_lt_of_cell? _ _ hw305_7; first | rwa [add_block] at this | exact this) GW309.out)) | (dsimp only; exact Nat.ne_of_lt (Nat.lt_of_lt_of_le (by have := World.block_lt_of_cell? _ _ hw305_7; first | rwa [add_block] at this | exact this) GW309.out))) _).trans (((cell_far (p := ⟨gb309, _, none⟩) (by first | exact Nat.ne_of_lt (Nat.lt_of_lt_of_le (by have := World.block_lt_of_cell? _ _ hw305_7; first | rwa [add_block] at this | exact this) GW309.out) | (rw [add_block]; exact Nat.ne_of_lt (Nat.lt_of_lt_of_le (by have := World.block_lt_of_cell? _ _ hw305_7; first | rwa [add_block] at this | exact this) GW309.out)) | (show (Addr.add _ _).block ≠ _; rw [add_block]; exact Nat.ne_of_lt (Nat.lt_of_lt_of_le (by have := World.block_lt_of_cell? _ _ hw305_7; first | rwa [add_block] at this | exact this) GW309.out)) | (dsimp only; exact Nat.ne_of_lt (Nat.lt_of_lt_of_le (by have := World.block_lt_of_cell? _ _ hw305_7; first | rwa [add_block] at this | exact this) GW309.out))) _).trans (hHeld.2.2.2.2.2.2.2.2.2.2.2.2.2.2.2))))))⟩ (fun hHeld => ?_)
            clear hK K
            refine done_ (done_of HT_.out (by kernel_rfl)) ?_
            have p310 : 0 ≤ (x8_1 : Int) := of_decide_eq_true (by first | (with_reducible assumption) | assumption)
            have q310 : x8_1 < (l2.length : Int) := of_decide_eq_true (by first | (with_reducible assumption) | assumption)
            obtain ⟨ad310, A310_6, c310_6, A310_7, c310_7, e310, hx310_0, hx310_1, hx310_2, hx310_3, hx310_4, hx310_5, hx310_6, hx310_7, hl310_6, hi310_6, hl310_7, hi310_7⟩ := at_T31 HR2.out x8_1 p310 q310
            obtain rfl : ad302 = ad310 := (by injection e310)
            have hn310_0 : ad302.block ≠ gb309 := Nat.ne_of_lt (Nat.lt_of_lt_of_le (by have := World.block_lt_of_cell? _ _ hx310_0; first | rwa [add_block] at this | exact this) GW309.out)
            have hn310_1 : ad302.block ≠ gb309 := Nat.ne_of_lt (Nat.lt_of_lt_of_le (by have := World.block_lt_of_cell? _ _ hx310_0; first | rwa [add_block] at this | exact this) GW309.out)
            have hn310_2 : ad302.block ≠ gb309 := Nat.ne_of_lt (Nat.lt_of_lt_of_le (by have := World.block_lt_of_cell? _ _ hx310_0; first | rwa [add_block] at this | exact this) GW309.out)
            replace hx310_0 := (HB.out.cell (World.block_lt_of_cell? w _ hx310_0)).trans hx310_0
            replace hx310_1 := (HB.out.cell (World.block_lt_of_cell? w _ hx310_1)).trans hx310_1
            replace hx310_2 := (HB.out.cell (World.block_lt_of_cell? w _ hx310_2)).trans hx310_2
            replace hx310_3 := (HB.out.cell (World.block_lt_of_cell? w _ hx310_3)).trans hx310_3
            replace hx310_4 := (HB.out.cell (World.block_lt_of_cell? w _ hx310_4)).trans hx310_4
            replace hx310_5 := (HB.out.cell (World.block_lt_of_cell? w _ hx310_5)).trans hx310_5
            replace hx310_6 := (HB.out.cell (World.block_lt_of_cell? w _ hx310_6)).trans hx310_6
            replace hx310_7 := (HB.out.cell (World.block_lt_of_cell? w _ hx310_7)).trans hx310_7
            have HR310_6 := Aside0.mk hi310_6
            have HC310_6 := Aside0.mk hl310_6
            clear hi310_6 hl310_6
            have HR310_7 := Aside0.mk hi310_7
            have HC310_7 := Aside0.mk hl310_7
            clear hi310_7 hl310_7
            replace hx310_0 := (cell_far (p := ⟨gb309, 0, none⟩) (by first | (rw [add_block]; exact hn310_0) | (show (Addr.add _ _).block ≠ _; rw [add_block]; exact hn310_0) | exact hn310_0) (.int .i64 a1)).trans hx310_0
            replace hx310_1 := (cell_far (p := ⟨gb309, 0, none⟩) (by first | (rw [add_block]; exact hn310_0) | (show (Addr.add _ _).block ≠ _; rw [add_block]; exact hn310_0) | exact hn310_0) (.int .i64 a1)).trans hx310_1
            replace hx310_2 := (cell_far (p := ⟨gb309, 0, none⟩) (by first | (rw [add_block]; exact hn310_0) | (show (Addr.add _ _).block ≠ _; rw [add_block]; exact hn310_0) | exact hn310_0) (.int .i64 a1)).trans hx310_2
            replace hx310_3 := (cell_far (p := ⟨gb309, 0, none⟩) (by first | (rw [add_block]; exact hn310_0) | (show (Addr.add _ _).block ≠ _; rw [add_block]; exact hn310_0) | exact hn310_0) (.int .i64 a1)).trans hx310_3
            replace hx310_4 := (cell_far (p := ⟨gb309, 0, none⟩) (by first | (rw [add_block]; exact hn310_0) | (show (Addr.add _ _).block ≠ _; rw [add_block]; exact hn310_0) | exact hn310_0) (.int .i64 a1)).trans hx310_4
            replace hx310_5 := (cell_far (p := ⟨gb309, 0, none⟩) (by first | (rw [add_block]; exact hn310_0) | (show (Addr.add _ _).block ≠ _; rw [add_block]; exact hn310_0) | exact hn310_0) (.int .i64 a1)).trans hx310_5
            replace hx310_6 := (cell_far (p := ⟨gb309, 0, none⟩) (by first | (rw [add_block]; exact hn310_0) | (show (Addr.add _ _).block ≠ _; rw [add_block]; exact hn310_0) | exact hn310_0) (.int .i64 a1)).trans hx310_6
            replace hx310_7 := (cell_far (p := ⟨gb309, 0, none⟩) (by first | (rw [add_block]; exact hn310_0) | (show (Addr.add _ _).block ≠ _; rw [add_block]; exact hn310_0) | exact hn310_0) (.int .i64 a1)).trans hx310_7
            replace hx310_0 := (cell_far (p := ⟨gb309, 1, none⟩) (by first | (rw [add_block]; exact hn310_1) | (show (Addr.add _ _).block ≠ _; rw [add_block]; exact hn310_1) | exact hn310_1) (.int .i64 ((rd_T31 l2 x8_1).f0))).trans hx310_0
            replace hx310_1 := (cell_far (p := ⟨gb309, 1, none⟩) (by first | (rw [add_block]; exact hn310_1) | (show (Addr.add _ _).block ≠ _; rw [add_block]; exact hn310_1) | exact hn310_1) (.int .i64 ((rd_T31 l2 x8_1).f0))).trans hx310_1
            replace hx310_2 := (cell_far (p := ⟨gb309, 1, none⟩) (by first | (rw [add_block]; exact hn310_1) | (show (Addr.add _ _).block ≠ _; rw [add_block]; exact hn310_1) | exact hn310_1) (.int .i64 ((rd_T31 l2 x8_1).f0))).trans hx310_2
            replace hx310_3 := (cell_far (p := ⟨gb309, 1, none⟩) (by first | (rw [add_block]; exact hn310_1) | (show (Addr.add _ _).block ≠ _; rw [add_block]; exact hn310_1) | exact hn310_1) (.int .i64 ((rd_T31 l2 x8_1).f0))).trans hx310_3
            replace hx310_4 := (cell_far (p := ⟨gb309, 1, none⟩) (by first | (rw [add_block]; exact hn310_1) | (show (Addr.add _ _).block ≠ _; rw [add_block]; exact hn310_1) | exact hn310_1) (.int .i64 ((rd_T31 l2 x8_1).f0))).trans hx310_4
            replace hx310_5 := (cell_far (p := ⟨gb309, 1, none⟩) (by first | (rw [add_block]; exact hn310_1) | (show (Addr.add _ _).block ≠ _; rw [add_block]; exact hn310_1) | exact hn310_1) (.int .i64 ((rd_T31 l2 x8_1).f0))).trans hx310_5
            replace hx310_6 := (cell_far (p := ⟨gb309, 1, none⟩) (by first | (rw [add_block]; exact hn310_1) | (show (Addr.add _ _).block ≠ _; rw [add_block]; exact hn310_1) | exact hn310_1) (.int .i64 ((rd_T31 l2 x8_1).f0))).trans hx310_6
            replace hx310_7 := (cell_far (p := ⟨gb309, 1, none⟩) (by first | (rw [add_block]; exact hn310_1) | (show (Addr.add _ _).block ≠ _; rw [add_block]; exact hn310_1) | exact hn310_1) (.int .i64 ((rd_T31 l2 x8_1).f0))).trans hx310_7
            replace hx310_0 := (cell_far (p := ⟨gb309, 2, none⟩) (by first | (rw [add_block]; exact hn310_2) | (show (Addr.add _ _).block ≠ _; rw [add_block]; exact hn310_2) | exact hn310_2) (.string (strOfNums t306))).trans hx310_0
            replace hx310_1 := (cell_far (p := ⟨gb309, 2, none⟩) (by first | (rw [add_block]; exact hn310_2) | (show (Addr.add _ _).block ≠ _; rw [add_block]; exact hn310_2) | exact hn310_2) (.string (strOfNums t306))).trans hx310_1
            replace hx310_2 := (cell_far (p := ⟨gb309, 2, none⟩) (by first | (rw [add_block]; exact hn310_2) | (show (Addr.add _ _).block ≠ _; rw [add_block]; exact hn310_2) | exact hn310_2) (.string (strOfNums t306))).trans hx310_2
            replace hx310_3 := (cell_far (p := ⟨gb309, 2, none⟩) (by first | (rw [add_block]; exact hn310_2) | (show (Addr.add _ _).block ≠ _; rw [add_block]; exact hn310_2) | exact hn310_2) (.string (strOfNums t306))).trans hx310_3
            replace hx310_4 := (cell_far (p := ⟨gb309, 2, none⟩) (by first | (rw [add_block]; exact hn310_2) | (show (Addr.add _ _).block ≠ _; rw [add_block]; exact hn310_2) | exact hn310_2) (.string (strOfNums t306))).trans hx310_4
            replace hx310_5 := (cell_far (p := ⟨gb309, 2, none⟩) (by first | (rw [add_block]; exact hn310_2) | (show (Addr.add _ _).block ≠ _; rw [add_block]; exact hn310_2) | exact hn310_2) (.string (strOfNums t306))).trans hx310_5
            replace hx310_6 := (cell_far (p := ⟨gb309, 2, none⟩) (by first | (rw [add_block]; exact hn310_2) | (show (Addr.add _ _).block ≠ _; rw [add_block]; exact hn310_2) | exact hn310_2) (.string (strOfNums t306))).trans hx310_6
            replace hx310_7 := (cell_far (p := ⟨gb309, 2, none⟩) (by first | (rw [add_block]; exact hn310_2) | (show (Addr.add _ _).block ≠ _; rw [add_block]; exact hn310_2) | exact hn310_2) (.string (strOfNums t306))).trans hx310_7
            clear hn310_0
            clear hn310_1
            clear hn310_2
            replace p310 := eq_true p310
            replace q310 := eq_true q310
            go_upto_region 9 with (fail)
            go_cut [61] (fun v61 wc => ∃ (kq : Nat) (x61_8 : Bool), v61 = .bool x61_8 ∧ Aside0 (becketref18_Send.j1 kq a0 a1 l2 x7_1 x8_1 ((rd_T31 l2 x8_1).f0) x61_8 a1 ((rd_T31 l2 x8_1).f0) (strOfNums t306) = some r) ∧ Aside0 (kq ≤ k1) ∧ Aside0 (Kd.R k41 41 wc w.heap.size (fun k_ => k_ ≠ gb309) u7 x7_1) ∧ Aside0 (wc.heap[gb309]? = some (.cells #[.int .i64 a1, .int .i64 ((rd_T31 l2 x8_1).f0), .string (strOfNums t306)] 41 (0, 0))) ∧ Aside0 (Below w.heap.size w wc))
            case first =>
              have H := HC9.out
              clear HC9
              by_cases c19 : ((rd_T31 l2 x8_1).f0) ≥ 0
              · rw [if_pos c19] at H
                have c19b0 : decide (0 ≤ ((rd_T31 l2 x8_1).f0)) = true := decide_eq_true c19
                clear c19
                (first | rw [c19b0] | (simp only [i64_w, i32_w]; rw [c19b0]) | skip)
                by_cases c20 : ((rd_T31 l2 x8_1).f0) ≤ (wrap64 (3 * a0))
                · rw [if_pos c20] at H
                  have c20b0 : decide (((rd_T31 l2 x8_1).f0) ≤ (wrap64 (3 * a0))) = true := decide_eq_true c20
                  clear c20
                  have H' := Aside0.mk H
                  clear H
                  go_wp2
                  go_meet
                  case rel => exact ⟨_, (true), (by first | rfl | (simp; done) | (simp [*]; done)), H', ⟨by have := HK1.out; first | omega | exact Nat.le_refl _⟩, ⟨by (with_reducible repeat (first | apply Kd.R_alloc | apply Kd.R_drewN | apply Kd.R_drew)); exact Kd.R_mono (Kd.R_far (p := ⟨gb309, 2, none⟩) (Kd.R_far (p := ⟨gb309, 1, none⟩) (Kd.R_far (p := ⟨gb309, 0, none⟩) (Kd.R_mono HO_7.out (fun k_ hk => (⟨hk, hk⟩ : _ ∧ k_ ≠ gb309))) (fun _ hk => hk.2) (.int .i64 a1)) (fun _ hk => hk.2) (.int .i64 ((rd_T31 l2 x8_1).f0))) (fun _ hk => hk.2) (.string (strOfNums t306))) (fun _ hk => hk.1)⟩, ⟨by (with_reducible repeat (first | refine blk_drewN ?_ _ | refine blk_drew ?_ | refine blk_alloc ?_ _)); refine blk_put (cs := #[.int .i64 a1, .int .i64 ((rd_T31 l2 x8_1).f0), .string (⟨#[]⟩ : ByteArray)]) ?_ 2 _ rfl; (with_reducible repeat (first | refine blk_drewN ?_ _ | refine blk_drew ?_ | refine blk_alloc ?_ _)); refine blk_put (cs := #[.int .i64 a1, .int .i64 0, .string (⟨#[]⟩ : ByteArray)]) ?_ 1 _ rfl; (with_reducible repeat (first | refine blk_drewN ?_ _ | refine blk_drew ?_ | refine blk_alloc ?_ _)); refine blk_put (cs := #[.int .i64 0, .int .i64 0, .string (⟨#[]⟩ : ByteArray)]) ?_ 0 _ rfl; (with_reducible repeat (first | refine blk_drewN ?_ _ | refine blk_drew ?_ | refine blk_alloc ?_ _)); exact BK309.out⟩, ⟨by repeat (first | (with_reducible first | exact HB.out | apply below_alloc | apply pw_below_drewN | apply below_drew1 | refine below_set ?_ GE309.out) | exact HB.out)⟩⟩
                · rw [if_neg c20] at H
                  have c20b0 : decide (((rd_T31 l2 x8_1).f0) ≤ (wrap64 (3 * a0))) = false := decide_eq_false c20
                  clear c20
                  by_cases c21 : ((rd_T31 l2 x8_1).f0) ≥ 100
                  · rw [if_pos c21] at H
                    have c21b0 : decide (100 ≤ ((rd_T31 l2 x8_1).f0)) = true := decide_eq_true c21
                    clear c21
                    have H' := Aside0.mk H
                    clear H
                    go_wp2
                    go_meet
                    case rel => exact ⟨_, (decide (((rd_T31 l2 x8_1).f0) ≤ 107)), (by first | rfl | (simp; done) | (simp [*]; done)), H', ⟨by have := HK1.out; first | omega | exact Nat.le_refl _⟩, ⟨by (with_reducible repeat (first | apply Kd.R_alloc | apply Kd.R_drewN | apply Kd.R_drew)); exact Kd.R_mono (Kd.R_far (p := ⟨gb309, 2, none⟩) (Kd.R_far (p := ⟨gb309, 1, none⟩) (Kd.R_far (p := ⟨gb309, 0, none⟩) (Kd.R_mono HO_7.out (fun k_ hk => (⟨hk, hk⟩ : _ ∧ k_ ≠ gb309))) (fun _ hk => hk.2) (.int .i64 a1)) (fun _ hk => hk.2) (.int .i64 ((rd_T31 l2 x8_1).f0))) (fun _ hk => hk.2) (.string (strOfNums t306))) (fun _ hk => hk.1)⟩, ⟨by (with_reducible repeat (first | refine blk_drewN ?_ _ | refine blk_drew ?_ | refine blk_alloc ?_ _)); refine blk_put (cs := #[.int .i64 a1, .int .i64 ((rd_T31 l2 x8_1).f0), .string (⟨#[]⟩ : ByteArray)]) ?_ 2 _ rfl; (with_reducible repeat (first | refine blk_drewN ?_ _ | refine blk_drew ?_ | refine blk_alloc ?_ _)); refine blk_put (cs := #[.int .i64 a1, .int .i64 0, .string (⟨#[]⟩ : ByteArray)]) ?_ 1 _ rfl; (with_reducible repeat (first | refine blk_drewN ?_ _ | refine blk_drew ?_ | refine blk_alloc ?_ _)); refine blk_put (cs := #[.int .i64 0, .int .i64 0, .string (⟨#[]⟩ : ByteArray)]) ?_ 0 _ rfl; (with_reducible repeat (first | refine blk_drewN ?_ _ | refine blk_drew ?_ | refine blk_alloc ?_ _)); exact BK309.out⟩, ⟨by repeat (first | (with_reducible first | exact HB.out | apply below_alloc | apply pw_below_drewN | apply below_drew1 | refine below_set ?_ GE309.out) | exact HB.out)⟩⟩
                  · rw [if_neg c21] at H
                    have c21b0 : decide (100 ≤ ((rd_T31 l2 x8_1).f0)) = false := decide_eq_false c21
                    clear c21
                    have H' := Aside0.mk H
                    clear H
                    go_wp2
                    go_meet
                    case rel => exact ⟨_, (false), (by first | rfl | (simp; done) | (simp [*]; done)), H', ⟨by have := HK1.out; first | omega | exact Nat.le_refl _⟩, ⟨by (with_reducible repeat (first | apply Kd.R_alloc | apply Kd.R_drewN | apply Kd.R_drew)); exact Kd.R_mono (Kd.R_far (p := ⟨gb309, 2, none⟩) (Kd.R_far (p := ⟨gb309, 1, none⟩) (Kd.R_far (p := ⟨gb309, 0, none⟩) (Kd.R_mono HO_7.out (fun k_ hk => (⟨hk, hk⟩ : _ ∧ k_ ≠ gb309))) (fun _ hk => hk.2) (.int .i64 a1)) (fun _ hk => hk.2) (.int .i64 ((rd_T31 l2 x8_1).f0))) (fun _ hk => hk.2) (.string (strOfNums t306))) (fun _ hk => hk.1)⟩, ⟨by (with_reducible repeat (first | refine blk_drewN ?_ _ | refine blk_drew ?_ | refine blk_alloc ?_ _)); refine blk_put (cs := #[.int .i64 a1, .int .i64 ((rd_T31 l2 x8_1).f0), .string (⟨#[]⟩ : ByteArray)]) ?_ 2 _ rfl; (with_reducible repeat (first | refine blk_drewN ?_ _ | refine blk_drew ?_ | refine blk_alloc ?_ _)); refine blk_put (cs := #[.int .i64 a1, .int .i64 0, .string (⟨#[]⟩ : ByteArray)]) ?_ 1 _ rfl; (with_reducible repeat (first | refine blk_drewN ?_ _ | refine blk_drew ?_ | refine blk_alloc ?_ _)); refine blk_put (cs := #[.int .i64 0, .int .i64 0, .string (⟨#[]⟩ : ByteArray)]) ?_ 0 _ rfl; (with_reducible repeat (first | refine blk_drewN ?_ _ | refine blk_drew ?_ | refine blk_alloc ?_ _)); exact BK309.out⟩, ⟨by repeat (first | (with_reducible first | exact HB.out | apply below_alloc | apply pw_below_drewN | apply below_drew1 | refine below_set ?_ GE309.out) | exact HB.out)⟩⟩
              · rw [if_neg c19] at H
                have c19b0 : decide (0 ≤ ((rd_T31 l2 x8_1).f0)) = false := decide_eq_false c19
                clear c19
                (first | rw [c19b0] | (simp only [i64_w, i32_w]; rw [c19b0]) | skip)
                by_cases c22 : ((rd_T31 l2 x8_1).f0) ≥ 100
                · rw [if_pos c22] at H
                  have c22b0 : decide (100 ≤ ((rd_T31 l2 x8_1).f0)) = true := decide_eq_true c22
                  clear c22
                  have H' := Aside0.mk H
                  clear H
                  go_wp2
                  go_meet
                  case rel => exact ⟨_, (decide (((rd_T31 l2 x8_1).f0) ≤ 107)), (by first | rfl | (simp; done) | (simp [*]; done)), H', ⟨by have := HK1.out; first | omega | exact Nat.le_refl _⟩, ⟨by (with_reducible repeat (first | apply Kd.R_alloc | apply Kd.R_drewN | apply Kd.R_drew)); exact Kd.R_mono (Kd.R_far (p := ⟨gb309, 2, none⟩) (Kd.R_far (p := ⟨gb309, 1, none⟩) (Kd.R_far (p := ⟨gb309, 0, none⟩) (Kd.R_mono HO_7.out (fun k_ hk => (⟨hk, hk⟩ : _ ∧ k_ ≠ gb309))) (fun _ hk => hk.2) (.int .i64 a1)) (fun _ hk => hk.2) (.int .i64 ((rd_T31 l2 x8_1).f0))) (fun _ hk => hk.2) (.string (strOfNums t306))) (fun _ hk => hk.1)⟩, ⟨by (with_reducible repeat (first | refine blk_drewN ?_ _ | refine blk_drew ?_ | refine blk_alloc ?_ _)); refine blk_put (cs := #[.int .i64 a1, .int .i64 ((rd_T31 l2 x8_1).f0), .string (⟨#[]⟩ : ByteArray)]) ?_ 2 _ rfl; (with_reducible repeat (first | refine blk_drewN ?_ _ | refine blk_drew ?_ | refine blk_alloc ?_ _)); refine blk_put (cs := #[.int .i64 a1, .int .i64 0, .string (⟨#[]⟩ : ByteArray)]) ?_ 1 _ rfl; (with_reducible repeat (first | refine blk_drewN ?_ _ | refine blk_drew ?_ | refine blk_alloc ?_ _)); refine blk_put (cs := #[.int .i64 0, .int .i64 0, .string (⟨#[]⟩ : ByteArray)]) ?_ 0 _ rfl; (with_reducible repeat (first | refine blk_drewN ?_ _ | refine blk_drew ?_ | refine blk_alloc ?_ _)); exact BK309.out⟩, ⟨by repeat (first | (with_reducible first | exact HB.out | apply below_alloc | apply pw_below_drewN | apply below_drew1 | refine below_set ?_ GE309.out) | exact HB.out)⟩⟩
                · rw [if_neg c22] at H
                  have c22b0 : decide (100 ≤ ((rd_T31 l2 x8_1).f0)) = false := decide_eq_false c22
                  clear c22
                  have H' := Aside0.mk H
                  clear H
                  go_wp2
                  go_meet
                  case rel => exact ⟨_, (false), (by first | rfl | (simp; done) | (simp [*]; done)), H', ⟨by have := HK1.out; first | omega | exact Nat.le_refl _⟩, ⟨by (with_reducible repeat (first | apply Kd.R_alloc | apply Kd.R_drewN | apply Kd.R_drew)); exact Kd.R_mono (Kd.R_far (p := ⟨gb309, 2, none⟩) (Kd.R_far (p := ⟨gb309, 1, none⟩) (Kd.R_far (p := ⟨gb309, 0, none⟩) (Kd.R_mono HO_7.out (fun k_ hk => (⟨hk, hk⟩ : _ ∧ k_ ≠ gb309))) (fun _ hk => hk.2) (.int .i64 a1)) (fun _ hk => hk.2) (.int .i64 ((rd_T31 l2 x8_1).f0))) (fun _ hk => hk.2) (.string (strOfNums t306))) (fun _ hk => hk.1)⟩, ⟨by (with_reducible repeat (first | refine blk_drewN ?_ _ | refine blk_drew ?_ | refine blk_alloc ?_ _)); refine blk_put (cs := #[.int .i64 a1, .int .i64 ((rd_T31 l2 x8_1).f0), .string (⟨#[]⟩ : ByteArray)]) ?_ 2 _ rfl; (with_reducible repeat (first | refine blk_drewN ?_ _ | refine blk_drew ?_ | refine blk_alloc ?_ _)); refine blk_put (cs := #[.int .i64 a1, .int .i64 0, .string (⟨#[]⟩ : ByteArray)]) ?_ 1 _ rfl; (with_reducible repeat (first | refine blk_drewN ?_ _ | refine blk_drew ?_ | refine blk_alloc ?_ _)); refine blk_put (cs := #[.int .i64 0, .int .i64 0, .string (⟨#[]⟩ : ByteArray)]) ?_ 0 _ rfl; (with_reducible repeat (first | refine blk_drewN ?_ _ | refine blk_drew ?_ | refine blk_alloc ?_ _)); exact BK309.out⟩, ⟨by repeat (first | (with_reducible first | exact HB.out | apply below_alloc | apply pw_below_drewN | apply below_drew1 | refine below_set ?_ GE309.out) | exact HB.out)⟩⟩
            case rest =>
              clear HC9
              try clear c1
              try clear hcv1
              try clear c2
              try clear p2
              try clear c3
              try clear p3
              try clear q3
              try clear hx3
              try clear c4
              try clear c4b0
              try clear c5
              try clear c5b0
              try clear p6
              try clear c7
              try clear hcv13
              try clear hcv14
              try clear c16
              try clear c19
              try clear c19b0
              try clear c20
              try clear c20b0
              try clear c21
              try clear c21b0
              try clear c22
              try clear c22b0
              try clear hx302_0
              try clear hx302_1
              try clear hx302_2
              try clear hx302_3
              try clear hx302_4
              try clear hx302_5
              try clear hx302_6
              try clear hx302_7
              try clear hx304_0
              try clear hx304_1
              try clear hx304_2
              try clear hx304_3
              try clear hx304_4
              try clear hx304_5
              try clear hx304_6
              try clear hx304_7
              try clear hx305_0
              try clear hx305_1
              try clear hx305_2
              try clear hx305_3
              try clear hx305_4
              try clear hx305_5
              try clear hx305_6
              try clear hx305_7
              try clear hx310_0
              try clear hx310_1
              try clear hx310_2
              try clear hx310_3
              try clear hx310_4
              try clear hx310_5
              try clear hx310_6
              try clear hx310_7
              try clear p2
              try clear p302
              try clear p304
              try clear p305
              try clear p310
              try clear q302
              try clear q304
              try clear q305
              try clear q310
              obtain ⟨kq, x61_8, rfl, HA, HJ8, HO_7, BK309, HB⟩ := hcut
              cases kq with
              | zero => exact absurd HA.out (by simp [becketref18_Send.j1])
              | succ kj8 =>
                have H := HA.out
                clear HA
                simp only [becketref18_Send.j1] at H
                have HC23 := Aside0.mk H
                clear H
                go_upto_if 61 with (fail)
                go_cut [7] (fun v7 wc => ∃ (kq : Nat) (x7_22 : List (S41)), Aside0 (becketref18_Send.j2 kq a0 a1 l2 x7_22 x8_1 ((rd_T31 l2 x8_1).f0) a1 ((rd_T31 l2 x8_1).f0) (strOfNums t306) = some r) ∧ Aside0 (kq ≤ kj8) ∧ Aside0 (Kd.R k41 41 wc w.heap.size (fun k_ => k_ ≠ gb309) v7 x7_22) ∧ Aside0 (wc.heap[gb309]? = some (.cells #[.int .i64 a1, .int .i64 ((rd_T31 l2 x8_1).f0), .string (strOfNums t306)] 41 (0, 0))) ∧ Aside0 (Below w.heap.size w wc))
                case first =>
                  have H := HC23.out
                  clear HC23
                  by_cases c24 : x61_8 = true
                  · subst c24
                    have H1 : (if x7_1.length < 4398046511104 then (becketref18_Send.j2 kj8 a0 a1 l2 (x7_1 ++ [(⟨a1, ((rd_T31 l2 x8_1).f0), (strOfNums t306)⟩ : S41)]) x8_1 ((rd_T31 l2 x8_1).f0) a1 ((rd_T31 l2 x8_1).f0) (strOfNums t306)) else (none)) = some r := by first | (rw [if_pos rfl] at H; with_reducible exact H) | exact (if_pos rfl).symm.trans H | (simp only [if_true, eq_self_iff_true] at H ⊢; exact H)
                    clear H
                    have H := H1
                    clear H1
                    by_cases c25 : x7_1.length < 4398046511104
                    · rw [if_pos c25] at H
                      have LMc25 := Aside0.mk c25
                      clear c25
                      obtain ⟨y311, hy311⟩ : ∃ y_ : List (S41), y_ = (x7_1 ++ [(⟨a1, ((rd_T31 l2 x8_1).f0), (strOfNums t306)⟩ : S41)]) := ⟨_, rfl⟩
                      replace H : (becketref18_Send.j2 kj8 a0 a1 l2 y311 x8_1 ((rd_T31 l2 x8_1).f0) a1 ((rd_T31 l2 x8_1).f0) (strOfNums t306)) = some r := by first | (rw [hy311]; with_reducible exact H) | (have H2_ := (Option.bind_some _ _).symm.trans H; rw [hy311]; with_reducible exact H2_) | (have H2_ := (Option.bind_some _ _).symm.trans H; with_reducible exact H2_) | with_reducible exact H | (rw [hy311]; exact H) | exact H
                      have Ny311 := Aside0.mk hy311
                      clear hy311
                      have H' := Aside0.mk H
                      clear H
                      have hcz26_0 : wc.cell? ⟨gb309, 0, none⟩ = some (.int .i64 a1) := (blk_cell BK309.out 0).trans rfl
                      have hcz26_1 : wc.cell? ⟨gb309, 1, none⟩ = some (.int .i64 ((rd_T31 l2 x8_1).f0)) := (blk_cell BK309.out 1).trans rfl
                      have hcz26_2 : wc.cell? ⟨gb309, 2, none⟩ = some (.string (strOfNums t306)) := (blk_cell BK309.out 2).trans rfl
                      have hfz26_0 := blk_frozen BK309.out 0
                      have hfz26_1 := blk_frozen BK309.out 1
                      have hfz26_2 := blk_frozen BK309.out 2
                      go_wp2_with (first | ((with_reducible refine gate_builtin (b := .append) (xs := #[.tmp 62, .tmp 64]) rfl ?_); at_builtin; refine Kd.R_append k41 (w0 := w) w.heap.size rfl (.tmp 62) (.tmp 64) 38 41 (.agg #[(.int .i64 0), (.int .i64 0), (.string ⟨#[]⟩)]) 32 rfl Try.underlying38 info41 rfl (by decide) (by omega) u7 x7_1 (⟨a1, ((rd_T31 l2 x8_1).f0), (strOfNums t306)⟩ : S41) [.int .i64 a1, .int .i64 ((rd_T31 l2 x8_1).f0), .string (strOfNums t306)] (fun k_ => k_ ≠ gb309) (fun _ => False) rfl rfl ?aP (fun _ hk => hk.elim) ?aF ?aO ?aB ?aS ?aL ?_; (case aP => exact k41_mkM _ _ _ (⟨a1, ((rd_T31 l2 x8_1).f0), (strOfNums t306)⟩ : S41)); (case aB => exact (by repeat (first | (with_reducible first | exact HB.out | apply below_alloc | apply pw_below_drewN | apply below_drew1 | refine below_set ?_ GE309.out) | exact HB.out))); (case aF => exact (fun k_ hk => Kd.freshB (g := gb309) (o := .cells #[.int .i64 a1, .int .i64 ((rd_T31 l2 x8_1).f0), .string (strOfNums t306)] 41 (0, 0)) (by (with_reducible repeat (first | refine blk_drewN ?_ _ | refine blk_drew ?_ | refine blk_alloc ?_ _)); exact BK309.out) k_ hk)); (case aO => exact (by (with_reducible repeat (first | apply Kd.R_alloc | apply Kd.R_drewN | apply Kd.R_drew)); exact HO_7.out)); (case aS => exact (below_size (by repeat (first | (with_reducible first | exact HB.out | apply below_alloc | apply pw_below_drewN | apply below_drew1 | refine below_set ?_ GE309.out) | exact HB.out)))); (case aL => have := LMc25.out; omega); intro v312 w27 ho hb hg hat; rw [← Ny311.out] at ho; have n0_ := Aside0.mk (blk_grown (g := gb309) (o := .cells #[.int .i64 a1, .int .i64 ((rd_T31 l2 x8_1).f0), .string (strOfNums t306)] 41 (0, 0)) (by (with_reducible repeat (first | refine blk_drewN ?_ _ | refine blk_drew ?_ | refine blk_alloc ?_ _)); exact BK309.out) hg (Kd.R_away HO_7.out (fun _ hk => hk))); have n1_ := Aside0.mk (hb); have n2_ := Aside0.mk (ho); clear BK309; clear HB; clear HO_7; have BK309 := n0_; have HB := n1_; have HO313 := n2_; clear n0_ n1_ n2_; clear ho hb hg hat))
                      go_meet
                      case rel => exact ⟨_, (y311), H', ⟨by have := HK1.out; have := HJ8.out; first | omega | exact Nat.le_refl _⟩, ⟨by (with_reducible repeat (first | apply Kd.R_alloc | apply Kd.R_drewN | apply Kd.R_drew)); exact HO313.out⟩, ⟨by (with_reducible repeat (first | refine blk_drewN ?_ _ | refine blk_drew ?_ | refine blk_alloc ?_ _)); exact BK309.out⟩, ⟨by repeat (first | (with_reducible first | exact HB.out | apply below_alloc | apply pw_below_drewN | apply below_drew1 | refine below_set ?_ GE309.out) | exact HB.out)⟩⟩
                    · rw [if_neg c25] at H
                      exact absurd H (by simp)
                  · replace c24 := Bool.eq_false_iff.mpr c24
                    subst c24
                    have H1 : (becketref18_Send.j2 kj8 a0 a1 l2 x7_1 x8_1 ((rd_T31 l2 x8_1).f0) a1 ((rd_T31 l2 x8_1).f0) (strOfNums t306)) = some r := by rw [if_neg (show ¬ (false = true) by decide)] at H; exact H
                    clear H
                    have H := H1
                    clear H1
                    have H' := Aside0.mk H
                    clear H
                    go_wp2
                    go_meet
                    case rel => exact ⟨_, (x7_1), H', ⟨by have := HK1.out; have := HJ8.out; first | omega | exact Nat.le_refl _⟩, ⟨by (with_reducible repeat (first | apply Kd.R_alloc | apply Kd.R_drewN | apply Kd.R_drew)); exact HO_7.out⟩, ⟨by (with_reducible repeat (first | refine blk_drewN ?_ _ | refine blk_drew ?_ | refine blk_alloc ?_ _)); exact BK309.out⟩, ⟨by repeat (first | (with_reducible first | exact HB.out | apply below_alloc | apply pw_below_drewN | apply below_drew1 | refine below_set ?_ GE309.out) | exact HB.out)⟩⟩
                case rest =>
                  clear HC23
                  try clear c1
                  try clear hcv1
                  try clear c2
                  try clear p2
                  try clear c3
                  try clear p3
                  try clear q3
                  try clear hx3
                  try clear c4
                  try clear c4b0
                  try clear c5
                  try clear c5b0
                  try clear p6
                  try clear c7
                  try clear hcv13
                  try clear hcv14
                  try clear c16
                  try clear c19
                  try clear c19b0
                  try clear c20
                  try clear c20b0
                  try clear c21
                  try clear c21b0
                  try clear c22
                  try clear c22b0
                  try clear c24
                  try clear c25
                  try clear hcz26_0
                  try clear hcz26_1
                  try clear hcz26_2
                  try clear hfz26_0
                  try clear hfz26_1
                  try clear hfz26_2
                  try clear hx302_0
                  try clear hx302_1
                  try clear hx302_2
                  try clear hx302_3
                  try clear hx302_4
                  try clear hx302_5
                  try clear hx302_6
                  try clear hx302_7
                  try clear hx304_0
                  try clear hx304_1
                  try clear hx304_2
                  try clear hx304_3
                  try clear hx304_4
                  try clear hx304_5
                  try clear hx304_6
                  try clear hx304_7
                  try clear hx305_0
                  try clear hx305_1
                  try clear hx305_2
                  try clear hx305_3
                  try clear hx305_4
                  try clear hx305_5
                  try clear hx305_6
                  try clear hx305_7
                  try clear hx310_0
                  try clear hx310_1
                  try clear hx310_2
                  try clear hx310_3
                  try clear hx310_4
                  try clear hx310_5
                  try clear hx310_6
                  try clear hx310_7
                  try clear p2
                  try clear p3
                  try clear p302
                  try clear p304
                  try clear p305
                  try clear p310
                  try clear p6
                  try clear q3
                  try clear q302
                  try clear q304
                  try clear q305
                  try clear q310
                  obtain ⟨kq, x7_22, HA, HJ22, HO_7, BK309, HB⟩ := hcut
                  cases kq with
                  | zero => exact absurd HA.out (by simp [becketref18_Send.j2])
                  | succ kj22 =>
                    have H := HA.out
                    clear HA
                    simp only [becketref18_Send.j2] at H
                    by_cases c28 : ((rd_T31 l2 x8_1).f0) = (-1)
                    · rw [if_pos c28] at H
                      have c28b0 : (((rd_T31 l2 x8_1).f0) == (-1)) = true := beq_iff_eq.mpr c28
                      have c28b1 : (((rd_T31 l2 x8_1).f0) != (-1)) = false := bne_eq_false_iff_eq.mpr c28
                      clear c28
                      have H' := Aside0.mk H
                      clear H
                      go_wp2
                      go_loopg [7, 12] kj22 (fun kq v7 v12 w' => ∃ (x7_4 : List (S41)) (x12_4 : Int) (x310001_4 : Int), v12 = .int .i64 x12_4 ∧ Aside0 (becketref18_Send.l1 kq a0 a1 l2 x7_4 x8_1 x12_4 a1 x310001_4 (strOfNums t306) = some r) ∧ Aside0 (kq ≤ kj22) ∧ Aside0 (Kd.R k41 41 w' w.heap.size (fun k_ => k_ ≠ gb309) v7 x7_4) ∧ Aside0 (w'.heap[gb309]? = some (.cells #[.int .i64 a1, .int .i64 x310001_4, .string (strOfNums t306)] 41 (0, 0))) ∧ Aside0 (Below w.heap.size w w'))
                      case atStart => exact ⟨(x7_22), (0), (((rd_T31 l2 x8_1).f0)), (by first | rfl | (simp; done) | (simp [*]; done)), H', ⟨Nat.le_refl _⟩, ⟨by (with_reducible repeat (first | apply Kd.R_alloc | apply Kd.R_drewN | apply Kd.R_drew)); exact HO_7.out⟩, ⟨by (with_reducible repeat (first | refine blk_drewN ?_ _ | refine blk_drew ?_ | refine blk_alloc ?_ _)); exact BK309.out⟩, ⟨by repeat (first | (with_reducible first | exact HB.out | apply below_alloc | apply pw_below_drewN | apply below_drew1 | refine below_set ?_ GE309.out) | exact HB.out)⟩⟩
                      case round =>
                        clear H'
                        try clear c1
                        try clear hcv1
                        try clear c2
                        try clear p2
                        try clear c3
                        try clear p3
                        try clear q3
                        try clear hx3
                        try clear c4
                        try clear c4b0
                        try clear c5
                        try clear c5b0
                        try clear p6
                        try clear c7
                        try clear hcv13
                        try clear hcv14
                        try clear c16
                        try clear c19
                        try clear c19b0
                        try clear c20
                        try clear c20b0
                        try clear c21
                        try clear c21b0
                        try clear c22
                        try clear c22b0
                        try clear c24
                        try clear c25
                        try clear c28
                        try clear c28b0
                        try clear c28b1
                        try clear hcz26_0
                        try clear hcz26_1
                        try clear hcz26_2
                        try clear hfz26_0
                        try clear hfz26_1
                        try clear hfz26_2
                        try clear hx302_0
                        try clear hx302_1
                        try clear hx302_2
                        try clear hx302_3
                        try clear hx302_4
                        try clear hx302_5
                        try clear hx302_6
                        try clear hx302_7
                        try clear hx304_0
                        try clear hx304_1
                        try clear hx304_2
                        try clear hx304_3
                        try clear hx304_4
                        try clear hx304_5
                        try clear hx304_6
                        try clear hx304_7
                        try clear hx305_0
                        try clear hx305_1
                        try clear hx305_2
                        try clear hx305_3
                        try clear hx305_4
                        try clear hx305_5
                        try clear hx305_6
                        try clear hx305_7
                        try clear hx310_0
                        try clear hx310_1
                        try clear hx310_2
                        try clear hx310_3
                        try clear hx310_4
                        try clear hx310_5
                        try clear hx310_6
                        try clear hx310_7
                        try clear p2
                        try clear p3
                        try clear p302
                        try clear p304
                        try clear p305
                        try clear p310
                        try clear p6
                        try clear q3
                        try clear q302
                        try clear q304
                        try clear q305
                        try clear q310
                        obtain ⟨x7_4, x12_4, x310001_4, rfl, HA, HK4, HO_7, BK309, HB⟩ := hrel
                        cases gk with
                        | zero => exact absurd HA.out (by simp [becketref18_Send.l1])
                        | succ k4 =>
                          have H := HA.out
                          clear HA
                          simp only [becketref18_Send.l1] at H
                          by_cases c29 : x12_4 ≤ (wrap64 (3 * a0))
                          · rw [if_pos c29] at H
                            have c29b0 : decide (x12_4 ≤ (wrap64 (3 * a0))) = true := decide_eq_true c29
                            clear c29
                            by_cases c30 : x12_4 = a1
                            · rw [if_pos c30] at H
                              have c30b0 : (x12_4 == a1) = true := beq_iff_eq.mpr c30
                              have c30b1 : (x12_4 != a1) = false := bne_eq_false_iff_eq.mpr c30
                              clear c30
                              have H' := Aside0.mk H
                              clear H
                              go_wp2
                              go_roundg k4
                              case measure => have := HK1.out; have := HJ8.out; have := HJ22.out; have := HK4.out; omega
                              case rel => exact ⟨(x7_4), (wrap64 (x12_4 + 1)), (x310001_4), (by first | rfl | (simp; done) | (simp [*]; done)), H', ⟨by have := HK1.out; have := HJ8.out; have := HJ22.out; have := HK4.out; omega⟩, ⟨by (with_reducible repeat (first | apply Kd.R_alloc | apply Kd.R_drewN | apply Kd.R_drew)); exact HO_7.out⟩, ⟨by (with_reducible repeat (first | refine blk_drewN ?_ _ | refine blk_drew ?_ | refine blk_alloc ?_ _)); exact BK309.out⟩, ⟨by repeat (first | (with_reducible first | exact HB.out | apply below_alloc | apply pw_below_drewN | apply below_drew1 | refine below_set ?_ GE309.out) | exact HB.out)⟩⟩
                            · rw [if_neg c30] at H
                              have c30b0 : (x12_4 == a1) = false := beq_eq_false_iff_ne.mpr c30
                              have c30b1 : (x12_4 != a1) = true := bne_iff_ne.mpr c30
                              by_cases c31 : x7_4.length < 4398046511104
                              · rw [if_pos c31] at H
                                have LMc31 := Aside0.mk c31
                                clear c31
                                obtain ⟨y314, hy314⟩ : ∃ y_ : List (S41), y_ = (x7_4 ++ [(⟨a1, x12_4, (strOfNums t306)⟩ : S41)]) := ⟨_, rfl⟩
                                replace H : (becketref18_Send.l1 k4 a0 a1 l2 y314 x8_1 (wrap64 (x12_4 + 1)) a1 x12_4 (strOfNums t306)) = some r := by first | (rw [hy314]; with_reducible exact H) | (have H2_ := (Option.bind_some _ _).symm.trans H; rw [hy314]; with_reducible exact H2_) | (have H2_ := (Option.bind_some _ _).symm.trans H; with_reducible exact H2_) | with_reducible exact H | (rw [hy314]; exact H) | exact H
                                have Ny314 := Aside0.mk hy314
                                clear hy314
                                have H' := Aside0.mk H
                                clear H
                                have hcz32_0 : wr.cell? ⟨gb309, 0, none⟩ = some (.int .i64 a1) := (blk_cell BK309.out 0).trans rfl
                                have hcz32_1 : wr.cell? ⟨gb309, 1, none⟩ = some (.int .i64 x310001_4) := (blk_cell BK309.out 1).trans rfl
                                have hcz32_2 : wr.cell? ⟨gb309, 2, none⟩ = some (.string (strOfNums t306)) := (blk_cell BK309.out 2).trans rfl
                                have hfz32_0 := blk_frozen BK309.out 0
                                have hfz32_1 := blk_frozen BK309.out 1
                                have hfz32_2 := blk_frozen BK309.out 2
                                go_wp2_with (first | ((with_reducible refine gate_builtin (b := .append) (xs := #[.tmp 79, .tmp 81]) rfl ?_); at_builtin; refine Kd.R_append k41 (w0 := w) w.heap.size rfl (.tmp 79) (.tmp 81) 38 41 (.agg #[(.int .i64 0), (.int .i64 0), (.string ⟨#[]⟩)]) 32 rfl Try.underlying38 info41 rfl (by decide) (by omega) u7 x7_4 (⟨a1, x12_4, (strOfNums t306)⟩ : S41) [.int .i64 a1, .int .i64 x12_4, .string (strOfNums t306)] (fun k_ => k_ ≠ gb309) (fun _ => False) rfl (by first | (go_simp; done) | (go_simp; rfl)) ?aP (fun _ hk => hk.elim) ?aF ?aO ?aB ?aS ?aL ?_; (case aP => exact k41_mkM _ _ _ (⟨a1, x12_4, (strOfNums t306)⟩ : S41)); (case aB => exact (by repeat (first | (with_reducible first | exact HB.out | apply below_alloc | apply pw_below_drewN | apply below_drew1 | refine below_set ?_ GE309.out) | exact HB.out))); (case aF => exact (fun k_ hk => Kd.freshB (g := gb309) (o := .cells #[.int .i64 a1, .int .i64 x12_4, .string (strOfNums t306)] 41 (0, 0)) (by (with_reducible repeat (first | refine blk_drewN ?_ _ | refine blk_drew ?_ | refine blk_alloc ?_ _)); refine blk_put (cs := #[.int .i64 a1, .int .i64 x310001_4, .string (strOfNums t306)]) ?_ 1 _ rfl; (with_reducible repeat (first | refine blk_drewN ?_ _ | refine blk_drew ?_ | refine blk_alloc ?_ _)); exact BK309.out) k_ hk)); (case aO => exact (by (with_reducible repeat (first | apply Kd.R_alloc | apply Kd.R_drewN | apply Kd.R_drew)); exact Kd.R_mono (Kd.R_far (p := ⟨gb309, 1, none⟩) (Kd.R_mono HO_7.out (fun k_ hk => (⟨hk, hk⟩ : _ ∧ k_ ≠ gb309))) (fun _ hk => hk.2) (.int .i64 x12_4)) (fun _ hk => hk.1))); (case aS => exact (below_size (by repeat (first | (with_reducible first | exact HB.out | apply below_alloc | apply pw_below_drewN | apply below_drew1 | refine below_set ?_ GE309.out) | exact HB.out)))); (case aL => have := LMc31.out; omega); intro v315 w33 ho hb hg hat; rw [← Ny314.out] at ho; have n0_ := Aside0.mk (blk_grown (g := gb309) (o := .cells #[.int .i64 a1, .int .i64 x12_4, .string (strOfNums t306)] 41 (0, 0)) (by (with_reducible repeat (first | refine blk_drewN ?_ _ | refine blk_drew ?_ | refine blk_alloc ?_ _)); refine blk_put (cs := #[.int .i64 a1, .int .i64 x310001_4, .string (strOfNums t306)]) ?_ 1 _ rfl; (with_reducible repeat (first | refine blk_drewN ?_ _ | refine blk_drew ?_ | refine blk_alloc ?_ _)); exact BK309.out) hg (Kd.R_away HO_7.out (fun _ hk => hk))); have n1_ := Aside0.mk (hb); have n2_ := Aside0.mk (ho); clear BK309; clear HB; clear HO_7; have BK309 := n0_; have HB := n1_; have HO316 := n2_; clear n0_ n1_ n2_; clear ho hb hg hat))
                                go_roundg k4
                                case measure => have := HK1.out; have := HJ8.out; have := HJ22.out; have := HK4.out; omega
                                case rel => exact ⟨(y314), (wrap64 (x12_4 + 1)), (x12_4), (by first | rfl | (simp; done) | (simp [*]; done)), H', ⟨by have := HK1.out; have := HJ8.out; have := HJ22.out; have := HK4.out; omega⟩, ⟨by (with_reducible repeat (first | apply Kd.R_alloc | apply Kd.R_drewN | apply Kd.R_drew)); exact HO316.out⟩, ⟨by (with_reducible repeat (first | refine blk_drewN ?_ _ | refine blk_drew ?_ | refine blk_alloc ?_ _)); exact BK309.out⟩, ⟨by repeat (first | (with_reducible first | exact HB.out | apply below_alloc | apply pw_below_drewN | apply below_drew1 | refine below_set ?_ GE309.out) | exact HB.out)⟩⟩
                              · rw [if_neg c31] at H
                                exact absurd H (by simp)
                          · rw [if_neg c29] at H
                            have c29b0 : decide (x12_4 ≤ (wrap64 (3 * a0))) = false := decide_eq_false c29
                            clear c29
                            have H' := Aside0.mk H
                            clear H
                            go_wp2
                            go_roundg k4
                            case measure => have := HK1.out; have := HJ8.out; have := HJ22.out; have := HK4.out; omega
                            case rel => exact ⟨(x7_4), (wrap64 (x8_1 + 1)), (by first | rfl | (simp; done) | (simp [*]; done)), H', ⟨by have := HK1.out; have := HJ8.out; have := HJ22.out; have := HK4.out; omega⟩, ⟨by (with_reducible repeat (first | apply Kd.R_alloc | apply Kd.R_drewN | apply Kd.R_drew)); exact Kd.R_mono HO_7.out (fun _ hk => trivial)⟩, ⟨by repeat (first | (with_reducible first | exact HB.out | apply below_alloc | apply pw_below_drewN | apply below_drew1 | refine below_set ?_ GE309.out) | exact HB.out)⟩⟩
                    · rw [if_neg c28] at H
                      have c28b0 : (((rd_T31 l2 x8_1).f0) == (-1)) = false := beq_eq_false_iff_ne.mpr c28
                      have c28b1 : (((rd_T31 l2 x8_1).f0) != (-1)) = true := bne_iff_ne.mpr c28
                      have H' := Aside0.mk H
                      clear H
                      go_wp2
                      go_roundg kj22
                      case measure => have := HK1.out; have := HJ8.out; have := HJ22.out; omega
                      case rel => exact ⟨(x7_22), (wrap64 (x8_1 + 1)), (by first | rfl | (simp; done) | (simp [*]; done)), H', ⟨by have := HK1.out; have := HJ8.out; have := HJ22.out; omega⟩, ⟨by (with_reducible repeat (first | apply Kd.R_alloc | apply Kd.R_drewN | apply Kd.R_drew)); exact Kd.R_mono HO_7.out (fun _ hk => trivial)⟩, ⟨by repeat (first | (with_reducible first | exact HB.out | apply below_alloc | apply pw_below_drewN | apply below_drew1 | refine below_set ?_ GE309.out) | exact HB.out)⟩⟩
          · replace c7 := Bool.eq_false_iff.mpr c7
            subst c7
            have H1 : (becketref18_Send.l0 k1 a0 a1 l2 x7_1 (wrap64 (x8_1 + 1))) = some r := by rw [if_neg (show ¬ (false = true) by decide)] at H; exact H
            clear H
            have H := H1
            clear H1
            have H' := Aside0.mk H
            clear H
            have p302 : 0 ≤ (x8_1 : Int) := of_decide_eq_true (by first | (with_reducible assumption) | assumption)
            have q302 : x8_1 < (l2.length : Int) := of_decide_eq_true (by first | (with_reducible assumption) | assumption)
            obtain ⟨ad302, A302_6, c302_6, A302_7, c302_7, e302, hx302_0, hx302_1, hx302_2, hx302_3, hx302_4, hx302_5, hx302_6, hx302_7, hl302_6, hi302_6, hl302_7, hi302_7⟩ := at_T31 HR2.out x8_1 p302 q302
            cases e302
            replace hx302_0 := (HB.out.cell (World.block_lt_of_cell? w _ hx302_0)).trans hx302_0
            replace hx302_1 := (HB.out.cell (World.block_lt_of_cell? w _ hx302_1)).trans hx302_1
            replace hx302_2 := (HB.out.cell (World.block_lt_of_cell? w _ hx302_2)).trans hx302_2
            replace hx302_3 := (HB.out.cell (World.block_lt_of_cell? w _ hx302_3)).trans hx302_3
            replace hx302_4 := (HB.out.cell (World.block_lt_of_cell? w _ hx302_4)).trans hx302_4
            replace hx302_5 := (HB.out.cell (World.block_lt_of_cell? w _ hx302_5)).trans hx302_5
            replace hx302_6 := (HB.out.cell (World.block_lt_of_cell? w _ hx302_6)).trans hx302_6
            replace hx302_7 := (HB.out.cell (World.block_lt_of_cell? w _ hx302_7)).trans hx302_7
            have HR302_6 := Aside0.mk hi302_6
            have HC302_6 := Aside0.mk hl302_6
            clear hi302_6 hl302_6
            have HR302_7 := Aside0.mk hi302_7
            have HC302_7 := Aside0.mk hl302_7
            clear hi302_7 hl302_7
            replace p302 := eq_true p302
            replace q302 := eq_true q302
            go_wp2_with (first | ((with_reducible refine gate_callee (f := 21) rfl ?_); refine goesL_ (some 24) rfl rfl Try.func21 (by kernel_rfl) rfl #[.agg #[.int .i64 ((rd_T31 l2 x8_1).f1.f0), .int .i64 ((rd_T31 l2 x8_1).f1.f1), .int .i64 ((rd_T31 l2 x8_1).f1.f2), .int .i64 ((rd_T31 l2 x8_1).f1.f3), .string ((rd_T31 l2 x8_1).f1.f4), .slice A302_6 ((rd_T31 l2 x8_1).f1.f5).length c302_6, .slice A302_7 ((rd_T31 l2 x8_1).f1.f6).length c302_7]] rfl (by (try simp only [List.map_toArray, List.map_cons, List.map_nil]); first | done | rfl | (simp only [List.length_drop, List.length_take]; rfl)) ?_; (with_reducible refine (becketref12_May.calls k1 ((rd_T31 l2 x8_1).f1.f0) ((rd_T31 l2 x8_1).f1.f1) ((rd_T31 l2 x8_1).f1.f2) ((rd_T31 l2 x8_1).f1.f3) ((rd_T31 l2 x8_1).f1.f4) _ _ ((rd_T31 l2 x8_1).f1.f5) _ _ ((rd_T31 l2 x8_1).f1.f6) false _ ?side1 ?side2 ?side3 ?side4 A6.out).mono ?_); (case side1 => repeat (first | exact (Kd.C_below HR302_6.out HB.out) | (with_reducible refine Kd.C_alloc ?_ _) | (with_reducible refine Kd.C_drewN ?_ _) | (with_reducible refine Kd.C_drew ?_))); (case side2 => exact HC302_6.out); (case side3 => repeat (first | exact (Kd.C_below HR302_7.out HB.out) | (with_reducible refine Kd.C_alloc ?_ _) | (with_reducible refine Kd.C_drewN ?_ _) | (with_reducible refine Kd.C_drew ?_))); (case side4 => exact HC302_7.out); rintro e w34 ⟨rfl, hb⟩; refine ⟨_, rfl, ?_⟩; have n0_ := Aside0.mk (Kd.R_below (by (with_reducible repeat (first | apply Kd.R_alloc | apply Kd.R_drewN | apply Kd.R_drew)); exact HO_7.out) hb); have n1_ := Aside0.mk (below_step (by repeat (first | (with_reducible first | exact HB.out | apply below_alloc | apply pw_below_drewN | apply below_drew1) | exact HB.out)) hb); clear HO_7; clear HB; have HO_7 := n0_; have HB := n1_; clear n0_ n1_; (try clear hb); (try clear hb2); (try clear hk); (try clear hi)))
            go_roundg k1
            case measure => have := HK1.out; omega
            case rel => exact ⟨(x7_1), (wrap64 (x8_1 + 1)), (by first | rfl | (simp; done) | (simp [*]; done)), H', ⟨by have := HK1.out; omega⟩, ⟨by (with_reducible repeat (first | apply Kd.R_alloc | apply Kd.R_drewN | apply Kd.R_drew)); exact HO_7.out⟩, ⟨by repeat (first | (with_reducible first | exact HB.out | apply below_alloc | apply pw_below_drewN | apply below_drew1) | exact HB.out)⟩⟩
        · rw [if_neg c5] at H
          exact absurd H (by simp)
      · rw [if_neg c4] at H
        have c4b0 : decide (x8_1 < (l2.length : Int)) = false := decide_eq_false c4
        clear c4
        obtain rfl := Option.some.inj H
        go_wp2
        go_ret
        exact ⟨_, by first | rfl | (simp [errW_none, errW_some] <;> rfl) | (simp [*, errW_none, errW_some] <;> rfl), by (with_reducible repeat (first | apply Kd.R_alloc | apply Kd.R_drewN | apply Kd.R_drew)); exact HO_7.out, by repeat (first | (with_reducible first | exact HB.out | apply below_alloc | apply pw_below_drewN | apply below_drew1) | exact HB.out)⟩
end Go.Proofs.Ytkaoojcafefjjaa.Ms
