-- Cut by a program of this session (wip/shake.py) out of a text of this seat: what this claim doesn't reach is struck out. Lean checks it.
import Derived.Test.YtghfofjlafeliaaDoorOrx0Cg
import Derived.Test.YtghfofjlafeliaaDoorOrx3Cg
import Derived.Test.YtghfofjlafeliaaDoorOrx4Cg
namespace Go.Proofs.YtghfofjlafeliaaDoor.Or
open Go.RowKit Go.Proofs.YtghfofjlafeliaaDoorW.PrintWords Go.Proofs.YtghfofjlafeliaaDoorW.PrintLast Go.Proofs.YtghfofjlafeliaaDoorW.PrintMore
attribute [local go_sem] max2_int min2_int max_two min_two max_three min_three max_four min_four   -- for this text's walks alone
set_option linter.unusedVariables false
set_option linter.unusedSimpArgs false
attribute [local go_sem] eqlErr neqErr eqlErrNil neqErrNil
mutual
def wire_GetNum.j0 : Nat → List Int → Int → Int → Bool → Option (Int × Int × Option Int)
  | 0, _, _, _, _ => none
  | k + 1, x0, x1, x2, x19 => if x19 = true then (some (0, 0, some 1)) else (if 0 ≤ x1 then (if x1 ≤ (x0.length : Int) then (wire_GetNum.l0 k x1 x2 0 (x0.drop (x1 : Int).toNat) ((x0.drop (x1 : Int).toNat).length : Int) 0) else (none)) else (none))
def wire_GetNum.l0 : Nat → Int → Int → Int → List Int → Int → Int → Option (Int × Int × Option Int)
  | 0, _, _, _, _, _, _ => none
  | k + 1, x1, x2, x9, x23, x24, x25 => if x25 < x24 then (if 0 ≤ x25 then (if x25 < (x23.length : Int) then (if x25 ≥ 10 then (wire_GetNum.j2 k x1 x2 x9 x25 (rd x23 x25) x23 x24 x25 true) else (if (rd x23 x25) = 0 then (if x25 > 0 then (wire_GetNum.j2 k x1 x2 x9 x25 (rd x23 x25) x23 x24 x25 true) else (if (rd x23 x25) > 1 then (wire_GetNum.j2 k x1 x2 x9 x25 (rd x23 x25) x23 x24 x25 (x25 == 9)) else (wire_GetNum.j2 k x1 x2 x9 x25 (rd x23 x25) x23 x24 x25 false))) else (if (rd x23 x25) > 1 then (wire_GetNum.j2 k x1 x2 x9 x25 (rd x23 x25) x23 x24 x25 (x25 == 9)) else (wire_GetNum.j2 k x1 x2 x9 x25 (rd x23 x25) x23 x24 x25 false)))) else (none)) else (none)) else (some (0, 0, some 2))
def wire_GetNum.j2 : Nat → Int → Int → Int → Int → Int → List Int → Int → Int → Bool → Option (Int × Int × Option Int)
  | 0, _, _, _, _, _, _, _, _, _ => none
  | k + 1, x1, x2, x9, x10, x11, x23, x24, x25, x47 => if x47 = true then (some (0, 0, some 2)) else (if 0 ≤ (wrap64 (7 * x10)) then (if x11 ≥ 128 then (wire_GetNum.l0 k x1 x2 (Go.bits .or .u64 x9 (shl .u64 (IntKind.u64.wrap (Go.bits .and .u8 x11 127)) (wrap64 (7 * x10)))) x23 x24 (wrap64 (x25 + 1))) else (if (Go.bits .or .u64 x9 (shl .u64 (IntKind.u64.wrap (Go.bits .and .u8 x11 127)) (wrap64 (7 * x10)))) > x2 then (some (0, 0, some 7)) else (some (Go.bits .or .u64 x9 (shl .u64 (IntKind.u64.wrap (Go.bits .and .u8 x11 127)) (wrap64 (7 * x10))), wrap64 ((wrap64 (x1 + x10)) + 1), none)))) else (none))
end
def wire_GetNum.f (k : Nat) (l0 : List Int) (a1 : Int) (a2 : Int) : Option (Int × Int × Option Int) := if a1 < 0 then (wire_GetNum.j0 k l0 a1 a2 true) else (wire_GetNum.j0 k l0 a1 a2 (decide (a1 > (l0.length : Int))))
set_option maxHeartbeats 8000000 in
set_option maxRecDepth 100000 in
theorem wire_GetNum.calls (k : Nat) (A0 : Option Addr) (c0 : Nat) (l0 : List Int) (a1 : Int) (a2 : Int) (r1 : Int) (r2 : Int) (r3 : Option Int) (w : World) (hr0 : Kd.C (Kd.int .u8) w A0 l0.length l0) (hc0 : l0.length ≤ c0) (h : wire_GetNum.f k l0 a1 a2 = some (r1, r2, r3)) :
    Calls Tryd.prog 35 #[.slice A0 l0.length c0, .int .i64 a1, .int .u64 a2] w fun e w' => e = .returned (.tuple #[.int .u64 r1, .int .i64 r2, errW r3]) ∧ Drawn0 w w' := by
  have hu30 := Tryd.underlying30
  have hu36 := Tryd.underlying36
  have HR0 := Aside0.mk hr0
  have HC0 := Aside0.mk hc0
  clear hr0 hc0
  have H : (if a1 < 0 then (wire_GetNum.j0 k l0 a1 a2 true) else (wire_GetNum.j0 k l0 a1 a2 (decide (a1 > (l0.length : Int))))) = some (r1, r2, r3) := h
  clear h
  have HC4 := Aside0.mk H
  clear H
  go_enter Tryd.func35, Tryd.ntmps35
  go_upto_region 1 with (fail)
  go_cut [19] (fun v19 wc => ∃ (kq : Nat) (x19_3 : Bool), v19 = .bool x19_3 ∧ Aside0 (wire_GetNum.j0 kq l0 a1 a2 x19_3 = some (r1, r2, r3)) ∧ Aside0 (kq ≤ k) ∧ Drawn0 w wc)
  case first =>
    have H := HC4.out
    clear HC4
    by_cases c5 : a1 < 0
    · rw [if_pos c5] at H
      have c5b0 : decide (a1 < 0) = true := decide_eq_true c5
      clear c5
      (first | rw [c5b0] | (simp only [i64_w, i32_w]; rw [c5b0]) | skip)
      have H' := Aside0.mk H
      clear H
      go_wp2
      go_meet
      case rel => exact ⟨_, (true), (by first | rfl | (simp; done) | (simp [*]; done)), H', ⟨by first | omega | exact Nat.le_refl _⟩, by repeat (first | exact Drawn0.refl _ | apply Drawn0.step)⟩
    · rw [if_neg c5] at H
      have c5b0 : decide (a1 < 0) = false := decide_eq_false c5
      clear c5
      (first | rw [c5b0] | (simp only [i64_w, i32_w]; rw [c5b0]) | skip)
      have H' := Aside0.mk H
      clear H
      go_wp2
      go_meet
      case rel => exact ⟨_, (decide (a1 > (l0.length : Int))), (by first | rfl | (simp; done) | (simp [*]; done)), H', ⟨by first | omega | exact Nat.le_refl _⟩, by repeat (first | exact Drawn0.refl _ | apply Drawn0.step)⟩
  case rest =>
    clear HC4
    try clear p2
    try clear c3
    try clear c5
    try clear c5b0
    obtain ⟨kq, x19_3, rfl, HA, HJ3, ⟨mc3, rfl⟩⟩ := hcut
    cases kq with
    | zero => exact absurd HA.out (by simp [wire_GetNum.j0])
    | succ kj3 =>
      have H := HA.out
      clear HA
      simp only [wire_GetNum.j0] at H
      by_cases c6 : x19_3 = true
      · subst c6
        have H1 : (some (0, 0, some 1)) = some (r1, r2, r3) := by first | (rw [if_pos rfl] at H; with_reducible exact H) | exact (if_pos rfl).symm.trans H | (simp only [if_true, eq_self_iff_true] at H ⊢; exact H)
        clear H
        have H := H1
        clear H1
        simp only [Option.some.injEq, Prod.mk.injEq] at H
        obtain ⟨rfl, rfl, rfl⟩ := H
        go_wp2
        go_ret3
        exact ⟨by first | rfl | (simp; done) | (simp [*]; done), by repeat (first | exact Drawn0.refl _ | apply Drawn0.step)⟩
      · replace c6 := Bool.eq_false_iff.mpr c6
        subst c6
        have H1 : (if 0 ≤ a1 then (if a1 ≤ (l0.length : Int) then (wire_GetNum.l0 kj3 a1 a2 0 (l0.drop (a1 : Int).toNat) ((l0.drop (a1 : Int).toNat).length : Int) 0) else (none)) else (none)) = some (r1, r2, r3) := by rw [if_neg (show ¬ (false = true) by decide)] at H; exact H
        clear H
        have H := H1
        clear H1
        by_cases c7 : 0 ≤ a1
        · rw [if_pos c7] at H
          have c7b0 := eq_true c7
          have c7b1 : decide (0 ≤ a1) = true := decide_eq_true c7
          clear c7
          by_cases c8 : a1 ≤ (l0.length : Int)
          · rw [if_pos c8] at H
            have c8b0 := eq_true c8
            have c8b1 : decide (a1 ≤ (l0.length : Int)) = true := decide_eq_true c8
            clear c8
            have H' := Aside0.mk H
            clear H
            obtain ⟨i09, hi09, _, hsz9, _⟩ := info_parts info5
            obtain ⟨A9, hcut9, hA9, hC9⟩ := print_drop_of (P := Tryd.prog) (Value.int .u8) 0 32 5 .i64 Tryd.underlying32 hi09 hsz9 A0 c0 l0 a1 (of_decide_eq_true (by first | (with_reducible assumption) | assumption)) (of_decide_eq_true (by first | (with_reducible assumption) | assumption)) HC0.out
            have HR148 := Aside0.mk (Kd.C_of_reads (h1 := fun _ => rfl) (hA9 _ (Kd.reads_of_C HR0.out)))
            have HC148 := Aside0.mk hC9
            clear hA9 hC9 hi09 hsz9
            go_wp2
            go_loopg [9, 25] kj3 (fun kq v9 v25 w' => ∃ (x9_2 : Int) (x25_2 : Int), v9 = .int .u64 x9_2 ∧ v25 = .int .i64 x25_2 ∧ Aside0 (wire_GetNum.l0 kq a1 a2 x9_2 (l0.drop (a1 : Int).toNat) ((l0.drop (a1 : Int).toNat).length : Int) x25_2 = some (r1, r2, r3)) ∧ Aside0 (kq ≤ kj3) ∧ Drawn0 w w')
            case atStart => exact ⟨(0), (0), (by first | rfl | (simp; done) | (simp [*]; done)), (by first | rfl | (simp; done) | (simp [*]; done)), H', ⟨Nat.le_refl _⟩, by repeat (first | exact Drawn0.refl _ | apply Drawn0.step)⟩
            case round =>
              clear H'
              try clear p2
              try clear c3
              try clear c5
              try clear c5b0
              try clear c6
              try clear c7
              try clear c7b0
              try clear c7b1
              try clear c8
              try clear c8b0
              try clear c8b1
              try clear p2
              obtain ⟨x9_2, x25_2, rfl, rfl, HA, HK2, ⟨m2, rfl⟩⟩ := hrel
              cases gk with
              | zero => exact absurd HA.out (by simp [wire_GetNum.l0])
              | succ k2 =>
                have H := HA.out
                clear HA
                simp only [wire_GetNum.l0] at H
                by_cases c10 : x25_2 < ((l0.drop (a1 : Int).toNat).length : Int)
                · rw [if_pos c10] at H
                  have c10b0 : decide (x25_2 < ((l0.drop (a1 : Int).toNat).length : Int)) = true := decide_eq_true c10
                  clear c10
                  by_cases c11 : 0 ≤ x25_2
                  · rw [if_pos c11] at H
                    have c11b0 : decide (0 ≤ x25_2) = true := decide_eq_true c11
                    clear c11
                    by_cases c12 : x25_2 < ((l0.drop (a1 : Int).toNat).length : Int)
                    · rw [if_pos c12] at H
                      have c12b0 : decide (x25_2 < ((l0.drop (a1 : Int).toNat).length : Int)) = true := decide_eq_true c12
                      clear c12
                      have HC13 := Aside0.mk H
                      clear H
                      have p149 : 0 ≤ (x25_2 : Int) := of_decide_eq_true (by first | (with_reducible assumption) | assumption)
                      have q149 : x25_2 < ((l0.drop (a1 : Int).toNat).length : Int) := of_decide_eq_true (by first | (with_reducible assumption) | assumption)
                      obtain ⟨ad149, e149, hx149_0⟩ := Kd.at_int HR148.out x25_2 p149 q149
                      cases e149
                      have q149b : (x25_2 < ((l0.length - (a1 : Int).toNat : Nat) : Int)) = True := eq_true (by have q_ := q149; rw [List.length_drop] at q_; exact q_)
                      replace p149 := eq_true p149
                      replace q149 := eq_true q149
                      go_upto_region 7 with (fail)
                      go_cut [47] (fun v47 wc => ∃ (kq : Nat) (x47_12 : Bool), v47 = .bool x47_12 ∧ Aside0 (wire_GetNum.j2 kq a1 a2 x9_2 x25_2 (rd (l0.drop (a1 : Int).toNat) x25_2) (l0.drop (a1 : Int).toNat) ((l0.drop (a1 : Int).toNat).length : Int) x25_2 x47_12 = some (r1, r2, r3)) ∧ Aside0 (kq ≤ k2) ∧ Drawn0 w wc)
                      case first =>
                        have H := HC13.out
                        clear HC13
                        by_cases c14 : x25_2 ≥ 10
                        · rw [if_pos c14] at H
                          have c14b0 : decide (10 ≤ x25_2) = true := decide_eq_true c14
                          clear c14
                          (first | rw [c14b0] | (simp only [i64_w, i32_w]; rw [c14b0]) | skip)
                          have H' := Aside0.mk H
                          clear H
                          go_wp2
                          go_meet
                          case rel => exact ⟨_, (true), (by first | rfl | (simp; done) | (simp [*]; done)), H', ⟨by have := HJ3.out; have := HK2.out; first | omega | exact Nat.le_refl _⟩, by repeat (first | exact Drawn0.refl _ | apply Drawn0.step)⟩
                        · rw [if_neg c14] at H
                          have c14b0 : decide (10 ≤ x25_2) = false := decide_eq_false c14
                          clear c14
                          (first | rw [c14b0] | (simp only [i64_w, i32_w]; rw [c14b0]) | skip)
                          by_cases c15 : (rd (l0.drop (a1 : Int).toNat) x25_2) = 0
                          · rw [if_pos c15] at H
                            have c15b0 : ((rd (l0.drop (a1 : Int).toNat) x25_2) == 0) = true := beq_iff_eq.mpr c15
                            have c15b1 : ((rd (l0.drop (a1 : Int).toNat) x25_2) != 0) = false := bne_eq_false_iff_eq.mpr c15
                            clear c15
                            by_cases c16 : x25_2 > 0
                            · rw [if_pos c16] at H
                              have c16b0 : decide (0 < x25_2) = true := decide_eq_true c16
                              clear c16
                              have H' := Aside0.mk H
                              clear H
                              go_wp2
                              go_meet
                              case rel => exact ⟨_, (true), (by first | rfl | (simp; done) | (simp [*]; done)), H', ⟨by have := HJ3.out; have := HK2.out; first | omega | exact Nat.le_refl _⟩, by repeat (first | exact Drawn0.refl _ | apply Drawn0.step)⟩
                            · rw [if_neg c16] at H
                              have c16b0 : decide (0 < x25_2) = false := decide_eq_false c16
                              clear c16
                              by_cases c17 : (rd (l0.drop (a1 : Int).toNat) x25_2) > 1
                              · rw [if_pos c17] at H
                                have c17b0 : decide (1 < (rd (l0.drop (a1 : Int).toNat) x25_2)) = true := decide_eq_true c17
                                clear c17
                                have H' := Aside0.mk H
                                clear H
                                go_wp2
                                go_meet
                                case rel => exact ⟨_, ((x25_2 == 9)), (by first | rfl | (simp; done) | (simp [*]; done)), H', ⟨by have := HJ3.out; have := HK2.out; first | omega | exact Nat.le_refl _⟩, by repeat (first | exact Drawn0.refl _ | apply Drawn0.step)⟩
                              · rw [if_neg c17] at H
                                have c17b0 : decide (1 < (rd (l0.drop (a1 : Int).toNat) x25_2)) = false := decide_eq_false c17
                                clear c17
                                have H' := Aside0.mk H
                                clear H
                                go_wp2
                                go_meet
                                case rel => exact ⟨_, (false), (by first | rfl | (simp; done) | (simp [*]; done)), H', ⟨by have := HJ3.out; have := HK2.out; first | omega | exact Nat.le_refl _⟩, by repeat (first | exact Drawn0.refl _ | apply Drawn0.step)⟩
                          · rw [if_neg c15] at H
                            have c15b0 : ((rd (l0.drop (a1 : Int).toNat) x25_2) == 0) = false := beq_eq_false_iff_ne.mpr c15
                            have c15b1 : ((rd (l0.drop (a1 : Int).toNat) x25_2) != 0) = true := bne_iff_ne.mpr c15
                            by_cases c18 : (rd (l0.drop (a1 : Int).toNat) x25_2) > 1
                            · rw [if_pos c18] at H
                              have c18b0 : decide (1 < (rd (l0.drop (a1 : Int).toNat) x25_2)) = true := decide_eq_true c18
                              clear c18
                              have H' := Aside0.mk H
                              clear H
                              go_wp2
                              go_meet
                              case rel => exact ⟨_, ((x25_2 == 9)), (by first | rfl | (simp; done) | (simp [*]; done)), H', ⟨by have := HJ3.out; have := HK2.out; first | omega | exact Nat.le_refl _⟩, by repeat (first | exact Drawn0.refl _ | apply Drawn0.step)⟩
                            · rw [if_neg c18] at H
                              have c18b0 : decide (1 < (rd (l0.drop (a1 : Int).toNat) x25_2)) = false := decide_eq_false c18
                              clear c18
                              have H' := Aside0.mk H
                              clear H
                              go_wp2
                              go_meet
                              case rel => exact ⟨_, (false), (by first | rfl | (simp; done) | (simp [*]; done)), H', ⟨by have := HJ3.out; have := HK2.out; first | omega | exact Nat.le_refl _⟩, by repeat (first | exact Drawn0.refl _ | apply Drawn0.step)⟩
                      case rest =>
                        clear HC13
                        try clear c1
                        try clear p1
                        try clear q1
                        try clear hx1
                        try clear p2
                        try clear c3
                        try clear c5
                        try clear c5b0
                        try clear c6
                        try clear c7
                        try clear c7b0
                        try clear c7b1
                        try clear c8
                        try clear c8b0
                        try clear c8b1
                        try clear c10
                        try clear c10b0
                        try clear c11
                        try clear c11b0
                        try clear c12
                        try clear c12b0
                        try clear c14
                        try clear c14b0
                        try clear p14
                        try clear q14
                        try clear hx14
                        try clear c15
                        try clear c15b0
                        try clear c15b1
                        try clear c16
                        try clear c16b0
                        try clear c17
                        try clear c17b0
                        try clear c18
                        try clear c18b0
                        try clear hx149_0
                        try clear p149
                        try clear p2
                        try clear q149
                        obtain ⟨kq, x47_12, rfl, HA, HJ12, ⟨mc12, rfl⟩⟩ := hcut
                        cases kq with
                        | zero => exact absurd HA.out (by simp [wire_GetNum.j2])
                        | succ kj12 =>
                          have H := HA.out
                          clear HA
                          simp only [wire_GetNum.j2] at H
                          by_cases c19 : x47_12 = true
                          · subst c19
                            have H1 : (some (0, 0, some 2)) = some (r1, r2, r3) := by first | (rw [if_pos rfl] at H; with_reducible exact H) | exact (if_pos rfl).symm.trans H | (simp only [if_true, eq_self_iff_true] at H ⊢; exact H)
                            clear H
                            have H := H1
                            clear H1
                            simp only [Option.some.injEq, Prod.mk.injEq] at H
                            obtain ⟨rfl, rfl, rfl⟩ := H
                            go_wp2
                            go_ret3
                            exact ⟨by first | rfl | (simp; done) | (simp [*]; done), by repeat (first | exact Drawn0.refl _ | apply Drawn0.step)⟩
                          · replace c19 := Bool.eq_false_iff.mpr c19
                            subst c19
                            have H1 : (if 0 ≤ (wrap64 (7 * x25_2)) then (if (rd (l0.drop (a1 : Int).toNat) x25_2) ≥ 128 then (wire_GetNum.l0 kj12 a1 a2 (Go.bits .or .u64 x9_2 (shl .u64 (IntKind.u64.wrap (Go.bits .and .u8 (rd (l0.drop (a1 : Int).toNat) x25_2) 127)) (wrap64 (7 * x25_2)))) (l0.drop (a1 : Int).toNat) ((l0.drop (a1 : Int).toNat).length : Int) (wrap64 (x25_2 + 1))) else (if (Go.bits .or .u64 x9_2 (shl .u64 (IntKind.u64.wrap (Go.bits .and .u8 (rd (l0.drop (a1 : Int).toNat) x25_2) 127)) (wrap64 (7 * x25_2)))) > a2 then (some (0, 0, some 7)) else (some (Go.bits .or .u64 x9_2 (shl .u64 (IntKind.u64.wrap (Go.bits .and .u8 (rd (l0.drop (a1 : Int).toNat) x25_2) 127)) (wrap64 (7 * x25_2))), wrap64 ((wrap64 (a1 + x25_2)) + 1), none)))) else (none)) = some (r1, r2, r3) := by rw [if_neg (show ¬ (false = true) by decide)] at H; exact H
                            clear H
                            have H := H1
                            clear H1
                            obtain ⟨ji20, hji20⟩ : ∃ j_ : Int, (wrap64 (7 * x25_2)) = j_ := ⟨_, rfl⟩
                            replace H : (if 0 ≤ (ji20) then (if (rd (l0.drop (a1 : Int).toNat) x25_2) ≥ 128 then (wire_GetNum.l0 kj12 a1 a2 (Go.bits .or .u64 x9_2 (shl .u64 (IntKind.u64.wrap (Go.bits .and .u8 (rd (l0.drop (a1 : Int).toNat) x25_2) 127)) (ji20))) (l0.drop (a1 : Int).toNat) ((l0.drop (a1 : Int).toNat).length : Int) (wrap64 (x25_2 + 1))) else (if (Go.bits .or .u64 x9_2 (shl .u64 (IntKind.u64.wrap (Go.bits .and .u8 (rd (l0.drop (a1 : Int).toNat) x25_2) 127)) (ji20))) > a2 then (some (0, 0, some 7)) else (some (Go.bits .or .u64 x9_2 (shl .u64 (IntKind.u64.wrap (Go.bits .and .u8 (rd (l0.drop (a1 : Int).toNat) x25_2) 127)) (ji20)), wrap64 ((wrap64 (a1 + x25_2)) + 1), none)))) else (none)) = some (r1, r2, r3) := by first | (rw [hji20] at H; exact H) | (simp only [hji20] at H ⊢; exact H)
                            have hji20w : (IntKind.i64.wrap (7 * x25_2)) = ji20 := (i64_w _).trans hji20
                            by_cases c21 : 0 ≤ (ji20)
                            · rw [if_pos c21] at H
                              have c21b0 := eq_true c21
                              have c21b1 : decide (0 ≤ (ji20)) = true := decide_eq_true c21
                              clear c21
                              obtain ⟨ji22, hji22⟩ : ∃ j_ : Int, (shl .u64 (IntKind.u64.wrap (Go.bits .and .u8 (rd (l0.drop (a1 : Int).toNat) x25_2) 127)) (ji20)) = j_ := ⟨_, rfl⟩
                              replace H : (if (rd (l0.drop (a1 : Int).toNat) x25_2) ≥ 128 then (wire_GetNum.l0 kj12 a1 a2 (Go.bits .or .u64 x9_2 (ji22)) (l0.drop (a1 : Int).toNat) ((l0.drop (a1 : Int).toNat).length : Int) (wrap64 (x25_2 + 1))) else (if (Go.bits .or .u64 x9_2 (ji22)) > a2 then (some (0, 0, some 7)) else (some (Go.bits .or .u64 x9_2 (ji22), wrap64 ((wrap64 (a1 + x25_2)) + 1), none)))) = some (r1, r2, r3) := by first | (rw [hji22] at H; exact H) | (simp only [hji22] at H ⊢; exact H)
                              have hji22_ : (IntKind.u64.wrap ((IntKind.u64.wrap (Go.bits .and .u8 (rd (l0.drop (a1 : Int).toNat) x25_2) 127)) * 2 ^ min (ji20).toNat 64)) = ji22 := hji22
                              have hji22z : (ji20) ≤ 64 → (IntKind.u64.wrap ((IntKind.u64.wrap (Go.bits .and .u8 (rd (l0.drop (a1 : Int).toNat) x25_2) 127)) * 2 ^ (ji20).toNat)) = ji22 := shl_small hji22
                              by_cases c23 : (rd (l0.drop (a1 : Int).toNat) x25_2) ≥ 128
                              · rw [if_pos c23] at H
                                have c23b0 : decide (128 ≤ (rd (l0.drop (a1 : Int).toNat) x25_2)) = true := decide_eq_true c23
                                clear c23
                                have H' := Aside0.mk H
                                clear H
                                go_wp2
                                go_roundg kj12
                                case measure => have := HJ3.out; have := HK2.out; have := HJ12.out; omega
                                case rel => exact ⟨(Go.bits .or .u64 x9_2 (ji22)), (wrap64 (x25_2 + 1)), (by first | rfl | (simp; done) | (simp only [← hji22] <;> (first | rfl | simp)) | (simp [*]; done)), (by first | rfl | (simp; done) | (simp [*]; done)), H', ⟨by have := HJ3.out; have := HK2.out; have := HJ12.out; omega⟩, by repeat (first | exact Drawn0.refl _ | apply Drawn0.step)⟩
                              · rw [if_neg c23] at H
                                have c23b0 : decide (128 ≤ (rd (l0.drop (a1 : Int).toNat) x25_2)) = false := decide_eq_false c23
                                clear c23
                                by_cases c24 : (Go.bits .or .u64 x9_2 (ji22)) > a2
                                · rw [if_pos c24] at H
                                  have c24b0 : decide (a2 < (Go.bits .or .u64 x9_2 (ji22))) = true := decide_eq_true c24
                                  clear c24
                                  simp only [Option.some.injEq, Prod.mk.injEq] at H
                                  obtain ⟨rfl, rfl, rfl⟩ := H
                                  go_wp2
                                  go_ret3
                                  exact ⟨by first | rfl | (simp; done) | (simp only [← hji20, ← hji22] <;> (first | rfl | simp)) | (simp [*]; done), by repeat (first | exact Drawn0.refl _ | apply Drawn0.step)⟩
                                · rw [if_neg c24] at H
                                  have c24b0 : decide (a2 < (Go.bits .or .u64 x9_2 (ji22))) = false := decide_eq_false c24
                                  clear c24
                                  simp only [Option.some.injEq, Prod.mk.injEq] at H
                                  obtain ⟨rfl, rfl, rfl⟩ := H
                                  go_wp2
                                  go_ret3
                                  exact ⟨by first | rfl | (simp; done) | (simp only [← hji20, ← hji22] <;> (first | rfl | simp)) | (simp [*]; done), by repeat (first | exact Drawn0.refl _ | apply Drawn0.step)⟩
                            · rw [if_neg c21] at H
                              exact absurd H (by simp)
                    · rw [if_neg c12] at H
                      exact absurd H (by simp)
                  · rw [if_neg c11] at H
                    exact absurd H (by simp)
                · rw [if_neg c10] at H
                  have c10b0 : decide (x25_2 < ((l0.drop (a1 : Int).toNat).length : Int)) = false := decide_eq_false c10
                  have c10b0z : decide (x25_2 < ((l0.length - (a1 : Int).toNat : Nat) : Int)) = false := by have q_ := c10b0; rw [List.length_drop] at q_; exact q_
                  clear c10
                  simp only [Option.some.injEq, Prod.mk.injEq] at H
                  obtain ⟨rfl, rfl, rfl⟩ := H
                  go_wp2
                  go_ret3
                  exact ⟨by first | rfl | (simp; done) | (simp [*]; done), by repeat (first | exact Drawn0.refl _ | apply Drawn0.step)⟩
          · rw [if_neg c8] at H
            exact absurd H (by simp)
        · rw [if_neg c7] at H
          exact absurd H (by simp)
def wire_GetText.j0 : Nat → List Int → Int → Int → Bool → Option (ByteArray × Int × Option Int)
  | 0, _, _, _, _ => none
  | k + 1, x0, x1, x2, x18 => if x18 = true then (some ((⟨#[]⟩ : ByteArray), 0, some 1)) else ((wire_GetNum.f k x0 x1 (IntKind.u64.wrap (x2))).bind fun bt150 => (if bt150.2.2.isNone = true then (if (wrap64 (bt150.2.1 + (wrap64 (bt150.1)))) > (x0.length : Int) then (some ((⟨#[]⟩ : ByteArray), 0, some 2)) else (if 0 ≤ bt150.2.1 then (if bt150.2.1 ≤ (wrap64 (bt150.2.1 + (wrap64 (bt150.1)))) then (if (wrap64 (bt150.2.1 + (wrap64 (bt150.1)))) ≤ (x0.length : Int) then (some (strOfNums ((x0.take ((wrap64 (bt150.2.1 + (wrap64 (bt150.1)))) : Int).toNat).drop (bt150.2.1 : Int).toNat), wrap64 (bt150.2.1 + (wrap64 (bt150.1))), none)) else (none)) else (none)) else (none))) else (some ((⟨#[]⟩ : ByteArray), 0, some (bt150.2.2.getD 0)))))
def wire_GetText.f (k : Nat) (l0 : List Int) (a1 : Int) (a2 : Int) : Option (ByteArray × Int × Option Int) := if a2 < 0 then (wire_GetText.j0 k l0 a1 a2 true) else (wire_GetText.j0 k l0 a1 a2 (decide (a2 > 4096)))
set_option maxHeartbeats 8000000 in
set_option maxRecDepth 100000 in
theorem wire_GetText.calls (k : Nat) (A0 : Option Addr) (c0 : Nat) (l0 : List Int) (a1 : Int) (a2 : Int) (r1 : ByteArray) (r2 : Int) (r3 : Option Int) (w : World) (hr0 : Kd.C (Kd.int .u8) w A0 l0.length l0) (hc0 : l0.length ≤ c0) (h : wire_GetText.f k l0 a1 a2 = some (r1, r2, r3)) :
    Calls Tryd.prog 36 #[.slice A0 l0.length c0, .int .i64 a1, .int .i64 a2] w fun e w' => e = .returned (.tuple #[.string r1, .int .i64 r2, errW r3]) ∧ Drawn0 w w' := by
  have hu30 := Tryd.underlying30
  have hu36 := Tryd.underlying36
  have HR0 := Aside0.mk hr0
  have HC0 := Aside0.mk hc0
  clear hr0 hc0
  have H : (if a2 < 0 then (wire_GetText.j0 k l0 a1 a2 true) else (wire_GetText.j0 k l0 a1 a2 (decide (a2 > 4096)))) = some (r1, r2, r3) := h
  clear h
  have HC4 := Aside0.mk H
  clear H
  go_enter Tryd.func36, Tryd.ntmps36
  go_upto_region 1 with (fail)
  go_cut [18] (fun v18 wc => ∃ (kq : Nat) (x18_3 : Bool), v18 = .bool x18_3 ∧ Aside0 (wire_GetText.j0 kq l0 a1 a2 x18_3 = some (r1, r2, r3)) ∧ Aside0 (kq ≤ k) ∧ Drawn0 w wc)
  case first =>
    have H := HC4.out
    clear HC4
    by_cases c5 : a2 < 0
    · rw [if_pos c5] at H
      have c5b0 : decide (a2 < 0) = true := decide_eq_true c5
      clear c5
      (first | rw [c5b0] | (simp only [i64_w, i32_w]; rw [c5b0]) | skip)
      have H' := Aside0.mk H
      clear H
      go_wp2
      go_meet
      case rel => exact ⟨_, (true), (by first | rfl | (simp; done) | (simp [*]; done)), H', ⟨by first | omega | exact Nat.le_refl _⟩, by repeat (first | exact Drawn0.refl _ | apply Drawn0.step)⟩
    · rw [if_neg c5] at H
      have c5b0 : decide (a2 < 0) = false := decide_eq_false c5
      clear c5
      (first | rw [c5b0] | (simp only [i64_w, i32_w]; rw [c5b0]) | skip)
      have H' := Aside0.mk H
      clear H
      go_wp2
      go_meet
      case rel => exact ⟨_, (decide (a2 > 4096)), (by first | rfl | (simp; done) | (simp [*]; done)), H', ⟨by first | omega | exact Nat.le_refl _⟩, by repeat (first | exact Drawn0.refl _ | apply Drawn0.step)⟩
  case rest =>
    clear HC4
    try clear p2
    try clear c3
    try clear c5
    try clear c5b0
    obtain ⟨kq, x18_3, rfl, HA, HJ3, ⟨mc3, rfl⟩⟩ := hcut
    cases kq with
    | zero => exact absurd HA.out (by simp [wire_GetText.j0])
    | succ kj3 =>
      have H := HA.out
      clear HA
      simp only [wire_GetText.j0] at H
      by_cases c6 : x18_3 = true
      · subst c6
        have H1 : (some ((⟨#[]⟩ : ByteArray), 0, some 1)) = some (r1, r2, r3) := by first | (rw [if_pos rfl] at H; with_reducible exact H) | exact (if_pos rfl).symm.trans H | (simp only [if_true, eq_self_iff_true] at H ⊢; exact H)
        clear H
        have H := H1
        clear H1
        simp only [Option.some.injEq, Prod.mk.injEq] at H
        obtain ⟨rfl, rfl, rfl⟩ := H
        go_wp2
        go_ret3
        exact ⟨by first | rfl | (simp; done) | (simp [*]; done), by repeat (first | exact Drawn0.refl _ | apply Drawn0.step)⟩
      · replace c6 := Bool.eq_false_iff.mpr c6
        subst c6
        have H1 : ((wire_GetNum.f kj3 l0 a1 (IntKind.u64.wrap (a2))).bind fun bt150 => (if bt150.2.2.isNone = true then (if (wrap64 (bt150.2.1 + (wrap64 (bt150.1)))) > (l0.length : Int) then (some ((⟨#[]⟩ : ByteArray), 0, some 2)) else (if 0 ≤ bt150.2.1 then (if bt150.2.1 ≤ (wrap64 (bt150.2.1 + (wrap64 (bt150.1)))) then (if (wrap64 (bt150.2.1 + (wrap64 (bt150.1)))) ≤ (l0.length : Int) then (some (strOfNums ((l0.take ((wrap64 (bt150.2.1 + (wrap64 (bt150.1)))) : Int).toNat).drop (bt150.2.1 : Int).toNat), wrap64 (bt150.2.1 + (wrap64 (bt150.1))), none)) else (none)) else (none)) else (none))) else (some ((⟨#[]⟩ : ByteArray), 0, some (bt150.2.2.getD 0))))) = some (r1, r2, r3) := by rw [if_neg (show ¬ (false = true) by decide)] at H; exact H
        clear H
        have H := H1
        clear H1
        replace H := Option.bind_eq_some_iff.mp H
        obtain ⟨⟨t150, t151, t152⟩, A70, H⟩ := H
        replace H : (if t152.isNone = true then (if (wrap64 (t151 + (wrap64 (t150)))) > (l0.length : Int) then (some ((⟨#[]⟩ : ByteArray), 0, some 2)) else (if 0 ≤ t151 then (if t151 ≤ (wrap64 (t151 + (wrap64 (t150)))) then (if (wrap64 (t151 + (wrap64 (t150)))) ≤ (l0.length : Int) then (some (strOfNums ((l0.take ((wrap64 (t151 + (wrap64 (t150)))) : Int).toNat).drop (t151 : Int).toNat), wrap64 (t151 + (wrap64 (t150))), none)) else (none)) else (none)) else (none))) else (some ((⟨#[]⟩ : ByteArray), 0, some (t152.getD 0)))) = some (r1, r2, r3) := H
        have A7 := Aside0.mk A70
        clear A70
        rcases t152 with _ | q153
        · have H1 : (if (wrap64 (t151 + (wrap64 (t150)))) > (l0.length : Int) then (some ((⟨#[]⟩ : ByteArray), 0, some 2)) else (if 0 ≤ t151 then (if t151 ≤ (wrap64 (t151 + (wrap64 (t150)))) then (if (wrap64 (t151 + (wrap64 (t150)))) ≤ (l0.length : Int) then (some (strOfNums ((l0.take ((wrap64 (t151 + (wrap64 (t150)))) : Int).toNat).drop (t151 : Int).toNat), wrap64 (t151 + (wrap64 (t150))), none)) else (none)) else (none)) else (none))) = some (r1, r2, r3) := by rw [if_pos (show (none : Option Int).isNone = true by rfl)] at H; exact H
          clear H
          have H := H1
          clear H1
          try simp only [errW_none, errW_some]
          by_cases c8 : (wrap64 (t151 + (wrap64 (t150)))) > (l0.length : Int)
          · rw [if_pos c8] at H
            have c8b0 : decide ((l0.length : Int) < (wrap64 (t151 + (wrap64 (t150))))) = true := decide_eq_true c8
            clear c8
            simp only [Option.some.injEq, Prod.mk.injEq] at H
            obtain ⟨rfl, rfl, rfl⟩ := H
            go_wp2_with (first | ((with_reducible refine gate_callee (f := 35) rfl ?_); refine goesL_ (some 25) rfl rfl Tryd.func35 (by kernel_rfl) rfl #[.slice A0 l0.length c0, .int .i64 a1, .int .u64 (IntKind.u64.wrap (a2))] rfl (by (try simp only [List.map_toArray, List.map_cons, List.map_nil]); first | done | rfl | (simp only [List.length_drop, List.length_take]; rfl)) ?_; (with_reducible refine (wire_GetNum.calls kj3 _ _ l0 a1 (IntKind.u64.wrap (a2)) t150 t151 none _ ?side1 ?side2 A7.out).mono ?_); (case side1 => repeat (first | exact HR0.out | (with_reducible refine Kd.C_alloc ?_ _) | (with_reducible refine Kd.C_drewN ?_ _) | (with_reducible refine Kd.C_drew ?_))); (case side2 => exact HC0.out); rintro e w' ⟨rfl, ⟨nd, rfl⟩⟩; refine ⟨_, rfl, ?_⟩; (try simp only [errW_none, errW_some])))
            go_ret3
            exact ⟨by first | rfl | (simp; done) | (simp [*]; done), by repeat (first | exact Drawn0.refl _ | apply Drawn0.step)⟩
          · rw [if_neg c8] at H
            have c8b0 : decide ((l0.length : Int) < (wrap64 (t151 + (wrap64 (t150))))) = false := decide_eq_false c8
            clear c8
            by_cases c9 : 0 ≤ t151
            · rw [if_pos c9] at H
              have c9b0 := eq_true c9
              have c9b1 : decide (0 ≤ t151) = true := decide_eq_true c9
              clear c9
              by_cases c10 : t151 ≤ (wrap64 (t151 + (wrap64 (t150))))
              · rw [if_pos c10] at H
                have c10b0 := eq_true c10
                have c10b1 : decide (t151 ≤ (wrap64 (t151 + (wrap64 (t150))))) = true := decide_eq_true c10
                by_cases c11 : (wrap64 (t151 + (wrap64 (t150)))) ≤ (l0.length : Int)
                · rw [if_pos c11] at H
                  have c11b0 := eq_true c11
                  have c11b1 : decide ((wrap64 (t151 + (wrap64 (t150)))) ≤ (l0.length : Int)) = true := decide_eq_true c11
                  simp only [Option.some.injEq, Prod.mk.injEq] at H
                  obtain ⟨rfl, rfl, rfl⟩ := H
                  go_wp2_with (first | ((with_reducible refine gate_callee (f := 35) rfl ?_); refine goesL_ (some 25) rfl rfl Tryd.func35 (by kernel_rfl) rfl #[.slice A0 l0.length c0, .int .i64 a1, .int .u64 (IntKind.u64.wrap (a2))] rfl (by (try simp only [List.map_toArray, List.map_cons, List.map_nil]); first | done | rfl | (simp only [List.length_drop, List.length_take]; rfl)) ?_; (with_reducible refine (wire_GetNum.calls kj3 _ _ l0 a1 (IntKind.u64.wrap (a2)) t150 t151 none _ ?side1 ?side2 A7.out).mono ?_); (case side1 => repeat (first | exact HR0.out | (with_reducible refine Kd.C_alloc ?_ _) | (with_reducible refine Kd.C_drewN ?_ _) | (with_reducible refine Kd.C_drew ?_))); (case side2 => exact HC0.out); rintro e w' ⟨rfl, ⟨nd, rfl⟩⟩; refine ⟨_, rfl, ?_⟩; (try simp only [errW_none, errW_some]); obtain ⟨i012, hi012, _, hsz12, _⟩ := info_parts info5; obtain ⟨A12, hcut12, hA12, hC12⟩ := print_mid_of (P := Tryd.prog) (Value.int .u8) 0 32 5 .i64 .i64 Tryd.underlying32 hi012 hsz12 A0 c0 l0 t151 (wrap64 (t151 + (wrap64 (t150)))) (of_decide_eq_true (by first | (with_reducible assumption) | assumption)) (by first | omega | exact of_decide_eq_true (by first | (with_reducible assumption) | assumption)) (of_decide_eq_true (by first | (with_reducible assumption) | assumption)) HC0.out; have HR154 := Aside0.mk (Kd.C_of_reads (h1 := fun _ => rfl) (hA12 _ (Kd.reads_of_C HR0.out))); have HC154 := Aside0.mk hC12; clear hA12 hC12 hi012 hsz12; have hcv13 := Kd.C_string (P := Tryd.prog) (A := A12) (c := (c0 - t151.toNat)) Tryd.underlying32 Tryd.underlying5 Tryd.underlying9 HR154.out; have hcv14 := fun n_ : Nat => Kd.C_string (P := Tryd.prog) (A := A12) (c := (c0 - t151.toNat)) Tryd.underlying32 Tryd.underlying5 Tryd.underlying9 (Kd.C_drewN HR154.out n_); have hl_hcv13 : (List.drop (t151 : Int).toNat (List.take ((wrap64 (t151 + (wrap64 (t150)))) : Int).toNat l0)).length = ((wrap64 (t151 + (wrap64 (t150)))) : Int).toNat - (t151 : Int).toNat := (by rw [List.length_drop, List.length_take, Nat.min_eq_left (by have q_ := of_decide_eq_true (by assumption : decide ((wrap64 (t151 + (wrap64 (t150)))) ≤ (l0.length : Int)) = true); omega)]); have hcv13L := hcv13; rw [hl_hcv13] at hcv13L; have hcv13M := hcv14; simp only [hl_hcv13] at hcv13M; clear hl_hcv13))
                  go_ret3
                  exact ⟨by first | rfl | (simp; done) | (simp [*]; done), by repeat (first | exact Drawn0.refl _ | apply Drawn0.step)⟩
                · rw [if_neg c11] at H
                  exact absurd H (by simp)
              · rw [if_neg c10] at H
                exact absurd H (by simp)
            · rw [if_neg c9] at H
              exact absurd H (by simp)
        · have H1 : (some ((⟨#[]⟩ : ByteArray), 0, some q153)) = some (r1, r2, r3) := by rw [if_neg (show ¬ (some q153).isNone = true by simp)] at H; exact H
          clear H
          have H := H1
          clear H1
          try simp only [errW_none, errW_some]
          simp only [Option.some.injEq, Prod.mk.injEq] at H
          obtain ⟨rfl, rfl, rfl⟩ := H
          go_wp2_with (first | ((with_reducible refine gate_callee (f := 35) rfl ?_); refine goesL_ (some 25) rfl rfl Tryd.func35 (by kernel_rfl) rfl #[.slice A0 l0.length c0, .int .i64 a1, .int .u64 (IntKind.u64.wrap (a2))] rfl (by (try simp only [List.map_toArray, List.map_cons, List.map_nil]); first | done | rfl | (simp only [List.length_drop, List.length_take]; rfl)) ?_; (with_reducible refine (wire_GetNum.calls kj3 _ _ l0 a1 (IntKind.u64.wrap (a2)) t150 t151 (some q153) _ ?side1 ?side2 A7.out).mono ?_); (case side1 => repeat (first | exact HR0.out | (with_reducible refine Kd.C_alloc ?_ _) | (with_reducible refine Kd.C_drewN ?_ _) | (with_reducible refine Kd.C_drew ?_))); (case side2 => exact HC0.out); rintro e w' ⟨rfl, ⟨nd, rfl⟩⟩; refine ⟨_, rfl, ?_⟩; (try simp only [errW_none, errW_some])))
          go_ret3
          exact ⟨by first | rfl | (simp; done) | (simp [*]; done), by repeat (first | exact Drawn0.refl _ | apply Drawn0.step)⟩
def order_Get.f (k : Nat) (l0 : List Int) : Option (Int × Int × Int × ByteArray × ByteArray × List ByteArray × Int × Option Int) :=
  if (l0.all fun x => decide (0 ≤ x) && decide (x ≤ 255)) = true ∧ l0.length ≤ 1000000 then
    (order_Check.f k (Go.Proofs.YtghfofjlafeliaaDoor.Order.headOf l0).cl.1 (Go.Proofs.YtghfofjlafeliaaDoor.Order.headOf l0).tm.1 (Go.Proofs.YtghfofjlafeliaaDoor.Order.headOf l0).kd.1 (Go.Proofs.YtghfofjlafeliaaDoor.Order.headOf l0).nm.1 (Go.Proofs.YtghfofjlafeliaaDoor.Order.headOf l0).pt.1 (Go.Proofs.YtghfofjlafeliaaDoor.Order.keysOfL l0).1 (Go.Proofs.YtghfofjlafeliaaDoor.Order.headOf l0).n.1).bind fun ck =>
      if Go.Proofs.YtghfofjlafeliaaDoor.Order.wholeOf l0 = true ∧ ck = none then some ((Go.Proofs.YtghfofjlafeliaaDoor.Order.headOf l0).cl.1, (Go.Proofs.YtghfofjlafeliaaDoor.Order.headOf l0).tm.1, (Go.Proofs.YtghfofjlafeliaaDoor.Order.headOf l0).kd.1, (Go.Proofs.YtghfofjlafeliaaDoor.Order.headOf l0).nm.1, (Go.Proofs.YtghfofjlafeliaaDoor.Order.headOf l0).pt.1, (Go.Proofs.YtghfofjlafeliaaDoor.Order.keysOfL l0).1, (Go.Proofs.YtghfofjlafeliaaDoor.Order.headOf l0).n.1, none)
      else some (0, 0, 0, ⟨#[]⟩, ⟨#[]⟩, [], 0, some 2)
  else none
theorem order_Get.calls (k : Nat) (A0 : Option Addr) (c0 : Nat) (l0 : List Int) (r1 : Int) (r2 : Int) (r3 : Int) (r4 : ByteArray) (r5 : ByteArray) (r6 : List ByteArray) (r7 : Int) (r8 : Option Int) (w : World) (hr0 : Kd.C (Kd.int .u8) w A0 l0.length l0) (hc0 : l0.length ≤ c0) (h : order_Get.f k l0 = some (r1, r2, r3, r4, r5, r6, r7, r8)) :
    Calls Tryd.prog 14 #[.slice A0 l0.length c0] w fun e w' => ∃ v5_ : Value, e = .returned (.tuple #[.agg #[.int .i64 r1, .int .i64 r2, .int .i64 r3, .string r4, .string r5, v5_, .int .i64 r7], errW r8]) ∧ Kd.R Kd.string 9 w' w.heap.size (fun _ => True) v5_ r6 ∧ Below w.heap.size w w' := by
  unfold order_Get.f at h
  split at h
  · rename_i hh
    have hb : Go.Proofs.YtghfofjlafeliaaDoor.Order.bytesOk l0 := fun x hx => by
      have := List.all_eq_true.1 hh.1 x hx
      simpa using this
    obtain ⟨ck, hck, h⟩ := Option.bind_eq_some_iff.1 h
    have he : ∀ c : Option Int, errW c = Go.Proofs.YtghfofjlafeliaaDoor.Order.ckV c := fun c => by cases c <;> rfl
    refine (Go.Proofs.YtghfofjlafeliaaDoor.Order.get_calls w A0 c0 l0 hr0 hc0 hb hh.2 ck (fun W A1 c1 hC hc => ?_)).mono ?_
    · rw [← he]
      exact order_Check.calls k _ _ _ _ _ A1 c1 _ _ ck W hC hc hck
    · rintro e w' ⟨hp, hbel⟩
      split at hp
      · rename_i hw
        rw [if_pos hw] at h
        obtain ⟨v, rfl, hr⟩ := hp
        simp only [Option.some.injEq, Prod.mk.injEq] at h
        obtain ⟨rfl, rfl, rfl, rfl, rfl, rfl, rfl, rfl⟩ := h
        exact ⟨v, rfl, hr, hbel⟩
      · rename_i hw
        rw [if_neg hw] at h
        subst hp
        simp only [Option.some.injEq, Prod.mk.injEq] at h
        obtain ⟨rfl, rfl, rfl, rfl, rfl, rfl, rfl, rfl⟩ := h
        exact ⟨_, rfl, Kd.R_nil _ _ _ _ _, hbel⟩
  · cases h
def becketlaw08_up.f (k : Nat) : Option Bool := (order_Put.f k 1 2 5 (⟨#[]⟩ : ByteArray) (⟨#[]⟩ : ByteArray) ([] : List ByteArray) 0).bind fun p => (order_Get.f k ([] : List Int)).bind fun g => if p.1 = [1, 2, 5, 0, 0, 0, 0] ∧ p.2 = none ∧ g.2.2.2.2.2.2.2 = some 2 then some true else none
set_option maxHeartbeats 4000000 in
set_option maxRecDepth 100000 in
theorem becketlaw08_up.calls (k : Nat) (r : Bool) (w : World) (h : becketlaw08_up.f k = some r) :
    Calls Tryd.prog 8 #[] w fun e w' => e = .returned (.bool r) ∧ Below w.heap.size w w' := by
  unfold becketlaw08_up.f at h
  obtain ⟨⟨p1, p2⟩, hp, h⟩ := Option.bind_eq_some_iff.1 h
  obtain ⟨⟨g1, g2, g3, g4, g5, g6, g7, g8⟩, hg, h⟩ := Option.bind_eq_some_iff.1 h
  simp only at h
  split at h
  · rename_i hh
    obtain ⟨rfl, rfl, rfl⟩ := hh
    obtain rfl := Option.some.inj h
    have hP := fun W : World => order_Put.calls k 1 2 5 (⟨#[]⟩ : ByteArray) (⟨#[]⟩ : ByteArray) none 0 ([] : List ByteArray) 0 _ _ W (Kd.C_nil _ _) (Nat.le_refl _) hp
    have hG := fun W : World => order_Get.calls k none 0 ([] : List Int) _ _ _ _ _ _ _ _ W (Kd.C_nil _ _) (Nat.le_refl _) hg
    have HP := Lib.hid hP
    have HG := Lib.hid hG
    clear hP hG hp hg h
    go_enter Tryd.func8, Tryd.ntmps8
    go_wp2_with fail
    refine (HP.out _).mono ?_
    rintro e w1 ⟨v, rfl, hr, hb⟩
    obtain ⟨A1, c1, rfl⟩ := Kd.R_slice hr
    have HR := Lib.hid hr
    have HB := Lib.hid hb
    clear hr hb HP
    rw [errW_none]
    go_wp2_with fail
    refine (HG.out _).mono ?_
    rintro e w2 ⟨v5, rfl, hr2, hb2⟩
    obtain ⟨A5, c5, rfl⟩ := Kd.R_slice hr2
    have HR2 := Lib.hid (Kd.R_below HR.out hb2)
    have HB2 := Lib.hid (HB.out.trans (hb2.mono HB.out.size))
    have hcv := fun (o : Obj) => own_string (P := Tryd.prog) Tryd.underlying32 Tryd.underlying5 Tryd.underlying9 (Kd.own_of_R (Kd.R_alloc HR2.out o))
    simp only [List.length_cons, List.length_nil, Nat.zero_add, Nat.reduceAdd] at hcv
    rw [show strOfNums [1, 2, 5, 0, 0, 0, 0] = ({ data := #[1, 2, 5, 0, 0, 0, 0] } : ByteArray) from by decide] at hcv
    clear hr2 hb2 HG HR
    rw [errW_some]
    go_wp2
    go_ret
    exact ⟨by first | rfl | simp, HB2.out.alloc HB2.out.size _⟩
  · cases h
end Go.Proofs.YtghfofjlafeliaaDoor.Or
