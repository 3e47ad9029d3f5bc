-- Cut.
import Derived.Test.YtlcfcaokihoplaaGreatDoorMwx0Cp
namespace Go.Proofs.YtlcfcaokihoplaaGreatDoor.Mw
open Go.RowKit Go.Proofs.YzW.PrintWords Go.Proofs.YzW.PrintLast Go.Proofs.YzW.PrintMore
attribute [local go_sem] cg_ ce_ cw_ cv_ by_ bx_ cf_ cd_
set_option linter.unusedVariables false
set_option linter.unusedSimpArgs false
attribute [local go_sem] eqlErr neqErr eqlErrNil neqErrNil
mutual
def au_.j0 : Nat → List Int → Int → Int → Bool → Option (Int × Int × Option Int)
 | 0, _, _, _, _ => none
 | k + 1, x0, x1, x2, x19 => if x19 = true then (some (0, 0, some 1)) else (if 0 ≤ x1 then (if x1 ≤ (x0.length : Int) then (au_.l0 k x1 x2 0 (x0.drop (x1 : Int).toNat) ((x0.drop (x1 : Int).toNat).length : Int) 0) else (none)) else (none))
def au_.l0 : Nat → Int → Int → Int → List Int → Int → Int → Option (Int × Int × Option Int)
 | 0, _, _, _, _, _, _ => none
 | k + 1, x1, x2, x9, x23, x24, x25 => if x25 < x24 then (if 0 ≤ x25 then (if x25 < (x23.length : Int) then (if x25 ≥ 10 then (au_.j2 k x1 x2 x9 x25 (rd x23 x25) x23 x24 x25 true) else (if (rd x23 x25) = 0 then (if x25 > 0 then (au_.j2 k x1 x2 x9 x25 (rd x23 x25) x23 x24 x25 true) else (if (rd x23 x25) > 1 then (au_.j2 k x1 x2 x9 x25 (rd x23 x25) x23 x24 x25 (x25 == 9)) else (au_.j2 k x1 x2 x9 x25 (rd x23 x25) x23 x24 x25 false))) else (if (rd x23 x25) > 1 then (au_.j2 k x1 x2 x9 x25 (rd x23 x25) x23 x24 x25 (x25 == 9)) else (au_.j2 k x1 x2 x9 x25 (rd x23 x25) x23 x24 x25 false)))) else (none)) else (none)) else (some (0, 0, some 2))
def au_.j2 : Nat → Int → Int → Int → Int → Int → List Int → Int → Int → Bool → Option (Int × Int × Option Int)
 | 0, _, _, _, _, _, _, _, _, _ => none
 | k + 1, x1, x2, x9, x10, x11, x23, x24, x25, x47 => if x47 = true then (some (0, 0, some 2)) else (if 0 ≤ (wrap64 (7 * x10)) then (if x11 ≥ 128 then (au_.l0 k x1 x2 (Go.bits .or .u64 x9 (shl .u64 (IntKind.u64.wrap (Go.bits .and .u8 x11 127)) (wrap64 (7 * x10)))) x23 x24 (wrap64 (x25 + 1))) else (if (Go.bits .or .u64 x9 (shl .u64 (IntKind.u64.wrap (Go.bits .and .u8 x11 127)) (wrap64 (7 * x10)))) > x2 then (some (0, 0, some 7)) else (some (Go.bits .or .u64 x9 (shl .u64 (IntKind.u64.wrap (Go.bits .and .u8 x11 127)) (wrap64 (7 * x10))), wrap64 ((wrap64 (x1 + x10)) + 1), none)))) else (none))
end
def au_.f (k : Nat) (l0 : List Int) (a1 : Int) (a2 : Int) : Option (Int × Int × Option Int) := if a1 < 0 then (au_.j0 k l0 a1 a2 true) else (au_.j0 k l0 a1 a2 (decide (a1 > (l0.length : Int))))
set_option maxHeartbeats 8000000 in
set_option maxRecDepth 100000 in
theorem au_.calls (k : Nat) (A0 : Option Addr) (c0 : Nat) (l0 : List Int) (a1 : Int) (a2 : Int) (r1 : Int) (r2 : Int) (r3 : Option Int) (w : World) (hr0 : Kd.C (Kd.int .u8) w A0 l0.length l0) (hc0 : l0.length ≤ c0) (h : au_.f k l0 a1 a2 = some (r1, r2, r3)) :
  Calls Tryz.prog 51 #[.slice A0 l0.length c0, .int .i64 a1, .int .u64 a2] w fun e w' => e = .returned (.tuple #[.int .u64 r1, .int .i64 r2, errW r3]) ∧ ax_ w w' := by
 have hu26 := Tryz.underlying26
 have hu29 := Tryz.underlying29
 have HR0 := c_.mk hr0
 have HC0 := c_.mk hc0
 clear hr0 hc0
 have H : (if a1 < 0 then (au_.j0 k l0 a1 a2 true) else (au_.j0 k l0 a1 a2 (decide (a1 > (l0.length : Int))))) = some (r1, r2, r3) := h
 clear h
 have HC4 := c_.mk H
 clear H
 go_enter Tryz.func51, Tryz.ntmps51
 go_upto_region 1 with (fail)
 go_cut [19] (fun v19 wc => ∃ (kq : Nat) (x19_3 : Bool), v19 = .bool x19_3 ∧ c_ (au_.j0 kq l0 a1 a2 x19_3 = some (r1, r2, r3)) ∧ c_ (kq ≤ k) ∧ ax_ w wc)
 case first =>
  have H := HC4.out
  clear HC4
  by_cases c5 : a1 < 0
  ·rw [if_pos c5] at H
   have c5b0 : decide (a1 < 0) = true := decide_eq_true c5
   clear c5
   (first | rw [c5b0] | (simp only [af_, ag_]; rw [c5b0]) | skip)
   have H' := c_.mk H
   clear H
   go_wp2
   go_meet
   case rel => exact ⟨_, (true), (by first | rfl | (simp; done) | (simp [*]; done)), H', ⟨by first | omega | exact Nat.le_refl _⟩, by repeat (first | exact ax_.refl _ | apply ax_.step)⟩
  ·rw [if_neg c5] at H
   have c5b0 : decide (a1 < 0) = false := decide_eq_false c5
   clear c5
   (first | rw [c5b0] | (simp only [af_, ag_]; rw [c5b0]) | skip)
   have H' := c_.mk H
   clear H
   go_wp2
   go_meet
   case rel => exact ⟨_, (decide (a1 > (l0.length : Int))), (by first | rfl | (simp; done) | (simp [*]; done)), H', ⟨by first | omega | exact Nat.le_refl _⟩, by repeat (first | exact ax_.refl _ | apply ax_.step)⟩
 case rest =>
  clear HC4
  try clear p2
  try clear c5
  try clear c5b0
  obtain ⟨kq, x19_3, rfl, HA, HJ3, ⟨mc3, rfl⟩⟩ := hcut
  cases kq with
  | zero => exact absurd HA.out (by simp [au_.j0])
  | succ kj3 =>
   have H := HA.out
   clear HA
   simp only [au_.j0] at H
   by_cases c6 : x19_3 = true
   ·subst c6
    have H1 : (some (0, 0, some 1)) = some (r1, r2, r3) := by first | (rw [if_pos rfl] at H; with_reducible exact H) | exact (if_pos rfl).symm.trans H | (simp only [if_true, eq_self_iff_true] at H ⊢; exact H)
    clear H
    have H := H1
    clear H1
    simp only [Option.some.injEq, Prod.mk.injEq] at H
    obtain ⟨rfl, rfl, rfl⟩ := H
    go_wp2
    go_ret3
    exact eD_
   ·replace c6 := Bool.eq_false_iff.mpr c6
    subst c6
    have H1 : (if 0 ≤ a1 then (if a1 ≤ (l0.length : Int) then (au_.l0 kj3 a1 a2 0 (l0.drop (a1 : Int).toNat) ((l0.drop (a1 : Int).toNat).length : Int) 0) else (none)) else (none)) = some (r1, r2, r3) := by rw [if_neg (show ¬ (false = true) by decide)] at H; exact H
    clear H
    have H := H1
    clear H1
    by_cases c7 : 0 ≤ a1
    ·rw [if_pos c7] at H
     have c7b0 := eq_true c7
     have c7b1 : decide (0 ≤ a1) = true := decide_eq_true c7
     clear c7
     by_cases c8 : a1 ≤ (l0.length : Int)
     ·rw [if_pos c8] at H
      have c8b0 := eq_true c8
      have c8b1 : decide (a1 ≤ (l0.length : Int)) = true := decide_eq_true c8
      clear c8
      have H' := c_.mk H
      clear H
      obtain ⟨i09, hi09, _, hsz9, _⟩ := info_parts info5
      obtain ⟨A9, hcut9, hA9, hC9⟩ := print_drop_of (P := Tryz.prog) (Value.int .u8) 0 70 5 .i64 Tryz.underlying70 hi09 hsz9 A0 c0 l0 a1 (of_decide_eq_true (by first | (with_reducible assumption) | assumption)) (of_decide_eq_true (by first | (with_reducible assumption) | assumption)) HC0.out
      have HR101 := c_.mk (Kd.C_of_reads (h1 := fun _ => rfl) (hA9 _ (Kd.reads_of_C HR0.out)))
      have HC101 := c_.mk hC9
      clear hA9 hC9 hi09 hsz9
      go_wp2
      go_loopg [9, 25] kj3 (fun kq v9 v25 w' => ∃ (x9_2 : Int) (x25_2 : Int), v9 = .int .u64 x9_2 ∧ v25 = .int .i64 x25_2 ∧ c_ (au_.l0 kq a1 a2 x9_2 (l0.drop (a1 : Int).toNat) ((l0.drop (a1 : Int).toNat).length : Int) x25_2 = some (r1, r2, r3)) ∧ c_ (kq ≤ kj3) ∧ ax_ w w')
      case atStart => exact ⟨(0), (0), (by first | rfl | (simp; done) | (simp [*]; done)), (by first | rfl | (simp; done) | (simp [*]; done)), H', ⟨Nat.le_refl _⟩, by repeat (first | exact ax_.refl _ | apply ax_.step)⟩
      case round =>
       clear H'
       try clear p2
       try clear c3
       try clear c5
       try clear c5b0
       try clear c6
       try clear c7
       try clear c7b0
       try clear c7b1
       try clear c8
       try clear c8b0
       try clear c8b1
       try clear p2
       obtain ⟨x9_2, x25_2, rfl, rfl, HA, HK2, ⟨m2, rfl⟩⟩ := hrel
       cases gk with
       | zero => exact absurd HA.out (by simp [au_.l0])
       | succ k2 =>
        have H := HA.out
        clear HA
        simp only [au_.l0] at H
        by_cases c10 : x25_2 < ((l0.drop (a1 : Int).toNat).length : Int)
        ·rw [if_pos c10] at H
         have c10b0 : decide (x25_2 < ((l0.drop (a1 : Int).toNat).length : Int)) = true := decide_eq_true c10
         clear c10
         by_cases c11 : 0 ≤ x25_2
         ·rw [if_pos c11] at H
          have c11b0 : decide (0 ≤ x25_2) = true := decide_eq_true c11
          clear c11
          by_cases c12 : x25_2 < ((l0.drop (a1 : Int).toNat).length : Int)
          ·rw [if_pos c12] at H
           have c12b0 : decide (x25_2 < ((l0.drop (a1 : Int).toNat).length : Int)) = true := decide_eq_true c12
           clear c12
           have HC13 := c_.mk H
           clear H
           have p102 : 0 ≤ (x25_2 : Int) := of_decide_eq_true (by first | (with_reducible assumption) | assumption)
           have q102 : x25_2 < ((l0.drop (a1 : Int).toNat).length : Int) := of_decide_eq_true (by first | (with_reducible assumption) | assumption)
           obtain ⟨ad102, e102, hx102_0⟩ := Kd.at_int HR101.out x25_2 p102 q102
           cases e102
           have q102b : (x25_2 < ((l0.length - (a1 : Int).toNat : Nat) : Int)) = True := eq_true (by have q_ := q102; rw [List.length_drop] at q_; exact q_)
           replace p102 := eq_true p102
           replace q102 := eq_true q102
           go_upto_region 7 with (fail)
           go_cut [47] (fun v47 wc => ∃ (kq : Nat) (x47_12 : Bool), v47 = .bool x47_12 ∧ c_ (au_.j2 kq a1 a2 x9_2 x25_2 (rd (l0.drop (a1 : Int).toNat) x25_2) (l0.drop (a1 : Int).toNat) ((l0.drop (a1 : Int).toNat).length : Int) x25_2 x47_12 = some (r1, r2, r3)) ∧ c_ (kq ≤ k2) ∧ ax_ w wc)
           case first =>
            have H := HC13.out
            clear HC13
            by_cases c14 : x25_2 ≥ 10
            ·rw [if_pos c14] at H
             have c14b0 : decide (10 ≤ x25_2) = true := decide_eq_true c14
             clear c14
             (first | rw [c14b0] | (simp only [af_, ag_]; rw [c14b0]) | skip)
             have H' := c_.mk H
             clear H
             go_wp2
             go_meet
             case rel => exact ⟨_, (true), (by first | rfl | (simp; done) | (simp [*]; done)), H', ⟨by have := HJ3.out; have := HK2.out; first | omega | exact Nat.le_refl _⟩, by repeat (first | exact ax_.refl _ | apply ax_.step)⟩
            ·rw [if_neg c14] at H
             have c14b0 : decide (10 ≤ x25_2) = false := decide_eq_false c14
             clear c14
             (first | rw [c14b0] | (simp only [af_, ag_]; rw [c14b0]) | skip)
             by_cases c15 : (rd (l0.drop (a1 : Int).toNat) x25_2) = 0
             ·rw [if_pos c15] at H
              have c15b0 : ((rd (l0.drop (a1 : Int).toNat) x25_2) == 0) = true := beq_iff_eq.mpr c15
              have c15b1 : ((rd (l0.drop (a1 : Int).toNat) x25_2) != 0) = false := bne_eq_false_iff_eq.mpr c15
              clear c15
              by_cases c16 : x25_2 > 0
              ·rw [if_pos c16] at H
               have c16b0 : decide (0 < x25_2) = true := decide_eq_true c16
               clear c16
               have H' := c_.mk H
               clear H
               go_wp2
               go_meet
               case rel => exact ⟨_, (true), (by first | rfl | (simp; done) | (simp [*]; done)), H', ⟨by have := HJ3.out; have := HK2.out; first | omega | exact Nat.le_refl _⟩, by repeat (first | exact ax_.refl _ | apply ax_.step)⟩
              ·rw [if_neg c16] at H
               have c16b0 : decide (0 < x25_2) = false := decide_eq_false c16
               clear c16
               by_cases c17 : (rd (l0.drop (a1 : Int).toNat) x25_2) > 1
               ·rw [if_pos c17] at H
                have c17b0 : decide (1 < (rd (l0.drop (a1 : Int).toNat) x25_2)) = true := decide_eq_true c17
                clear c17
                have H' := c_.mk H
                clear H
                go_wp2
                go_meet
                case rel => exact ⟨_, ((x25_2 == 9)), (by first | rfl | (simp; done) | (simp [*]; done)), H', ⟨by have := HJ3.out; have := HK2.out; first | omega | exact Nat.le_refl _⟩, by repeat (first | exact ax_.refl _ | apply ax_.step)⟩
               ·rw [if_neg c17] at H
                have c17b0 : decide (1 < (rd (l0.drop (a1 : Int).toNat) x25_2)) = false := decide_eq_false c17
                clear c17
                have H' := c_.mk H
                clear H
                go_wp2
                go_meet
                case rel => exact ⟨_, (false), (by first | rfl | (simp; done) | (simp [*]; done)), H', ⟨by have := HJ3.out; have := HK2.out; first | omega | exact Nat.le_refl _⟩, by repeat (first | exact ax_.refl _ | apply ax_.step)⟩
             ·rw [if_neg c15] at H
              have c15b0 : ((rd (l0.drop (a1 : Int).toNat) x25_2) == 0) = false := beq_eq_false_iff_ne.mpr c15
              have c15b1 : ((rd (l0.drop (a1 : Int).toNat) x25_2) != 0) = true := bne_iff_ne.mpr c15
              by_cases c18 : (rd (l0.drop (a1 : Int).toNat) x25_2) > 1
              ·rw [if_pos c18] at H
               have c18b0 : decide (1 < (rd (l0.drop (a1 : Int).toNat) x25_2)) = true := decide_eq_true c18
               clear c18
               have H' := c_.mk H
               clear H
               go_wp2
               go_meet
               case rel => exact ⟨_, ((x25_2 == 9)), (by first | rfl | (simp; done) | (simp [*]; done)), H', ⟨by have := HJ3.out; have := HK2.out; first | omega | exact Nat.le_refl _⟩, by repeat (first | exact ax_.refl _ | apply ax_.step)⟩
              ·rw [if_neg c18] at H
               have c18b0 : decide (1 < (rd (l0.drop (a1 : Int).toNat) x25_2)) = false := decide_eq_false c18
               clear c18
               have H' := c_.mk H
               clear H
               go_wp2
               go_meet
               case rel => exact ⟨_, (false), (by first | rfl | (simp; done) | (simp [*]; done)), H', ⟨by have := HJ3.out; have := HK2.out; first | omega | exact Nat.le_refl _⟩, by repeat (first | exact ax_.refl _ | apply ax_.step)⟩
           case rest =>
            clear HC13
            try clear c1
            try clear p1
            try clear q1
            try clear hx1
            try clear p2
            try clear c3
            try clear c5
            try clear c5b0
            try clear c6
            try clear c7
            try clear c7b0
            try clear c7b1
            try clear c8
            try clear c8b0
            try clear c8b1
            try clear c10
            try clear c10b0
            try clear p10
            try clear q10
            try clear hx10
            try clear c11
            try clear c11b0
            try clear c12
            try clear c12b0
            try clear c14
            try clear c14b0
            try clear c15
            try clear c15b0
            try clear c15b1
            try clear c16
            try clear c16b0
            try clear c17
            try clear c17b0
            try clear c18
            try clear c18b0
            try clear hx102_0
            try clear p102
            try clear p2
            try clear q102
            obtain ⟨kq, x47_12, rfl, HA, HJ12, ⟨mc12, rfl⟩⟩ := hcut
            cases kq with
            | zero => exact absurd HA.out (by simp [au_.j2])
            | succ kj12 =>
             have H := HA.out
             clear HA
             simp only [au_.j2] at H
             by_cases c19 : x47_12 = true
             ·subst c19
              have H1 : (some (0, 0, some 2)) = some (r1, r2, r3) := by first | (rw [if_pos rfl] at H; with_reducible exact H) | exact (if_pos rfl).symm.trans H | (simp only [if_true, eq_self_iff_true] at H ⊢; exact H)
              clear H
              have H := H1
              clear H1
              simp only [Option.some.injEq, Prod.mk.injEq] at H
              obtain ⟨rfl, rfl, rfl⟩ := H
              go_wp2
              go_ret3
              exact eD_
             ·replace c19 := Bool.eq_false_iff.mpr c19
              subst c19
              have H1 : (if 0 ≤ (wrap64 (7 * x25_2)) then (if (rd (l0.drop (a1 : Int).toNat) x25_2) ≥ 128 then (au_.l0 kj12 a1 a2 (Go.bits .or .u64 x9_2 (shl .u64 (IntKind.u64.wrap (Go.bits .and .u8 (rd (l0.drop (a1 : Int).toNat) x25_2) 127)) (wrap64 (7 * x25_2)))) (l0.drop (a1 : Int).toNat) ((l0.drop (a1 : Int).toNat).length : Int) (wrap64 (x25_2 + 1))) else (if (Go.bits .or .u64 x9_2 (shl .u64 (IntKind.u64.wrap (Go.bits .and .u8 (rd (l0.drop (a1 : Int).toNat) x25_2) 127)) (wrap64 (7 * x25_2)))) > a2 then (some (0, 0, some 7)) else (some (Go.bits .or .u64 x9_2 (shl .u64 (IntKind.u64.wrap (Go.bits .and .u8 (rd (l0.drop (a1 : Int).toNat) x25_2) 127)) (wrap64 (7 * x25_2))), wrap64 ((wrap64 (a1 + x25_2)) + 1), none)))) else (none)) = some (r1, r2, r3) := by rw [if_neg (show ¬ (false = true) by decide)] at H; exact H
              clear H
              have H := H1
              clear H1
              obtain ⟨ji20, hji20⟩ : ∃ j_ : Int, (wrap64 (7 * x25_2)) = j_ := ⟨_, rfl⟩
              replace H : (if 0 ≤ (ji20) then (if (rd (l0.drop (a1 : Int).toNat) x25_2) ≥ 128 then (au_.l0 kj12 a1 a2 (Go.bits .or .u64 x9_2 (shl .u64 (IntKind.u64.wrap (Go.bits .and .u8 (rd (l0.drop (a1 : Int).toNat) x25_2) 127)) (ji20))) (l0.drop (a1 : Int).toNat) ((l0.drop (a1 : Int).toNat).length : Int) (wrap64 (x25_2 + 1))) else (if (Go.bits .or .u64 x9_2 (shl .u64 (IntKind.u64.wrap (Go.bits .and .u8 (rd (l0.drop (a1 : Int).toNat) x25_2) 127)) (ji20))) > a2 then (some (0, 0, some 7)) else (some (Go.bits .or .u64 x9_2 (shl .u64 (IntKind.u64.wrap (Go.bits .and .u8 (rd (l0.drop (a1 : Int).toNat) x25_2) 127)) (ji20)), wrap64 ((wrap64 (a1 + x25_2)) + 1), none)))) else (none)) = some (r1, r2, r3) := by first | (rw [hji20] at H; exact H) | (simp only [hji20] at H ⊢; exact H)
              have hji20w : (IntKind.i64.wrap (7 * x25_2)) = ji20 := (af_ _).trans hji20
              by_cases c21 : 0 ≤ (ji20)
              ·rw [if_pos c21] at H
               have c21b0 := eq_true c21
               have c21b1 : decide (0 ≤ (ji20)) = true := decide_eq_true c21
               clear c21
               obtain ⟨ji22, hji22⟩ : ∃ j_ : Int, (shl .u64 (IntKind.u64.wrap (Go.bits .and .u8 (rd (l0.drop (a1 : Int).toNat) x25_2) 127)) (ji20)) = j_ := ⟨_, rfl⟩
               replace H : (if (rd (l0.drop (a1 : Int).toNat) x25_2) ≥ 128 then (au_.l0 kj12 a1 a2 (Go.bits .or .u64 x9_2 (ji22)) (l0.drop (a1 : Int).toNat) ((l0.drop (a1 : Int).toNat).length : Int) (wrap64 (x25_2 + 1))) else (if (Go.bits .or .u64 x9_2 (ji22)) > a2 then (some (0, 0, some 7)) else (some (Go.bits .or .u64 x9_2 (ji22), wrap64 ((wrap64 (a1 + x25_2)) + 1), none)))) = some (r1, r2, r3) := by first | (rw [hji22] at H; exact H) | (simp only [hji22] at H ⊢; exact H)
               have hji22_ : (IntKind.u64.wrap ((IntKind.u64.wrap (Go.bits .and .u8 (rd (l0.drop (a1 : Int).toNat) x25_2) 127)) * 2 ^ min (ji20).toNat 64)) = ji22 := hji22
               have hji22z : (ji20) ≤ 64 → (IntKind.u64.wrap ((IntKind.u64.wrap (Go.bits .and .u8 (rd (l0.drop (a1 : Int).toNat) x25_2) 127)) * 2 ^ (ji20).toNat)) = ji22 := shl_small hji22
               by_cases c23 : (rd (l0.drop (a1 : Int).toNat) x25_2) ≥ 128
               ·rw [if_pos c23] at H
                have c23b0 : decide (128 ≤ (rd (l0.drop (a1 : Int).toNat) x25_2)) = true := decide_eq_true c23
                clear c23
                have H' := c_.mk H
                clear H
                go_wp2
                go_roundg kj12
                case measure => have := HJ3.out; have := HK2.out; have := HJ12.out; omega
                case rel => exact ⟨(Go.bits .or .u64 x9_2 (ji22)), (wrap64 (x25_2 + 1)), (by first | rfl | (simp; done) | (simp only [← hji22] <;> (first | rfl | simp)) | (simp [*]; done)), (by first | rfl | (simp; done) | (simp [*]; done)), H', ⟨by have := HJ3.out; have := HK2.out; have := HJ12.out; omega⟩, by repeat (first | exact ax_.refl _ | apply ax_.step)⟩
               ·rw [if_neg c23] at H
                have c23b0 : decide (128 ≤ (rd (l0.drop (a1 : Int).toNat) x25_2)) = false := decide_eq_false c23
                clear c23
                by_cases c24 : (Go.bits .or .u64 x9_2 (ji22)) > a2
                ·rw [if_pos c24] at H
                 have c24b0 : decide (a2 < (Go.bits .or .u64 x9_2 (ji22))) = true := decide_eq_true c24
                 clear c24
                 simp only [Option.some.injEq, Prod.mk.injEq] at H
                 obtain ⟨rfl, rfl, rfl⟩ := H
                 go_wp2
                 go_ret3
                 exact ⟨by first | rfl | (simp; done) | (simp only [← hji20, ← hji22] <;> (first | rfl | simp)) | (simp [*]; done), by repeat (first | exact ax_.refl _ | apply ax_.step)⟩
                ·rw [if_neg c24] at H
                 have c24b0 : decide (a2 < (Go.bits .or .u64 x9_2 (ji22))) = false := decide_eq_false c24
                 clear c24
                 simp only [Option.some.injEq, Prod.mk.injEq] at H
                 obtain ⟨rfl, rfl, rfl⟩ := H
                 go_wp2
                 go_ret3
                 exact ⟨by first | rfl | (simp; done) | (simp only [← hji20, ← hji22] <;> (first | rfl | simp)) | (simp [*]; done), by repeat (first | exact ax_.refl _ | apply ax_.step)⟩
              ·rw [if_neg c21] at H
               exact absurd H (by simp)
          ·rw [if_neg c12] at H
           exact absurd H (by simp)
         ·rw [if_neg c11] at H
          exact absurd H (by simp)
        ·rw [if_neg c10] at H
         have c10b0 : decide (x25_2 < ((l0.drop (a1 : Int).toNat).length : Int)) = false := decide_eq_false c10
         have c10b0z : decide (x25_2 < ((l0.length - (a1 : Int).toNat : Nat) : Int)) = false := by have q_ := c10b0; rw [List.length_drop] at q_; exact q_
         clear c10
         simp only [Option.some.injEq, Prod.mk.injEq] at H
         obtain ⟨rfl, rfl, rfl⟩ := H
         go_wp2
         go_ret3
         exact eD_
     ·rw [if_neg c8] at H
      exact absurd H (by simp)
    ·rw [if_neg c7] at H
     exact absurd H (by simp)
def bz_.j0 : Nat → List Int → Int → Int → Bool → Option (ByteArray × Int × Option Int)
 | 0, _, _, _, _ => none
 | k + 1, x0, x1, x2, x18 => if x18 = true then (some ((⟨#[]⟩ : ByteArray), 0, some 1)) else ((au_.f k x0 x1 (IntKind.u64.wrap (x2))).bind fun bt103 => (if bt103.2.2.isNone = true then (if (wrap64 (bt103.2.1 + (wrap64 (bt103.1)))) > (x0.length : Int) then (some ((⟨#[]⟩ : ByteArray), 0, some 2)) else (if 0 ≤ bt103.2.1 then (if bt103.2.1 ≤ (wrap64 (bt103.2.1 + (wrap64 (bt103.1)))) then (if (wrap64 (bt103.2.1 + (wrap64 (bt103.1)))) ≤ (x0.length : Int) then (some (strOfNums ((x0.take ((wrap64 (bt103.2.1 + (wrap64 (bt103.1)))) : Int).toNat).drop (bt103.2.1 : Int).toNat), wrap64 (bt103.2.1 + (wrap64 (bt103.1))), none)) else (none)) else (none)) else (none))) else (some ((⟨#[]⟩ : ByteArray), 0, some (bt103.2.2.getD 0)))))
def bz_.f (k : Nat) (l0 : List Int) (a1 : Int) (a2 : Int) : Option (ByteArray × Int × Option Int) := if a2 < 0 then (bz_.j0 k l0 a1 a2 true) else (bz_.j0 k l0 a1 a2 (decide (a2 > 4096)))
set_option maxHeartbeats 8000000 in
set_option maxRecDepth 100000 in
theorem bz_.calls (k : Nat) (A0 : Option Addr) (c0 : Nat) (l0 : List Int) (a1 : Int) (a2 : Int) (r1 : ByteArray) (r2 : Int) (r3 : Option Int) (w : World) (hr0 : Kd.C (Kd.int .u8) w A0 l0.length l0) (hc0 : l0.length ≤ c0) (h : bz_.f k l0 a1 a2 = some (r1, r2, r3)) :
  Calls Tryz.prog 52 #[.slice A0 l0.length c0, .int .i64 a1, .int .i64 a2] w fun e w' => e = .returned (.tuple #[.string r1, .int .i64 r2, errW r3]) ∧ ax_ w w' := by
 have hu26 := Tryz.underlying26
 have hu29 := Tryz.underlying29
 have HR0 := c_.mk hr0
 have HC0 := c_.mk hc0
 clear hr0 hc0
 have H : (if a2 < 0 then (bz_.j0 k l0 a1 a2 true) else (bz_.j0 k l0 a1 a2 (decide (a2 > 4096)))) = some (r1, r2, r3) := h
 clear h
 have HC4 := c_.mk H
 clear H
 go_enter Tryz.func52, Tryz.ntmps52
 go_upto_region 1 with (fail)
 go_cut [18] (fun v18 wc => ∃ (kq : Nat) (x18_3 : Bool), v18 = .bool x18_3 ∧ c_ (bz_.j0 kq l0 a1 a2 x18_3 = some (r1, r2, r3)) ∧ c_ (kq ≤ k) ∧ ax_ w wc)
 case first =>
  have H := HC4.out
  clear HC4
  by_cases c5 : a2 < 0
  ·rw [if_pos c5] at H
   have c5b0 : decide (a2 < 0) = true := decide_eq_true c5
   clear c5
   (first | rw [c5b0] | (simp only [af_, ag_]; rw [c5b0]) | skip)
   have H' := c_.mk H
   clear H
   go_wp2
   go_meet
   case rel => exact ⟨_, (true), (by first | rfl | (simp; done) | (simp [*]; done)), H', ⟨by first | omega | exact Nat.le_refl _⟩, by repeat (first | exact ax_.refl _ | apply ax_.step)⟩
  ·rw [if_neg c5] at H
   have c5b0 : decide (a2 < 0) = false := decide_eq_false c5
   clear c5
   (first | rw [c5b0] | (simp only [af_, ag_]; rw [c5b0]) | skip)
   have H' := c_.mk H
   clear H
   go_wp2
   go_meet
   case rel => exact ⟨_, (decide (a2 > 4096)), (by first | rfl | (simp; done) | (simp [*]; done)), H', ⟨by first | omega | exact Nat.le_refl _⟩, by repeat (first | exact ax_.refl _ | apply ax_.step)⟩
 case rest =>
  clear HC4
  try clear p2
  try clear c5
  try clear c5b0
  obtain ⟨kq, x18_3, rfl, HA, HJ3, ⟨mc3, rfl⟩⟩ := hcut
  cases kq with
  | zero => exact absurd HA.out (by simp [bz_.j0])
  | succ kj3 =>
   have H := HA.out
   clear HA
   simp only [bz_.j0] at H
   by_cases c6 : x18_3 = true
   ·subst c6
    have H1 : (some ((⟨#[]⟩ : ByteArray), 0, some 1)) = some (r1, r2, r3) := by first | (rw [if_pos rfl] at H; with_reducible exact H) | exact (if_pos rfl).symm.trans H | (simp only [if_true, eq_self_iff_true] at H ⊢; exact H)
    clear H
    have H := H1
    clear H1
    simp only [Option.some.injEq, Prod.mk.injEq] at H
    obtain ⟨rfl, rfl, rfl⟩ := H
    go_wp2
    go_ret3
    exact eD_
   ·replace c6 := Bool.eq_false_iff.mpr c6
    subst c6
    have H1 : ((au_.f kj3 l0 a1 (IntKind.u64.wrap (a2))).bind fun bt103 => (if bt103.2.2.isNone = true then (if (wrap64 (bt103.2.1 + (wrap64 (bt103.1)))) > (l0.length : Int) then (some ((⟨#[]⟩ : ByteArray), 0, some 2)) else (if 0 ≤ bt103.2.1 then (if bt103.2.1 ≤ (wrap64 (bt103.2.1 + (wrap64 (bt103.1)))) then (if (wrap64 (bt103.2.1 + (wrap64 (bt103.1)))) ≤ (l0.length : Int) then (some (strOfNums ((l0.take ((wrap64 (bt103.2.1 + (wrap64 (bt103.1)))) : Int).toNat).drop (bt103.2.1 : Int).toNat), wrap64 (bt103.2.1 + (wrap64 (bt103.1))), none)) else (none)) else (none)) else (none))) else (some ((⟨#[]⟩ : ByteArray), 0, some (bt103.2.2.getD 0))))) = some (r1, r2, r3) := by rw [if_neg (show ¬ (false = true) by decide)] at H; exact H
    clear H
    have H := H1
    clear H1
    replace H := Option.bind_eq_some_iff.mp H
    obtain ⟨⟨t103, t104, t105⟩, A70, H⟩ := H
    replace H : (if t105.isNone = true then (if (wrap64 (t104 + (wrap64 (t103)))) > (l0.length : Int) then (some ((⟨#[]⟩ : ByteArray), 0, some 2)) else (if 0 ≤ t104 then (if t104 ≤ (wrap64 (t104 + (wrap64 (t103)))) then (if (wrap64 (t104 + (wrap64 (t103)))) ≤ (l0.length : Int) then (some (strOfNums ((l0.take ((wrap64 (t104 + (wrap64 (t103)))) : Int).toNat).drop (t104 : Int).toNat), wrap64 (t104 + (wrap64 (t103))), none)) else (none)) else (none)) else (none))) else (some ((⟨#[]⟩ : ByteArray), 0, some (t105.getD 0)))) = some (r1, r2, r3) := H
    have A7 := c_.mk A70
    clear A70
    rcases t105 with _ | q106
    ·have H1 : (if (wrap64 (t104 + (wrap64 (t103)))) > (l0.length : Int) then (some ((⟨#[]⟩ : ByteArray), 0, some 2)) else (if 0 ≤ t104 then (if t104 ≤ (wrap64 (t104 + (wrap64 (t103)))) then (if (wrap64 (t104 + (wrap64 (t103)))) ≤ (l0.length : Int) then (some (strOfNums ((l0.take ((wrap64 (t104 + (wrap64 (t103)))) : Int).toNat).drop (t104 : Int).toNat), wrap64 (t104 + (wrap64 (t103))), none)) else (none)) else (none)) else (none))) = some (r1, r2, r3) := by rw [if_pos (show (none : Option Int).isNone = true by rfl)] at H; exact H
     clear H
     have H := H1
     clear H1
     try simp only [i_, g_]
     by_cases c8 : (wrap64 (t104 + (wrap64 (t103)))) > (l0.length : Int)
     ·rw [if_pos c8] at H
      have c8b0 : decide ((l0.length : Int) < (wrap64 (t104 + (wrap64 (t103))))) = true := decide_eq_true c8
      clear c8
      simp only [Option.some.injEq, Prod.mk.injEq] at H
      obtain ⟨rfl, rfl, rfl⟩ := H
      go_wp2_with (first | ((with_reducible refine ah_ (f := 51) rfl ?_); refine bm_ (some 25) rfl rfl Tryz.func51 (by kernel_rfl) rfl #[.slice A0 l0.length c0, .int .i64 a1, .int .u64 (IntKind.u64.wrap (a2))] rfl (by (try simp only [List.map_toArray, List.map_cons, List.map_nil]); first | done | rfl | (simp only [List.length_drop, List.length_take]; rfl)) ?_; (with_reducible refine (au_.calls kj3 _ _ l0 a1 (IntKind.u64.wrap (a2)) t103 t104 none _ ?side1 ?side2 A7.out).mono ?_); (case side1 => repeat (first | exact HR0.out | (with_reducible refine Kd.C_alloc ?_ _) | (with_reducible refine Kd.C_drewN ?_ _) | (with_reducible refine Kd.C_drew ?_))); (case side2 => exact HC0.out); rintro e w' ⟨rfl, ⟨nd, rfl⟩⟩; refine ⟨_, rfl, ?_⟩; (try simp only [i_, g_])))
      go_ret3
      exact eD_
     ·rw [if_neg c8] at H
      have c8b0 : decide ((l0.length : Int) < (wrap64 (t104 + (wrap64 (t103))))) = false := decide_eq_false c8
      clear c8
      by_cases c9 : 0 ≤ t104
      ·rw [if_pos c9] at H
       have c9b0 := eq_true c9
       have c9b1 : decide (0 ≤ t104) = true := decide_eq_true c9
       clear c9
       by_cases c10 : t104 ≤ (wrap64 (t104 + (wrap64 (t103))))
       ·rw [if_pos c10] at H
        have c10b0 := eq_true c10
        have c10b1 : decide (t104 ≤ (wrap64 (t104 + (wrap64 (t103))))) = true := decide_eq_true c10
        by_cases c11 : (wrap64 (t104 + (wrap64 (t103)))) ≤ (l0.length : Int)
        ·rw [if_pos c11] at H
         have c11b0 := eq_true c11
         have c11b1 : decide ((wrap64 (t104 + (wrap64 (t103)))) ≤ (l0.length : Int)) = true := decide_eq_true c11
         simp only [Option.some.injEq, Prod.mk.injEq] at H
         obtain ⟨rfl, rfl, rfl⟩ := H
         go_wp2_with (first | ((with_reducible refine ah_ (f := 51) rfl ?_); refine bm_ (some 25) rfl rfl Tryz.func51 (by kernel_rfl) rfl #[.slice A0 l0.length c0, .int .i64 a1, .int .u64 (IntKind.u64.wrap (a2))] rfl (by (try simp only [List.map_toArray, List.map_cons, List.map_nil]); first | done | rfl | (simp only [List.length_drop, List.length_take]; rfl)) ?_; (with_reducible refine (au_.calls kj3 _ _ l0 a1 (IntKind.u64.wrap (a2)) t103 t104 none _ ?side1 ?side2 A7.out).mono ?_); (case side1 => repeat (first | exact HR0.out | (with_reducible refine Kd.C_alloc ?_ _) | (with_reducible refine Kd.C_drewN ?_ _) | (with_reducible refine Kd.C_drew ?_))); (case side2 => exact HC0.out); rintro e w' ⟨rfl, ⟨nd, rfl⟩⟩; refine ⟨_, rfl, ?_⟩; (try simp only [i_, g_]); obtain ⟨i012, hi012, _, hsz12, _⟩ := info_parts info5; obtain ⟨A12, hcut12, hA12, hC12⟩ := print_mid_of (P := Tryz.prog) (Value.int .u8) 0 70 5 .i64 .i64 Tryz.underlying70 hi012 hsz12 A0 c0 l0 t104 (wrap64 (t104 + (wrap64 (t103)))) (of_decide_eq_true (by first | (with_reducible assumption) | assumption)) (by first | omega | exact of_decide_eq_true (by first | (with_reducible assumption) | assumption)) (of_decide_eq_true (by first | (with_reducible assumption) | assumption)) HC0.out; have HR107 := c_.mk (Kd.C_of_reads (h1 := fun _ => rfl) (hA12 _ (Kd.reads_of_C HR0.out))); have HC107 := c_.mk hC12; clear hA12 hC12 hi012 hsz12; have hcv13 := Kd.C_string (P := Tryz.prog) (A := A12) (c := (c0 - t104.toNat)) Tryz.underlying70 Tryz.underlying5 Tryz.underlying9 HR107.out; have hcv14 := fun n_ : Nat => Kd.C_string (P := Tryz.prog) (A := A12) (c := (c0 - t104.toNat)) Tryz.underlying70 Tryz.underlying5 Tryz.underlying9 (Kd.C_drewN HR107.out n_); have hl_hcv13 : (List.drop (t104 : Int).toNat (List.take ((wrap64 (t104 + (wrap64 (t103)))) : Int).toNat l0)).length = ((wrap64 (t104 + (wrap64 (t103)))) : Int).toNat - (t104 : Int).toNat := (by rw [List.length_drop, List.length_take, Nat.min_eq_left (by have q_ := of_decide_eq_true (by assumption : decide ((wrap64 (t104 + (wrap64 (t103)))) ≤ (l0.length : Int)) = true); omega)]); have hcv13L := hcv13; rw [hl_hcv13] at hcv13L; have hcv13M := hcv14; simp only [hl_hcv13] at hcv13M; clear hl_hcv13))
         go_ret3
         exact eD_
        ·rw [if_neg c11] at H
         exact absurd H (by simp)
       ·rw [if_neg c10] at H
        exact absurd H (by simp)
      ·rw [if_neg c9] at H
       exact absurd H (by simp)
    ·have H1 : (some ((⟨#[]⟩ : ByteArray), 0, some q106)) = some (r1, r2, r3) := by rw [if_neg (show ¬ (some q106).isNone = true by simp)] at H; exact H
     clear H
     have H := H1
     clear H1
     try simp only [i_, g_]
     simp only [Option.some.injEq, Prod.mk.injEq] at H
     obtain ⟨rfl, rfl, rfl⟩ := H
     go_wp2_with (first | ((with_reducible refine ah_ (f := 51) rfl ?_); refine bm_ (some 25) rfl rfl Tryz.func51 (by kernel_rfl) rfl #[.slice A0 l0.length c0, .int .i64 a1, .int .u64 (IntKind.u64.wrap (a2))] rfl (by (try simp only [List.map_toArray, List.map_cons, List.map_nil]); first | done | rfl | (simp only [List.length_drop, List.length_take]; rfl)) ?_; (with_reducible refine (au_.calls kj3 _ _ l0 a1 (IntKind.u64.wrap (a2)) t103 t104 (some q106) _ ?side1 ?side2 A7.out).mono ?_); (case side1 => repeat (first | exact HR0.out | (with_reducible refine Kd.C_alloc ?_ _) | (with_reducible refine Kd.C_drewN ?_ _) | (with_reducible refine Kd.C_drew ?_))); (case side2 => exact HC0.out); rintro e w' ⟨rfl, ⟨nd, rfl⟩⟩; refine ⟨_, rfl, ?_⟩; (try simp only [i_, g_])))
     go_ret3
     exact eD_
def av_.l0 : Nat → Int → List Int → Option (List Int)
 | 0, _, _ => none
 | k + 1, x0, x3 => if x0 > 127 then (if x3.length < 140737488355328 then (av_.l0 k (IntKind.u64.wrap (Int.tdiv x0 128)) (x3 ++ [(IntKind.u64.wrap ((Int.tmod x0 128) + 128)) % 256])) else (none)) else (if x3.length < 140737488355328 then (some (x3 ++ [(x0) % 256])) else (none))
def av_.f (k : Nat) (a0 : Int) : Option (List Int) := av_.l0 k a0 ([] : List Int)
set_option maxHeartbeats 8000000 in
set_option maxRecDepth 100000 in
theorem av_.calls (k : Nat) (a0 : Int) (r : List Int) (w : World) (h : av_.f k a0 = some r) :
  Calls Tryz.prog 34 #[.int .u64 a0] w fun e w' => ∃ v0_ : Value, e = .returned (v0_) ∧ Kd.R (Kd.int .u8) 5 w' w.heap.size (fun _ => True) v0_ r ∧ Below w.heap.size w w' := by
 have HB := c_.mk (Below.refl w.heap.size w)
 have H : (av_.l0 k a0 ([] : List Int)) = some r := h
 clear h
 have H' := c_.mk H
 clear H
 go_enter Tryz.func34, Tryz.ntmps34
 go_wp2
 go_loopg [0, 3] k (fun kq v0 v3 w' => ∃ (x0_1 : Int) (x3_1 : List Int), v0 = .int .u64 x0_1 ∧ c_ (av_.l0 kq x0_1 x3_1 = some r) ∧ c_ (kq ≤ k) ∧ c_ (Kd.R (Kd.int .u8) 5 w' w.heap.size (fun _ => True) v3 x3_1) ∧ c_ (Below w.heap.size w w'))
 case atStart => exact ⟨(a0), (([] : List Int)), (by first | rfl | (simp; done) | (simp [*]; done)), H', ⟨Nat.le_refl _⟩, ⟨by first | exact Kd.R_nil _ _ _ _ _ | exact Kd.N_nil _ _ _ _ _ | exact Kd.V_nil _ _ _ _ _ | exact Kd.Q_nil _ _ _ _ _ | exact Kd.S_nil _ _ _ _ _⟩, ⟨HB.out⟩⟩
 case round =>
  clear H'
  obtain ⟨x0_1, x3_1, rfl, HA, HK1, HO_3, HB⟩ := hrel
  cases gk with
  | zero => exact absurd HA.out (by simp [av_.l0])
  | succ k1 =>
   have H := HA.out
   clear HA
   simp only [av_.l0] at H
   by_cases c2 : x0_1 > 127
   ·rw [if_pos c2] at H
    have c2b0 : decide (127 < x0_1) = true := decide_eq_true c2
    clear c2
    by_cases c3 : x3_1.length < 140737488355328
    ·rw [if_pos c3] at H
     have LMc3 := c_.mk c3
     clear c3
     obtain ⟨y108, hy108⟩ : ∃ y_ : List Int, y_ = (x3_1 ++ [(IntKind.u64.wrap ((Int.tmod x0_1 128) + 128)) % 256]) := ⟨_, rfl⟩
     replace H : (av_.l0 k1 (IntKind.u64.wrap (Int.tdiv x0_1 128)) y108) = some r := by first | (rw [hy108]; with_reducible exact H) | (have H2_ := (Option.bind_some _ _).symm.trans H; rw [hy108]; with_reducible exact H2_) | (have H2_ := (Option.bind_some _ _).symm.trans H; with_reducible exact H2_) | with_reducible exact H | (rw [hy108]; exact H) | exact H
     have Ny108 := c_.mk hy108
     clear hy108
     have H' := c_.mk H
     clear H
     go_wp2_with (first | ((with_reducible refine bw_ (b := .append) (xs := #[.tmp 6, .tmp 11]) rfl ?_); at_builtin; refine Kd.R_append (Kd.int .u8) (w0 := w) w.heap.size rfl (.tmp 6) (.tmp 11) 70 5 (.int .u8 0) 1 rfl Tryz.underlying70 info5 rfl (by decide) (by omega) u3 x3_1 ((IntKind.u64.wrap ((Int.tmod x0_1 128) + 128)) % 256) [.int .u8 ((IntKind.u64.wrap ((Int.tmod x0_1 128) + 128)) % 256)] (fun _ => True) (fun _ => False) rfl rfl ?aP (fun _ hk => hk.elim) ?aF ?aO ?aB ?aS ?aL ?_; (case aP => exact rfl); (case aB => exact (HB.out)); (case aF => exact (fun _ _ => trivial)); (case aO => exact (HO_3.out)); (case aS => exact (v_ (HB.out))); (case aL => have := LMc3.out; omega); intro v109 w4 ho hb hg hat; rw [← Ny108.out] at ho; have n0_ := c_.mk (hb); have n1_ := c_.mk (ho); clear HB; clear HO_3; have HB := n0_; have HO110 := n1_; clear n0_ n1_; clear ho hb hg hat))
     go_roundg k1
     case measure => have := HK1.out; omega
     case rel => exact ⟨(IntKind.u64.wrap (Int.tdiv x0_1 128)), (y108), (by first | rfl | (simp; done) | (simp [*]; done)), H', ⟨by have := HK1.out; omega⟩, ⟨HO110.out⟩, ⟨HB.out⟩⟩
    ·rw [if_neg c3] at H
     exact absurd H (by simp)
   ·rw [if_neg c2] at H
    have c2b0 : decide (127 < x0_1) = false := decide_eq_false c2
    clear c2
    by_cases c5 : x3_1.length < 140737488355328
    ·rw [if_pos c5] at H
     have LMc5 := c_.mk c5
     clear c5
     obtain ⟨y111, hy111⟩ : ∃ y_ : List Int, y_ = (x3_1 ++ [(x0_1) % 256]) := ⟨_, rfl⟩
     replace H : (some y111) = some r := by first | (rw [hy111]; with_reducible exact H) | (have H2_ := (Option.bind_some _ _).symm.trans H; rw [hy111]; with_reducible exact H2_) | (have H2_ := (Option.bind_some _ _).symm.trans H; with_reducible exact H2_) | with_reducible exact H | (rw [hy111]; exact H) | exact H
     have Ny111 := c_.mk hy111
     clear hy111
     obtain rfl := Option.some.inj H
     go_wp2_with (first | ((with_reducible refine bw_ (b := .append) (xs := #[.tmp 15, .tmp 18]) rfl ?_); at_builtin; refine Kd.R_append (Kd.int .u8) (w0 := w) w.heap.size rfl (.tmp 15) (.tmp 18) 70 5 (.int .u8 0) 1 rfl Tryz.underlying70 info5 rfl (by decide) (by omega) u3 x3_1 ((x0_1) % 256) [.int .u8 ((x0_1) % 256)] (fun _ => True) (fun _ => False) rfl rfl ?aP (fun _ hk => hk.elim) ?aF ?aO ?aB ?aS ?aL ?_; (case aP => exact rfl); (case aB => exact (HB.out)); (case aF => exact (fun _ _ => trivial)); (case aO => exact (HO_3.out)); (case aS => exact (v_ (HB.out))); (case aL => have := LMc5.out; omega); intro v112 w6 ho hb hg hat; rw [← Ny111.out] at ho; have n0_ := c_.mk (hb); have n1_ := c_.mk (ho); clear HB; clear HO_3; have HB := n0_; have HO113 := n1_; clear n0_ n1_; clear ho hb hg hat))
     go_ret
     exact ⟨_, by first | rfl | (simp [i_, g_] <;> rfl) | (simp [*, i_, g_] <;> rfl), HO113.out, HB.out⟩
    ·rw [if_neg c5] at H
     exact absurd H (by simp)
end Go.Proofs.YtlcfcaokihoplaaGreatDoor.Mw
