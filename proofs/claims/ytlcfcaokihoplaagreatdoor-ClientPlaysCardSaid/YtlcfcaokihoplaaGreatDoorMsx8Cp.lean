-- Cut.
import Derived.Test.YtlcfcaokihoplaaGreatDoorMsx1Cp
import Derived.Test.YtlcfcaokihoplaaGreatDoorMsx7Cp
namespace Go.Proofs.YtlcfcaokihoplaaGreatDoor.Ms
open Go.RowKit Go.Proofs.YzW.PrintWords Go.Proofs.YzW.PrintLast Go.Proofs.YzW.PrintMore
attribute [local go_sem] cg_ ce_ cw_ cv_ by_ bx_ cf_ cd_
set_option linter.unusedVariables false
set_option linter.unusedSimpArgs false
attribute [local go_sem] eqlErr neqErr eqlErrNil neqErrNil
open Go.Proofs.YtlcfcaokihoplaaGreatDoor.Mw
def cc_.f (a0 : Int) : Option (Bool) := if a0 ≥ 97 then (if a0 ≤ 122 then (some true) else (if a0 ≥ 48 then (if a0 ≤ 57 then (some true) else (if a0 = 95 then (some true) else (if a0 = 45 then (some true) else (some (a0 == 46))))) else (if a0 = 95 then (some true) else (if a0 = 45 then (some true) else (some (a0 == 46)))))) else (if a0 ≥ 48 then (if a0 ≤ 57 then (some true) else (if a0 = 95 then (some true) else (if a0 = 45 then (some true) else (some (a0 == 46))))) else (if a0 = 95 then (some true) else (if a0 = 45 then (some true) else (some (a0 == 46)))))
set_option maxHeartbeats 8000000 in
set_option maxRecDepth 100000 in
theorem cc_.calls (a0 : Int) (r : Bool) (w : World) (h : cc_.f a0 = some r) :
  Calls Tryz.prog 71 #[.int .u8 a0] w fun e w' => e = .returned (.bool r) ∧ ax_ w w' := by
 have H : (if a0 ≥ 97 then (if a0 ≤ 122 then (some true) else (if a0 ≥ 48 then (if a0 ≤ 57 then (some true) else (if a0 = 95 then (some true) else (if a0 = 45 then (some true) else (some (a0 == 46))))) else (if a0 = 95 then (some true) else (if a0 = 45 then (some true) else (some (a0 == 46)))))) else (if a0 ≥ 48 then (if a0 ≤ 57 then (some true) else (if a0 = 95 then (some true) else (if a0 = 45 then (some true) else (some (a0 == 46))))) else (if a0 = 95 then (some true) else (if a0 = 45 then (some true) else (some (a0 == 46)))))) = some r := h
 clear h
 by_cases c2 : a0 ≥ 97
 ·rw [if_pos c2] at H
  have c2b0 : decide (97 ≤ a0) = true := decide_eq_true c2
  clear c2
  by_cases c3 : a0 ≤ 122
  ·rw [if_pos c3] at H
   have c3b0 : decide (a0 ≤ 122) = true := decide_eq_true c3
   clear c3
   obtain rfl := Option.some.inj H
   go_enter Tryz.func71, Tryz.ntmps71
   go_wp2
   go_ret
   exact eD_
  ·rw [if_neg c3] at H
   have c3b0 : decide (a0 ≤ 122) = false := decide_eq_false c3
   clear c3
   by_cases c4 : a0 ≥ 48
   ·rw [if_pos c4] at H
    have c4b0 : decide (48 ≤ a0) = true := decide_eq_true c4
    clear c4
    by_cases c5 : a0 ≤ 57
    ·rw [if_pos c5] at H
     have c5b0 : decide (a0 ≤ 57) = true := decide_eq_true c5
     clear c5
     obtain rfl := Option.some.inj H
     go_enter Tryz.func71, Tryz.ntmps71
     go_wp2
     go_ret
     exact eD_
    ·rw [if_neg c5] at H
     have c5b0 : decide (a0 ≤ 57) = false := decide_eq_false c5
     clear c5
     by_cases c6 : a0 = 95
     ·rw [if_pos c6] at H
      have c6b0 : (a0 == 95) = true := beq_iff_eq.mpr c6
      have c6b1 : (a0 != 95) = false := bne_eq_false_iff_eq.mpr c6
      clear c6
      obtain rfl := Option.some.inj H
      go_enter Tryz.func71, Tryz.ntmps71
      go_wp2
      go_ret
      exact eD_
     ·rw [if_neg c6] at H
      have c6b0 : (a0 == 95) = false := beq_eq_false_iff_ne.mpr c6
      have c6b1 : (a0 != 95) = true := bne_iff_ne.mpr c6
      by_cases c7 : a0 = 45
      ·rw [if_pos c7] at H
       have c7b0 : (a0 == 45) = true := beq_iff_eq.mpr c7
       have c7b1 : (a0 != 45) = false := bne_eq_false_iff_eq.mpr c7
       clear c7
       obtain rfl := Option.some.inj H
       go_enter Tryz.func71, Tryz.ntmps71
       go_wp2
       go_ret
       exact eD_
      ·rw [if_neg c7] at H
       have c7b0 : (a0 == 45) = false := beq_eq_false_iff_ne.mpr c7
       have c7b1 : (a0 != 45) = true := bne_iff_ne.mpr c7
       obtain rfl := Option.some.inj H
       go_enter Tryz.func71, Tryz.ntmps71
       go_wp2
       go_ret
       exact eD_
   ·rw [if_neg c4] at H
    have c4b0 : decide (48 ≤ a0) = false := decide_eq_false c4
    clear c4
    by_cases c8 : a0 = 95
    ·rw [if_pos c8] at H
     have c8b0 : (a0 == 95) = true := beq_iff_eq.mpr c8
     have c8b1 : (a0 != 95) = false := bne_eq_false_iff_eq.mpr c8
     clear c8
     obtain rfl := Option.some.inj H
     go_enter Tryz.func71, Tryz.ntmps71
     go_wp2
     go_ret
     exact eD_
    ·rw [if_neg c8] at H
     have c8b0 : (a0 == 95) = false := beq_eq_false_iff_ne.mpr c8
     have c8b1 : (a0 != 95) = true := bne_iff_ne.mpr c8
     by_cases c9 : a0 = 45
     ·rw [if_pos c9] at H
      have c9b0 : (a0 == 45) = true := beq_iff_eq.mpr c9
      have c9b1 : (a0 != 45) = false := bne_eq_false_iff_eq.mpr c9
      clear c9
      obtain rfl := Option.some.inj H
      go_enter Tryz.func71, Tryz.ntmps71
      go_wp2
      go_ret
      exact eD_
     ·rw [if_neg c9] at H
      have c9b0 : (a0 == 45) = false := beq_eq_false_iff_ne.mpr c9
      have c9b1 : (a0 != 45) = true := bne_iff_ne.mpr c9
      obtain rfl := Option.some.inj H
      go_enter Tryz.func71, Tryz.ntmps71
      go_wp2
      go_ret
      exact eD_
 ·rw [if_neg c2] at H
  have c2b0 : decide (97 ≤ a0) = false := decide_eq_false c2
  clear c2
  by_cases c10 : a0 ≥ 48
  ·rw [if_pos c10] at H
   have c10b0 : decide (48 ≤ a0) = true := decide_eq_true c10
   clear c10
   by_cases c11 : a0 ≤ 57
   ·rw [if_pos c11] at H
    have c11b0 : decide (a0 ≤ 57) = true := decide_eq_true c11
    clear c11
    obtain rfl := Option.some.inj H
    go_enter Tryz.func71, Tryz.ntmps71
    go_wp2
    go_ret
    exact eD_
   ·rw [if_neg c11] at H
    have c11b0 : decide (a0 ≤ 57) = false := decide_eq_false c11
    clear c11
    by_cases c12 : a0 = 95
    ·rw [if_pos c12] at H
     have c12b0 : (a0 == 95) = true := beq_iff_eq.mpr c12
     have c12b1 : (a0 != 95) = false := bne_eq_false_iff_eq.mpr c12
     clear c12
     obtain rfl := Option.some.inj H
     go_enter Tryz.func71, Tryz.ntmps71
     go_wp2
     go_ret
     exact eD_
    ·rw [if_neg c12] at H
     have c12b0 : (a0 == 95) = false := beq_eq_false_iff_ne.mpr c12
     have c12b1 : (a0 != 95) = true := bne_iff_ne.mpr c12
     by_cases c13 : a0 = 45
     ·rw [if_pos c13] at H
      have c13b0 : (a0 == 45) = true := beq_iff_eq.mpr c13
      have c13b1 : (a0 != 45) = false := bne_eq_false_iff_eq.mpr c13
      clear c13
      obtain rfl := Option.some.inj H
      go_enter Tryz.func71, Tryz.ntmps71
      go_wp2
      go_ret
      exact eD_
     ·rw [if_neg c13] at H
      have c13b0 : (a0 == 45) = false := beq_eq_false_iff_ne.mpr c13
      have c13b1 : (a0 != 45) = true := bne_iff_ne.mpr c13
      obtain rfl := Option.some.inj H
      go_enter Tryz.func71, Tryz.ntmps71
      go_wp2
      go_ret
      exact eD_
  ·rw [if_neg c10] at H
   have c10b0 : decide (48 ≤ a0) = false := decide_eq_false c10
   clear c10
   by_cases c14 : a0 = 95
   ·rw [if_pos c14] at H
    have c14b0 : (a0 == 95) = true := beq_iff_eq.mpr c14
    have c14b1 : (a0 != 95) = false := bne_eq_false_iff_eq.mpr c14
    clear c14
    obtain rfl := Option.some.inj H
    go_enter Tryz.func71, Tryz.ntmps71
    go_wp2
    go_ret
    exact eD_
   ·rw [if_neg c14] at H
    have c14b0 : (a0 == 95) = false := beq_eq_false_iff_ne.mpr c14
    have c14b1 : (a0 != 95) = true := bne_iff_ne.mpr c14
    by_cases c15 : a0 = 45
    ·rw [if_pos c15] at H
     have c15b0 : (a0 == 45) = true := beq_iff_eq.mpr c15
     have c15b1 : (a0 != 45) = false := bne_eq_false_iff_eq.mpr c15
     clear c15
     obtain rfl := Option.some.inj H
     go_enter Tryz.func71, Tryz.ntmps71
     go_wp2
     go_ret
     exact eD_
    ·rw [if_neg c15] at H
     have c15b0 : (a0 == 45) = false := beq_eq_false_iff_ne.mpr c15
     have c15b1 : (a0 != 45) = true := bne_iff_ne.mpr c15
     obtain rfl := Option.some.inj H
     go_enter Tryz.func71, Tryz.ntmps71
     go_wp2
     go_ret
     exact eD_
def aw_.l0 : Nat → ByteArray → Int → Int → Option (Bool)
 | 0, _, _, _ => none
 | k + 1, x0, x3, x4 => if x4 < (x0.size : Int) then ((w_.f k x0 x4).bind fun t153 => (if t153 > 1 then (aw_.l0 k x0 (wrap64 (x3 + 1)) (wrap64 (x4 + t153))) else (if t153 = 1 then (if 0 ≤ x4 then ((cc_.f (bt x0 x4)).bind fun t154 => (if t154 = true then (aw_.l0 k x0 (wrap64 (x3 + 1)) (wrap64 (x4 + t153))) else (some false))) else (none)) else (some false)))) else (if x3 ≥ 1 then (if x3 ≤ 16 then (if x0.toList = ([46] : List UInt8) then (some false) else (some (x0.toList != ([46, 46] : List UInt8)))) else (some false)) else (some false))
def aw_.f (k : Nat) (a0 : ByteArray) : Option (Bool) := aw_.l0 k a0 0 0
set_option maxHeartbeats 8000000 in
set_option maxRecDepth 100000 in
theorem aw_.calls (k : Nat) (a0 : ByteArray) (r : Bool) (w : World) (h : aw_.f k a0 = some r) :
  Calls Tryz.prog 60 #[.string a0] w fun e w' => e = .returned (.bool r) ∧ ax_ w w' := by
 have H : (aw_.l0 k a0 0 0) = some r := h
 clear h
 have H' := c_.mk H
 clear H
 go_enter Tryz.func60, Tryz.ntmps60
 go_wp2
 go_loopg [3, 4] k (fun kq v3 v4 w' => ∃ (x3_1 : Int) (x4_1 : Int), v3 = .int .i64 x3_1 ∧ v4 = .int .i64 x4_1 ∧ c_ (aw_.l0 kq a0 x3_1 x4_1 = some r) ∧ c_ (kq ≤ k) ∧ ax_ w w')
 case atStart => exact ⟨(0), (0), (by first | rfl | (simp; done) | (simp [*]; done)), (by first | rfl | (simp; done) | (simp [*]; done)), H', ⟨Nat.le_refl _⟩, by repeat (first | exact ax_.refl _ | apply ax_.step)⟩
 case round =>
  clear H'
  obtain ⟨x3_1, x4_1, rfl, rfl, HA, HK1, ⟨m1, rfl⟩⟩ := hrel
  cases gk with
  | zero => exact absurd HA.out (by simp [aw_.l0])
  | succ k1 =>
   have H := HA.out
   clear HA
   simp only [aw_.l0] at H
   by_cases c2 : x4_1 < (a0.size : Int)
   ·rw [if_pos c2] at H
    have c2b0 : decide (x4_1 < (a0.size : Int)) = true := decide_eq_true c2
    clear c2
    replace H := Option.bind_eq_some_iff.mp H
    obtain ⟨t153, A30, H⟩ := H
    replace H : (if t153 > 1 then (aw_.l0 k1 a0 (wrap64 (x3_1 + 1)) (wrap64 (x4_1 + t153))) else (if t153 = 1 then (if 0 ≤ x4_1 then ((cc_.f (bt a0 x4_1)).bind fun t154 => (if t154 = true then (aw_.l0 k1 a0 (wrap64 (x3_1 + 1)) (wrap64 (x4_1 + t153))) else (some false))) else (none)) else (some false))) = some r := H
    have A3 := c_.mk A30
    clear A30
    by_cases c4 : t153 > 1
    ·rw [if_pos c4] at H
     have c4b0 : decide (1 < t153) = true := decide_eq_true c4
     clear c4
     have H' := c_.mk H
     clear H
     go_wp2_with (first | ((with_reducible refine ah_ (f := 70) rfl ?_); refine bm_ (some 13) rfl rfl Tryz.func70 (by kernel_rfl) rfl #[.string a0, .int .i64 x4_1] rfl (by (try simp only [List.map_toArray, List.map_cons, List.map_nil]); first | done | rfl | (simp only [List.length_drop, List.length_take]; rfl)) ?_; (with_reducible refine (w_.calls k1 a0 x4_1 t153 _ A3.out).mono ?_); rintro e w' ⟨rfl, ⟨nd, rfl⟩⟩; refine ⟨_, rfl, ?_⟩))
     go_roundg k1
     case measure => have := HK1.out; omega
     case rel => exact ⟨(wrap64 (x3_1 + 1)), (wrap64 (x4_1 + t153)), (by first | rfl | (simp; done) | (simp [*]; done)), (by first | rfl | (simp; done) | (simp [*]; done)), H', ⟨by have := HK1.out; omega⟩, by repeat (first | exact ax_.refl _ | apply ax_.step)⟩
    ·rw [if_neg c4] at H
     have c4b0 : decide (1 < t153) = false := decide_eq_false c4
     clear c4
     by_cases c5 : t153 = 1
     ·rw [if_pos c5] at H
      have c5b0 : (t153 == 1) = true := beq_iff_eq.mpr c5
      have c5b1 : (t153 != 1) = false := bne_eq_false_iff_eq.mpr c5
      clear c5
      by_cases c6 : 0 ≤ x4_1
      ·rw [if_pos c6] at H
       have c6b0 : decide (0 ≤ x4_1) = true := decide_eq_true c6
       clear c6
       replace H := Option.bind_eq_some_iff.mp H
       obtain ⟨t154, A80, H⟩ := H
       replace H : (if t154 = true then (aw_.l0 k1 a0 (wrap64 (x3_1 + 1)) (wrap64 (x4_1 + t153))) else (some false)) = some r := H
       have A8 := c_.mk A80
       clear A80
       by_cases c9 : t154 = true
       ·subst c9
        have H1 : (aw_.l0 k1 a0 (wrap64 (x3_1 + 1)) (wrap64 (x4_1 + t153))) = some r := by first | (rw [if_pos rfl] at H; with_reducible exact H) | exact (if_pos rfl).symm.trans H | (simp only [if_true, eq_self_iff_true] at H ⊢; exact H)
        clear H
        have H := H1
        clear H1
        have H' := c_.mk H
        clear H
        go_wp2_with (first | ((with_reducible refine ah_ (f := 70) rfl ?_); refine bm_ (some 13) rfl rfl Tryz.func70 (by kernel_rfl) rfl #[.string a0, .int .i64 x4_1] rfl (by (try simp only [List.map_toArray, List.map_cons, List.map_nil]); first | done | rfl | (simp only [List.length_drop, List.length_take]; rfl)) ?_; (with_reducible refine (w_.calls k1 a0 x4_1 t153 _ A3.out).mono ?_); rintro e w' ⟨rfl, ⟨nd, rfl⟩⟩; refine ⟨_, rfl, ?_⟩; have p7 : 0 ≤ (x4_1 : Int) := of_decide_eq_true (by first | (with_reducible assumption) | assumption); have q7 : x4_1 < (a0.size : Int) := of_decide_eq_true (by first | (with_reducible assumption) | assumption); have hx7 := bt_at a0 x4_1; replace p7 := eq_true p7; replace q7 := eq_true q7) | (go_at_call 71; (with_reducible refine (cc_.calls (bt a0 x4_1) true _ A8.out).mono ?_); rintro e w' ⟨rfl, ⟨nd, rfl⟩⟩))
        go_roundg k1
        case measure => have := HK1.out; omega
        case rel => exact ⟨(wrap64 (x3_1 + 1)), (wrap64 (x4_1 + t153)), (by first | rfl | (simp; done) | (simp [*]; done)), (by first | rfl | (simp; done) | (simp [*]; done)), H', ⟨by have := HK1.out; omega⟩, by repeat (first | exact ax_.refl _ | apply ax_.step)⟩
       ·replace c9 := Bool.eq_false_iff.mpr c9
        subst c9
        have H1 : (some false) = some r := by rw [if_neg (show ¬ (false = true) by decide)] at H; exact H
        clear H
        have H := H1
        clear H1
        obtain rfl := Option.some.inj H
        go_wp2_with (first | ((with_reducible refine ah_ (f := 70) rfl ?_); refine bm_ (some 13) rfl rfl Tryz.func70 (by kernel_rfl) rfl #[.string a0, .int .i64 x4_1] rfl (by (try simp only [List.map_toArray, List.map_cons, List.map_nil]); first | done | rfl | (simp only [List.length_drop, List.length_take]; rfl)) ?_; (with_reducible refine (w_.calls k1 a0 x4_1 t153 _ A3.out).mono ?_); rintro e w' ⟨rfl, ⟨nd, rfl⟩⟩; refine ⟨_, rfl, ?_⟩; have p7 : 0 ≤ (x4_1 : Int) := of_decide_eq_true (by first | (with_reducible assumption) | assumption); have q7 : x4_1 < (a0.size : Int) := of_decide_eq_true (by first | (with_reducible assumption) | assumption); have hx7 := bt_at a0 x4_1; replace p7 := eq_true p7; replace q7 := eq_true q7) | (go_at_call 71; (with_reducible refine (cc_.calls (bt a0 x4_1) false _ A8.out).mono ?_); rintro e w' ⟨rfl, ⟨nd, rfl⟩⟩))
        go_ret
        exact eD_
      ·rw [if_neg c6] at H
       exact absurd H (by simp)
     ·rw [if_neg c5] at H
      have c5b0 : (t153 == 1) = false := beq_eq_false_iff_ne.mpr c5
      have c5b1 : (t153 != 1) = true := bne_iff_ne.mpr c5
      obtain rfl := Option.some.inj H
      go_wp2_with (first | ((with_reducible refine ah_ (f := 70) rfl ?_); refine bm_ (some 13) rfl rfl Tryz.func70 (by kernel_rfl) rfl #[.string a0, .int .i64 x4_1] rfl (by (try simp only [List.map_toArray, List.map_cons, List.map_nil]); first | done | rfl | (simp only [List.length_drop, List.length_take]; rfl)) ?_; (with_reducible refine (w_.calls k1 a0 x4_1 t153 _ A3.out).mono ?_); rintro e w' ⟨rfl, ⟨nd, rfl⟩⟩; refine ⟨_, rfl, ?_⟩))
      go_ret
      exact eD_
   ·rw [if_neg c2] at H
    have c2b0 : decide (x4_1 < (a0.size : Int)) = false := decide_eq_false c2
    clear c2
    by_cases c10 : x3_1 ≥ 1
    ·rw [if_pos c10] at H
     have c10b0 : decide (1 ≤ x3_1) = true := decide_eq_true c10
     clear c10
     by_cases c11 : x3_1 ≤ 16
     ·rw [if_pos c11] at H
      have c11b0 : decide (x3_1 ≤ 16) = true := decide_eq_true c11
      clear c11
      by_cases c12 : a0.toList = ([46] : List UInt8)
      ·rw [if_pos c12] at H
       have c12b0 : (a0.toList == ([46] : List UInt8)) = true := beq_iff_eq.mpr c12
       have c12b1 : (a0.toList != ([46] : List UInt8)) = false := bne_eq_false_iff_eq.mpr c12
       clear c12
       obtain rfl := Option.some.inj H
       go_wp2
       go_ret
       exact eD_
      ·rw [if_neg c12] at H
       have c12b0 : (a0.toList == ([46] : List UInt8)) = false := beq_eq_false_iff_ne.mpr c12
       have c12b1 : (a0.toList != ([46] : List UInt8)) = true := bne_iff_ne.mpr c12
       obtain rfl := Option.some.inj H
       go_wp2
       go_ret
       exact eD_
     ·rw [if_neg c11] at H
      have c11b0 : decide (x3_1 ≤ 16) = false := decide_eq_false c11
      clear c11
      obtain rfl := Option.some.inj H
      go_wp2
      go_ret
      exact eD_
    ·rw [if_neg c10] at H
     have c10b0 : decide (1 ≤ x3_1) = false := decide_eq_false c10
     clear c10
     obtain rfl := Option.some.inj H
     go_wp2
     go_ret
     exact eD_
def dj_.f (k : Nat) (a0 : ByteArray) : Option (Bool) := (aw_.f k a0).bind fun t155 => (some t155)
set_option maxHeartbeats 8000000 in
set_option maxRecDepth 100000 in
theorem dj_.calls (k : Nat) (a0 : ByteArray) (r : Bool) (w : World) (h : dj_.f k a0 = some r) :
  Calls Tryz.prog 49 #[.string a0] w fun e w' => e = .returned (.bool r) ∧ ax_ w w' := by
 have H : ((aw_.f k a0).bind fun t155 => (some t155)) = some r := h
 clear h
 replace H := Option.bind_eq_some_iff.mp H
 obtain ⟨t155, A20, H⟩ := H
 replace H : (some t155) = some r := H
 have A2 := c_.mk A20
 clear A20
 obtain rfl := Option.some.inj H
 go_enter Tryz.func49, Tryz.ntmps49
 go_wp2_with (first | ((with_reducible refine ah_ (f := 60) rfl ?_); refine bm_ (some 4) rfl rfl Tryz.func60 (by kernel_rfl) rfl #[.string a0] rfl (by (try simp only [List.map_toArray, List.map_cons, List.map_nil]); first | done | rfl | (simp only [List.length_drop, List.length_take]; rfl)) ?_; (with_reducible refine (aw_.calls k a0 t155 _ A2.out).mono ?_); rintro e w' ⟨rfl, ⟨nd, rfl⟩⟩; refine ⟨_, rfl, ?_⟩))
 go_ret
 exact eD_
mutual
def am_.j0 : Nat → List ByteArray → Bool → Option (Bool)
 | 0, _, _ => none
 | k + 1, x0, x12 => if x12 = true then (some false) else (am_.l0 k x0 0)
def am_.l0 : Nat → List ByteArray → Int → Option (Bool)
 | 0, _, _ => none
 | k + 1, x0, x3 => if x3 < (x0.length : Int) then (if 0 ≤ x3 then ((aw_.f k (rdOf ByteArray.empty x0 x3)).bind fun t157 => (if t157 = true then (am_.l0 k x0 (wrap64 (x3 + 1))) else (some false))) else (none)) else (some true)
end
def am_.f (k : Nat) (l0 : List ByteArray) : Option (Bool) := if (l0.length : Int) < 1 then (am_.j0 k l0 true) else (am_.j0 k l0 (decide ((l0.length : Int) > 8)))
set_option maxHeartbeats 8000000 in
set_option maxRecDepth 100000 in
theorem am_.calls (k : Nat) (A0 : Option Addr) (c0 : Nat) (l0 : List ByteArray) (r : Bool) (w : World) (hr0 : Kd.C Kd.string w A0 l0.length l0) (hc0 : l0.length ≤ c0) (h : am_.f k l0 = some r) :
  Calls Tryz.prog 61 #[.slice A0 l0.length c0] w fun e w' => e = .returned (.bool r) ∧ ax_ w w' := by
 have HR0 := c_.mk hr0
 have HC0 := c_.mk hc0
 clear hr0 hc0
 have H : (if (l0.length : Int) < 1 then (am_.j0 k l0 true) else (am_.j0 k l0 (decide ((l0.length : Int) > 8)))) = some r := h
 clear h
 have HC2 := c_.mk H
 clear H
 go_enter Tryz.func61, Tryz.ntmps61
 go_upto_region 1 with (fail)
 go_cut [12] (fun v12 wc => ∃ (kq : Nat) (x12_1 : Bool), v12 = .bool x12_1 ∧ c_ (am_.j0 kq l0 x12_1 = some r) ∧ c_ (kq ≤ k) ∧ ax_ w wc)
 case first =>
  have H := HC2.out
  clear HC2
  by_cases c3 : (l0.length : Int) < 1
  ·rw [if_pos c3] at H
   have c3b0 : decide ((l0.length : Int) < 1) = true := decide_eq_true c3
   have c3b1 : decide (l0.length < 1) = true := decide_eq_true (by omega)
   clear c3
   (first | rw [c3b0] | (simp only [af_, ag_]; rw [c3b0]) | skip)
   have H' := c_.mk H
   clear H
   go_wp2
   go_meet
   case rel => exact ⟨_, (true), (by first | rfl | (simp; done) | (simp [*]; done)), H', ⟨by first | omega | exact Nat.le_refl _⟩, by repeat (first | exact ax_.refl _ | apply ax_.step)⟩
  ·rw [if_neg c3] at H
   have c3b0 : decide ((l0.length : Int) < 1) = false := decide_eq_false c3
   have c3b1 : decide (l0.length < 1) = false := decide_eq_false (by omega)
   clear c3
   (first | rw [c3b0] | (simp only [af_, ag_]; rw [c3b0]) | skip)
   have H' := c_.mk H
   clear H
   go_wp2
   go_meet
   case rel => exact ⟨_, (decide ((l0.length : Int) > 8)), (by first | rfl | (simp; done) | (simp [*]; done)), H', ⟨by first | omega | exact Nat.le_refl _⟩, by repeat (first | exact ax_.refl _ | apply ax_.step)⟩
 case rest =>
  clear HC2
  try clear p2
  try clear c3
  try clear c3b0
  try clear c3b1
  obtain ⟨kq, x12_1, rfl, HA, HJ1, ⟨mc1, rfl⟩⟩ := hcut
  cases kq with
  | zero => exact absurd HA.out (by simp [am_.j0])
  | succ kj1 =>
   have H := HA.out
   clear HA
   simp only [am_.j0] at H
   by_cases c4 : x12_1 = true
   ·subst c4
    have H1 : (some false) = some r := by first | (rw [if_pos rfl] at H; with_reducible exact H) | exact (if_pos rfl).symm.trans H | (simp only [if_true, eq_self_iff_true] at H ⊢; exact H)
    clear H
    have H := H1
    clear H1
    obtain rfl := Option.some.inj H
    go_wp2
    go_ret
    exact eD_
   ·replace c4 := Bool.eq_false_iff.mpr c4
    subst c4
    have H1 : (am_.l0 kj1 l0 0) = some r := by rw [if_neg (show ¬ (false = true) by decide)] at H; exact H
    clear H
    have H := H1
    clear H1
    have H' := c_.mk H
    clear H
    go_wp2
    go_loopg [3] kj1 (fun kq v3 w' => ∃ (x3_2 : Int), v3 = .int .i64 x3_2 ∧ c_ (am_.l0 kq l0 x3_2 = some r) ∧ c_ (kq ≤ kj1) ∧ ax_ w w')
    case atStart => exact ⟨(0), (by first | rfl | (simp; done) | (simp [*]; done)), H', ⟨Nat.le_refl _⟩, by repeat (first | exact ax_.refl _ | apply ax_.step)⟩
    case round =>
     clear H'
     try clear c1
     try clear p2
     try clear c3
     try clear c3b0
     try clear c3b1
     try clear c4
     try clear p2
     obtain ⟨x3_2, rfl, HA, HK2, ⟨m2, rfl⟩⟩ := hrel
     cases gk with
     | zero => exact absurd HA.out (by simp [am_.l0])
     | succ k2 =>
      have H := HA.out
      clear HA
      simp only [am_.l0] at H
      by_cases c5 : x3_2 < (l0.length : Int)
      ·rw [if_pos c5] at H
       have c5b0 : decide (x3_2 < (l0.length : Int)) = true := decide_eq_true c5
       clear c5
       by_cases c6 : 0 ≤ x3_2
       ·rw [if_pos c6] at H
        have c6b0 : decide (0 ≤ x3_2) = true := decide_eq_true c6
        clear c6
        replace H := Option.bind_eq_some_iff.mp H
        obtain ⟨t157, A70, H⟩ := H
        replace H : (if t157 = true then (am_.l0 k2 l0 (wrap64 (x3_2 + 1))) else (some false)) = some r := H
        have A7 := c_.mk A70
        clear A70
        by_cases c8 : t157 = true
        ·subst c8
         have H1 : (am_.l0 k2 l0 (wrap64 (x3_2 + 1))) = some r := by first | (rw [if_pos rfl] at H; with_reducible exact H) | exact (if_pos rfl).symm.trans H | (simp only [if_true, eq_self_iff_true] at H ⊢; exact H)
         clear H
         have H := H1
         clear H1
         have H' := c_.mk H
         clear H
         have p156 : 0 ≤ (x3_2 : Int) := of_decide_eq_true (by first | (with_reducible assumption) | assumption)
         have q156 : x3_2 < (l0.length : Int) := of_decide_eq_true (by first | (with_reducible assumption) | assumption)
         obtain ⟨ad156, e156, hx156_0⟩ := Kd.at_string HR0.out x3_2 p156 q156
         cases e156
         replace p156 := eq_true p156
         replace q156 := eq_true q156
         go_wp2_with (first | ((with_reducible refine ah_ (f := 60) rfl ?_); refine bm_ (some 23) rfl rfl Tryz.func60 (by kernel_rfl) rfl #[.string (rdOf ByteArray.empty l0 x3_2)] rfl (by (try simp only [List.map_toArray, List.map_cons, List.map_nil]); first | done | rfl | (simp only [List.length_drop, List.length_take]; rfl)) ?_; (with_reducible refine (aw_.calls k2 (rdOf ByteArray.empty l0 x3_2) true _ A7.out).mono ?_); rintro e w' ⟨rfl, ⟨nd, rfl⟩⟩; refine ⟨_, rfl, ?_⟩))
         go_roundg k2
         case measure => have := HJ1.out; have := HK2.out; omega
         case rel => exact ⟨(wrap64 (x3_2 + 1)), (by first | rfl | (simp; done) | (simp [*]; done)), H', ⟨by have := HJ1.out; have := HK2.out; omega⟩, by repeat (first | exact ax_.refl _ | apply ax_.step)⟩
        ·replace c8 := Bool.eq_false_iff.mpr c8
         subst c8
         have H1 : (some false) = some r := by rw [if_neg (show ¬ (false = true) by decide)] at H; exact H
         clear H
         have H := H1
         clear H1
         obtain rfl := Option.some.inj H
         have p156 : 0 ≤ (x3_2 : Int) := of_decide_eq_true (by first | (with_reducible assumption) | assumption)
         have q156 : x3_2 < (l0.length : Int) := of_decide_eq_true (by first | (with_reducible assumption) | assumption)
         obtain ⟨ad156, e156, hx156_0⟩ := Kd.at_string HR0.out x3_2 p156 q156
         cases e156
         replace p156 := eq_true p156
         replace q156 := eq_true q156
         go_wp2_with (first | ((with_reducible refine ah_ (f := 60) rfl ?_); refine bm_ (some 23) rfl rfl Tryz.func60 (by kernel_rfl) rfl #[.string (rdOf ByteArray.empty l0 x3_2)] rfl (by (try simp only [List.map_toArray, List.map_cons, List.map_nil]); first | done | rfl | (simp only [List.length_drop, List.length_take]; rfl)) ?_; (with_reducible refine (aw_.calls k2 (rdOf ByteArray.empty l0 x3_2) false _ A7.out).mono ?_); rintro e w' ⟨rfl, ⟨nd, rfl⟩⟩; refine ⟨_, rfl, ?_⟩))
         go_ret
         exact eD_
       ·rw [if_neg c6] at H
        exact absurd H (by simp)
      ·rw [if_neg c5] at H
       have c5b0 : decide (x3_2 < (l0.length : Int)) = false := decide_eq_false c5
       clear c5
       obtain rfl := Option.some.inj H
       go_wp2
       go_ret
       exact eD_
end Go.Proofs.YtlcfcaokihoplaaGreatDoor.Ms
