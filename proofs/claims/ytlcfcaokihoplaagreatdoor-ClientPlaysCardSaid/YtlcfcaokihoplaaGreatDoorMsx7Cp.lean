-- Cut.
import Derived.Test.YtlcfcaokihoplaaGreatDoorMsx1Cp
namespace Go.Proofs.YtlcfcaokihoplaaGreatDoor.Ms
open Go.RowKit Go.Proofs.YzW.PrintWords Go.Proofs.YzW.PrintLast Go.Proofs.YzW.PrintMore
attribute [local go_sem] cg_ ce_ cw_ cv_ by_ bx_ cf_ cd_
set_option linter.unusedVariables false
set_option linter.unusedSimpArgs false
attribute [local go_sem] eqlErr neqErr eqlErrNil neqErrNil
open Go.Proofs.YtlcfcaokihoplaaGreatDoor.Mw
mutual
def w_.j2 : Nat → ByteArray → Int → Int → Int → Int → Option (Int)
 | 0, _, _, _, _, _ => none
 | k + 1, x0, x1, x6, x7, x8 => if (wrap64 (x1 + x6)) > (x0.size : Int) then (some 0) else (w_.l0 k x0 x1 x6 x7 x8 1)
def w_.l0 : Nat → ByteArray → Int → Int → Int → Int → Int → Option (Int)
 | 0, _, _, _, _, _, _ => none
 | k + 1, x0, x1, x6, x7, x8, x9 => if x9 < x6 then (if 0 ≤ (wrap64 (x1 + x9)) then (if (wrap64 (x1 + x9)) < (x0.size : Int) then (if (bt x0 (wrap64 (x1 + x9))) < 128 then (some 0) else (if (bt x0 (wrap64 (x1 + x9))) > 191 then (some 0) else (w_.l0 k x0 x1 x6 x7 (wrap64 ((wrap64 ((wrap64 (x8 * 64)) + (wrap64 (bt x0 (wrap64 (x1 + x9)))))) - 128)) (wrap64 (x9 + 1))))) else (none)) else (none)) else (if x8 < x7 then (some 0) else (if x8 > 1114111 then (some 0) else (if x8 ≥ 55296 then (if x8 ≤ 57343 then (some 0) else (if x8 = 65533 then (some 0) else (some x6))) else (if x8 = 65533 then (some 0) else (some x6)))))
def w_.j0 : Nat → ByteArray → Int → Int → Bool → Option (Int)
 | 0, _, _, _, _ => none
 | k + 1, x0, x1, x5, x17 => if x17 = true then (w_.j2 k x0 x1 2 128 (wrap64 ((wrap64 (x5)) - 192))) else (if x5 ≥ 224 then (w_.j1 k x0 x1 x5 (decide (x5 < 240))) else (w_.j1 k x0 x1 x5 false))
def w_.j1 : Nat → ByteArray → Int → Int → Bool → Option (Int)
 | 0, _, _, _, _ => none
 | k + 1, x0, x1, x5, x27 => if x27 = true then (w_.j2 k x0 x1 3 2048 (wrap64 ((wrap64 (x5)) - 224))) else (if x5 ≥ 240 then (if x5 < 248 then (w_.j2 k x0 x1 4 65536 (wrap64 ((wrap64 (x5)) - 240))) else (some 0)) else (some 0))
end
def w_.f (k : Nat) (a0 : ByteArray) (a1 : Int) : Option (Int) := if 0 ≤ a1 then (if a1 < (a0.size : Int) then (if (bt a0 a1) < 128 then (some 1) else (if (bt a0 a1) ≥ 192 then (w_.j0 k a0 a1 (bt a0 a1) (decide ((bt a0 a1) < 224))) else (w_.j0 k a0 a1 (bt a0 a1) false))) else (none)) else (none)
set_option maxHeartbeats 8000000 in
set_option maxRecDepth 100000 in
theorem w_.calls (k : Nat) (a0 : ByteArray) (a1 : Int) (r : Int) (w : World) (h : w_.f k a0 a1 = some r) :
  Calls Tryz.prog 70 #[.string a0, .int .i64 a1] w fun e w' => e = .returned (.int .i64 r) ∧ ax_ w w' := by
 have H : (if 0 ≤ a1 then (if a1 < (a0.size : Int) then (if (bt a0 a1) < 128 then (some 1) else (if (bt a0 a1) ≥ 192 then (w_.j0 k a0 a1 (bt a0 a1) (decide ((bt a0 a1) < 224))) else (w_.j0 k a0 a1 (bt a0 a1) false))) else (none)) else (none)) = some r := h
 clear h
 by_cases c3 : 0 ≤ a1
 ·rw [if_pos c3] at H
  have c3b0 : decide (0 ≤ a1) = true := decide_eq_true c3
  clear c3
  by_cases c4 : a1 < (a0.size : Int)
  ·rw [if_pos c4] at H
   have c4b0 : decide (a1 < (a0.size : Int)) = true := decide_eq_true c4
   clear c4
   have HC6 := c_.mk H
   clear H
   have p5 : 0 ≤ (a1 : Int) := of_decide_eq_true (by first | (with_reducible assumption) | assumption)
   have q5 : a1 < (a0.size : Int) := of_decide_eq_true (by first | (with_reducible assumption) | assumption)
   have hx5 := bt_at a0 a1
   replace p5 := eq_true p5
   replace q5 := eq_true q5
   go_enter Tryz.func70, Tryz.ntmps70
   go_upto_block 0 with (fail)
   go_cut [6, 7, 8] (fun v6 v7 v8 wc => ∃ (kq : Nat) (x6_5 : Int) (x7_5 : Int) (x8_5 : Int), v6 = .int .i64 x6_5 ∧ v7 = .int .i64 x7_5 ∧ v8 = .int .i64 x8_5 ∧ c_ (w_.j2 kq a0 a1 x6_5 x7_5 x8_5 = some r) ∧ c_ (kq ≤ k) ∧ ax_ w wc)
   case first =>
    have H := HC6.out
    clear HC6
    by_cases c7 : (bt a0 a1) < 128
    ·rw [if_pos c7] at H
     have c7b0 : decide ((bt a0 a1) < 128) = true := decide_eq_true c7
     clear c7
     (first | rw [c7b0] | (simp only [af_, ag_]; rw [c7b0]) | skip)
     obtain rfl := Option.some.inj H
     go_wp2
     go_ret
     exact eD_
    ·rw [if_neg c7] at H
     have c7b0 : decide ((bt a0 a1) < 128) = false := decide_eq_false c7
     clear c7
     (first | rw [c7b0] | (simp only [af_, ag_]; rw [c7b0]) | skip)
     have HC8 := c_.mk H
     clear H
     go_upto_region 8 with (fail)
     go_cut [17] (fun v17 wc => ∃ (kq : Nat) (x17_7 : Bool), v17 = .bool x17_7 ∧ c_ (w_.j0 kq a0 a1 (bt a0 a1) x17_7 = some r) ∧ c_ (kq ≤ k) ∧ ax_ w wc)
     case first =>
      have H := HC8.out
      clear HC8
      by_cases c9 : (bt a0 a1) ≥ 192
      ·rw [if_pos c9] at H
       have c9b0 : decide (192 ≤ (bt a0 a1)) = true := decide_eq_true c9
       clear c9
       (first | rw [c9b0] | (simp only [af_, ag_]; rw [c9b0]) | skip)
       have H' := c_.mk H
       clear H
       go_wp2
       go_meet
       case rel => exact ⟨_, (decide ((bt a0 a1) < 224)), (by first | rfl | (simp; done) | (simp [*]; done)), H', ⟨by first | omega | exact Nat.le_refl _⟩, by repeat (first | exact ax_.refl _ | apply ax_.step)⟩
      ·rw [if_neg c9] at H
       have c9b0 : decide (192 ≤ (bt a0 a1)) = false := decide_eq_false c9
       clear c9
       (first | rw [c9b0] | (simp only [af_, ag_]; rw [c9b0]) | skip)
       have H' := c_.mk H
       clear H
       go_wp2
       go_meet
       case rel => exact ⟨_, (false), (by first | rfl | (simp; done) | (simp [*]; done)), H', ⟨by first | omega | exact Nat.le_refl _⟩, by repeat (first | exact ax_.refl _ | apply ax_.step)⟩
     case rest =>
      clear HC8
      try clear p2
      try clear c3
      try clear c3b0
      try clear c4
      try clear c4b0
      try clear p5
      try clear q5
      try clear hx5
      try clear c7
      try clear c7b0
      try clear c9
      try clear c9b0
      try clear p5
      try clear q5
      obtain ⟨kq, x17_7, rfl, HA, HJ7, ⟨mc7, rfl⟩⟩ := hcut
      cases kq with
      | zero => exact absurd HA.out (by simp [w_.j0])
      | succ kj7 =>
       have H := HA.out
       clear HA
       simp only [w_.j0] at H
       by_cases c10 : x17_7 = true
       ·subst c10
        have H1 : (w_.j2 kj7 a0 a1 2 128 (wrap64 ((wrap64 ((bt a0 a1))) - 192))) = some r := by first | (rw [if_pos rfl] at H; with_reducible exact H) | exact (if_pos rfl).symm.trans H | (simp only [if_true, eq_self_iff_true] at H ⊢; exact H)
        clear H
        have H := H1
        clear H1
        have H' := c_.mk H
        clear H
        go_wp2
        go_meet
        case rel => exact ⟨_, (2), (128), (wrap64 ((wrap64 ((bt a0 a1))) - 192)), (by first | rfl | (simp; done) | (simp [*]; done)), (by first | rfl | (simp; done) | (simp [*]; done)), (by first | rfl | (simp; done) | (simp [*]; done)), H', ⟨by have := HJ7.out; first | omega | exact Nat.le_refl _⟩, by repeat (first | exact ax_.refl _ | apply ax_.step)⟩
       ·replace c10 := Bool.eq_false_iff.mpr c10
        subst c10
        have H1 : (if (bt a0 a1) ≥ 224 then (w_.j1 kj7 a0 a1 (bt a0 a1) (decide ((bt a0 a1) < 240))) else (w_.j1 kj7 a0 a1 (bt a0 a1) false)) = some r := by rw [if_neg (show ¬ (false = true) by decide)] at H; exact H
        clear H
        have H := H1
        clear H1
        have HC11 := c_.mk H
        clear H
        go_upto_region 12 with (fail)
        go_cut [27] (fun v27 wc => ∃ (kq : Nat) (x27_10 : Bool), v27 = .bool x27_10 ∧ c_ (w_.j1 kq a0 a1 (bt a0 a1) x27_10 = some r) ∧ c_ (kq ≤ kj7) ∧ ax_ w wc)
        case first =>
         have H := HC11.out
         clear HC11
         by_cases c12 : (bt a0 a1) ≥ 224
         ·rw [if_pos c12] at H
          have c12b0 : decide (224 ≤ (bt a0 a1)) = true := decide_eq_true c12
          clear c12
          (first | rw [c12b0] | (simp only [af_, ag_]; rw [c12b0]) | skip)
          have H' := c_.mk H
          clear H
          go_wp2
          go_meet
          case rel => exact ⟨_, (decide ((bt a0 a1) < 240)), (by first | rfl | (simp; done) | (simp [*]; done)), H', ⟨by have := HJ7.out; first | omega | exact Nat.le_refl _⟩, by repeat (first | exact ax_.refl _ | apply ax_.step)⟩
         ·rw [if_neg c12] at H
          have c12b0 : decide (224 ≤ (bt a0 a1)) = false := decide_eq_false c12
          clear c12
          (first | rw [c12b0] | (simp only [af_, ag_]; rw [c12b0]) | skip)
          have H' := c_.mk H
          clear H
          go_wp2
          go_meet
          case rel => exact ⟨_, (false), (by first | rfl | (simp; done) | (simp [*]; done)), H', ⟨by have := HJ7.out; first | omega | exact Nat.le_refl _⟩, by repeat (first | exact ax_.refl _ | apply ax_.step)⟩
        case rest =>
         clear HC11
         try clear c1
         try clear p2
         try clear c3
         try clear c3b0
         try clear c4
         try clear c4b0
         try clear p5
         try clear q5
         try clear hx5
         try clear p6
         try clear c7
         try clear c7b0
         try clear c9
         try clear c9b0
         try clear c10
         try clear c12
         try clear c12b0
         try clear p2
         try clear p5
         try clear q5
         obtain ⟨kq, x27_10, rfl, HA, HJ10, ⟨mc10, rfl⟩⟩ := hcut
         cases kq with
         | zero => exact absurd HA.out (by simp [w_.j1])
         | succ kj10 =>
          have H := HA.out
          clear HA
          simp only [w_.j1] at H
          by_cases c13 : x27_10 = true
          ·subst c13
           have H1 : (w_.j2 kj10 a0 a1 3 2048 (wrap64 ((wrap64 ((bt a0 a1))) - 224))) = some r := by first | (rw [if_pos rfl] at H; with_reducible exact H) | exact (if_pos rfl).symm.trans H | (simp only [if_true, eq_self_iff_true] at H ⊢; exact H)
           clear H
           have H := H1
           clear H1
           have H' := c_.mk H
           clear H
           go_wp2
           go_meet
           case rel => exact ⟨_, (3), (2048), (wrap64 ((wrap64 ((bt a0 a1))) - 224)), (by first | rfl | (simp; done) | (simp [*]; done)), (by first | rfl | (simp; done) | (simp [*]; done)), (by first | rfl | (simp; done) | (simp [*]; done)), H', ⟨by have := HJ7.out; have := HJ10.out; first | omega | exact Nat.le_refl _⟩, by repeat (first | exact ax_.refl _ | apply ax_.step)⟩
          ·replace c13 := Bool.eq_false_iff.mpr c13
           subst c13
           have H1 : (if (bt a0 a1) ≥ 240 then (if (bt a0 a1) < 248 then (w_.j2 kj10 a0 a1 4 65536 (wrap64 ((wrap64 ((bt a0 a1))) - 240))) else (some 0)) else (some 0)) = some r := by rw [if_neg (show ¬ (false = true) by decide)] at H; exact H
           clear H
           have H := H1
           clear H1
           by_cases c14 : (bt a0 a1) ≥ 240
           ·rw [if_pos c14] at H
            have c14b0 : decide (240 ≤ (bt a0 a1)) = true := decide_eq_true c14
            clear c14
            by_cases c15 : (bt a0 a1) < 248
            ·rw [if_pos c15] at H
             have c15b0 : decide ((bt a0 a1) < 248) = true := decide_eq_true c15
             clear c15
             have H' := c_.mk H
             clear H
             go_wp2
             go_meet
             case rel => exact ⟨_, (4), (65536), (wrap64 ((wrap64 ((bt a0 a1))) - 240)), (by first | rfl | (simp; done) | (simp [*]; done)), (by first | rfl | (simp; done) | (simp [*]; done)), (by first | rfl | (simp; done) | (simp [*]; done)), H', ⟨by have := HJ7.out; have := HJ10.out; first | omega | exact Nat.le_refl _⟩, by repeat (first | exact ax_.refl _ | apply ax_.step)⟩
            ·rw [if_neg c15] at H
             have c15b0 : decide ((bt a0 a1) < 248) = false := decide_eq_false c15
             clear c15
             obtain rfl := Option.some.inj H
             go_wp2
             go_ret
             exact eD_
           ·rw [if_neg c14] at H
            have c14b0 : decide (240 ≤ (bt a0 a1)) = false := decide_eq_false c14
            clear c14
            obtain rfl := Option.some.inj H
            go_wp2
            go_ret
            exact eD_
   case rest =>
    clear HC6
    try clear c1
    try clear p2
    try clear c3
    try clear c3b0
    try clear c4
    try clear c4b0
    try clear p5
    try clear q5
    try clear hx5
    try clear p6
    try clear c7
    try clear c7b0
    try clear c9
    try clear c9b0
    try clear c10
    try clear c12
    try clear c12b0
    try clear c13
    try clear c14
    try clear c14b0
    try clear c15
    try clear c15b0
    try clear p2
    try clear p5
    try clear p6
    try clear q5
    obtain ⟨kq, x6_5, x7_5, x8_5, rfl, rfl, rfl, HA, HJ5, ⟨mc5, rfl⟩⟩ := hcut
    cases kq with
    | zero => exact absurd HA.out (by simp [w_.j2])
    | succ kj5 =>
     have H := HA.out
     clear HA
     simp only [w_.j2] at H
     by_cases c16 : (wrap64 (a1 + x6_5)) > (a0.size : Int)
     ·rw [if_pos c16] at H
      have c16b0 : decide ((a0.size : Int) < (wrap64 (a1 + x6_5))) = true := decide_eq_true c16
      clear c16
      obtain rfl := Option.some.inj H
      go_wp2
      go_ret
      exact eD_
     ·rw [if_neg c16] at H
      have c16b0 : decide ((a0.size : Int) < (wrap64 (a1 + x6_5))) = false := decide_eq_false c16
      clear c16
      have H' := c_.mk H
      clear H
      go_wp2
      go_loopg [8, 9] kj5 (fun kq v8 v9 w' => ∃ (x8_2 : Int) (x9_2 : Int), v8 = .int .i64 x8_2 ∧ v9 = .int .i64 x9_2 ∧ c_ (w_.l0 kq a0 a1 x6_5 x7_5 x8_2 x9_2 = some r) ∧ c_ (kq ≤ kj5) ∧ ax_ w w')
      case atStart => exact ⟨(x8_5), (1), (by first | rfl | (simp; done) | (simp [*]; done)), (by first | rfl | (simp; done) | (simp [*]; done)), H', ⟨Nat.le_refl _⟩, by repeat (first | exact ax_.refl _ | apply ax_.step)⟩
      case round =>
       clear H'
       try clear c1
       try clear p2
       try clear c3
       try clear c3b0
       try clear c4
       try clear c4b0
       try clear c5
       try clear p5
       try clear q5
       try clear hx5
       try clear p6
       try clear c7
       try clear c7b0
       try clear c9
       try clear c9b0
       try clear c10
       try clear c12
       try clear c12b0
       try clear c13
       try clear c14
       try clear c14b0
       try clear c15
       try clear c15b0
       try clear c16
       try clear c16b0
       try clear p2
       try clear p5
       try clear p6
       try clear q5
       obtain ⟨x8_2, x9_2, rfl, rfl, HA, HK2, ⟨m2, rfl⟩⟩ := hrel
       cases gk with
       | zero => exact absurd HA.out (by simp [w_.l0])
       | succ k2 =>
        have H := HA.out
        clear HA
        simp only [w_.l0] at H
        by_cases c17 : x9_2 < x6_5
        ·rw [if_pos c17] at H
         have c17b0 : decide (x9_2 < x6_5) = true := decide_eq_true c17
         clear c17
         obtain ⟨ji18, hji18⟩ : ∃ j_ : Int, (wrap64 (a1 + x9_2)) = j_ := ⟨_, rfl⟩
         replace H : (if 0 ≤ (ji18) then (if (ji18) < (a0.size : Int) then (if (bt a0 (ji18)) < 128 then (some 0) else (if (bt a0 (ji18)) > 191 then (some 0) else (w_.l0 k2 a0 a1 x6_5 x7_5 (wrap64 ((wrap64 ((wrap64 (x8_2 * 64)) + (wrap64 (bt a0 (ji18))))) - 128)) (wrap64 (x9_2 + 1))))) else (none)) else (none)) = some r := by first | (rw [hji18] at H; exact H) | (simp only [hji18] at H ⊢; exact H)
         have hji18w : (IntKind.i64.wrap (a1 + x9_2)) = ji18 := (af_ _).trans hji18
         by_cases c19 : 0 ≤ (ji18)
         ·rw [if_pos c19] at H
          have c19b0 : decide (0 ≤ (ji18)) = true := decide_eq_true c19
          clear c19
          by_cases c20 : (ji18) < (a0.size : Int)
          ·rw [if_pos c20] at H
           have c20b0 : decide ((ji18) < (a0.size : Int)) = true := decide_eq_true c20
           clear c20
           by_cases c22 : (bt a0 (ji18)) < 128
           ·rw [if_pos c22] at H
            have c22b0 : decide ((bt a0 (ji18)) < 128) = true := decide_eq_true c22
            clear c22
            obtain rfl := Option.some.inj H
            have p21 : 0 ≤ ((ji18) : Int) := of_decide_eq_true (by first | (with_reducible assumption) | assumption)
            have q21 : (ji18) < (a0.size : Int) := of_decide_eq_true (by first | (with_reducible assumption) | assumption)
            have hx21 := bt_at a0 (ji18)
            replace p21 := eq_true p21
            replace q21 := eq_true q21
            go_wp2
            go_ret
            exact ⟨by first | rfl | (simp; done) | (simp only [← hji18] <;> (first | rfl | simp)) | (simp [*]; done), by repeat (first | exact ax_.refl _ | apply ax_.step)⟩
           ·rw [if_neg c22] at H
            have c22b0 : decide ((bt a0 (ji18)) < 128) = false := decide_eq_false c22
            clear c22
            by_cases c23 : (bt a0 (ji18)) > 191
            ·rw [if_pos c23] at H
             have c23b0 : decide (191 < (bt a0 (ji18))) = true := decide_eq_true c23
             clear c23
             obtain rfl := Option.some.inj H
             have p21 : 0 ≤ ((ji18) : Int) := of_decide_eq_true (by first | (with_reducible assumption) | assumption)
             have q21 : (ji18) < (a0.size : Int) := of_decide_eq_true (by first | (with_reducible assumption) | assumption)
             have hx21 := bt_at a0 (ji18)
             replace p21 := eq_true p21
             replace q21 := eq_true q21
             go_wp2
             go_ret
             exact ⟨by first | rfl | (simp; done) | (simp only [← hji18] <;> (first | rfl | simp)) | (simp [*]; done), by repeat (first | exact ax_.refl _ | apply ax_.step)⟩
            ·rw [if_neg c23] at H
             have c23b0 : decide (191 < (bt a0 (ji18))) = false := decide_eq_false c23
             clear c23
             have H' := c_.mk H
             clear H
             have p21 : 0 ≤ ((ji18) : Int) := of_decide_eq_true (by first | (with_reducible assumption) | assumption)
             have q21 : (ji18) < (a0.size : Int) := of_decide_eq_true (by first | (with_reducible assumption) | assumption)
             have hx21 := bt_at a0 (ji18)
             replace p21 := eq_true p21
             replace q21 := eq_true q21
             go_wp2
             go_roundg k2
             case measure => have := HJ5.out; have := HK2.out; omega
             case rel => exact ⟨(wrap64 ((wrap64 ((wrap64 (x8_2 * 64)) + (wrap64 (bt a0 (ji18))))) - 128)), (wrap64 (x9_2 + 1)), (by first | rfl | (simp; done) | (simp only [← hji18] <;> (first | rfl | simp)) | (simp [*]; done)), (by first | rfl | (simp; done) | (simp [*]; done)), H', ⟨by have := HJ5.out; have := HK2.out; omega⟩, by repeat (first | exact ax_.refl _ | apply ax_.step)⟩
          ·rw [if_neg c20] at H
           exact absurd H (by simp)
         ·rw [if_neg c19] at H
          exact absurd H (by simp)
        ·rw [if_neg c17] at H
         have c17b0 : decide (x9_2 < x6_5) = false := decide_eq_false c17
         clear c17
         by_cases c24 : x8_2 < x7_5
         ·rw [if_pos c24] at H
          have c24b0 : decide (x8_2 < x7_5) = true := decide_eq_true c24
          clear c24
          obtain rfl := Option.some.inj H
          go_wp2
          go_ret
          exact eD_
         ·rw [if_neg c24] at H
          have c24b0 : decide (x8_2 < x7_5) = false := decide_eq_false c24
          clear c24
          by_cases c25 : x8_2 > 1114111
          ·rw [if_pos c25] at H
           have c25b0 : decide (1114111 < x8_2) = true := decide_eq_true c25
           clear c25
           obtain rfl := Option.some.inj H
           go_wp2
           go_ret
           exact eD_
          ·rw [if_neg c25] at H
           have c25b0 : decide (1114111 < x8_2) = false := decide_eq_false c25
           clear c25
           by_cases c26 : x8_2 ≥ 55296
           ·rw [if_pos c26] at H
            have c26b0 : decide (55296 ≤ x8_2) = true := decide_eq_true c26
            clear c26
            by_cases c27 : x8_2 ≤ 57343
            ·rw [if_pos c27] at H
             have c27b0 : decide (x8_2 ≤ 57343) = true := decide_eq_true c27
             clear c27
             obtain rfl := Option.some.inj H
             go_wp2
             go_ret
             exact eD_
            ·rw [if_neg c27] at H
             have c27b0 : decide (x8_2 ≤ 57343) = false := decide_eq_false c27
             clear c27
             by_cases c28 : x8_2 = 65533
             ·rw [if_pos c28] at H
              have c28b0 : (x8_2 == 65533) = true := beq_iff_eq.mpr c28
              have c28b1 : (x8_2 != 65533) = false := bne_eq_false_iff_eq.mpr c28
              clear c28
              obtain rfl := Option.some.inj H
              go_wp2
              go_ret
              exact eD_
             ·rw [if_neg c28] at H
              have c28b0 : (x8_2 == 65533) = false := beq_eq_false_iff_ne.mpr c28
              have c28b1 : (x8_2 != 65533) = true := bne_iff_ne.mpr c28
              obtain rfl := Option.some.inj H
              go_wp2
              go_ret
              exact eD_
           ·rw [if_neg c26] at H
            have c26b0 : decide (55296 ≤ x8_2) = false := decide_eq_false c26
            clear c26
            by_cases c29 : x8_2 = 65533
            ·rw [if_pos c29] at H
             have c29b0 : (x8_2 == 65533) = true := beq_iff_eq.mpr c29
             have c29b1 : (x8_2 != 65533) = false := bne_eq_false_iff_eq.mpr c29
             clear c29
             obtain rfl := Option.some.inj H
             go_wp2
             go_ret
             exact eD_
            ·rw [if_neg c29] at H
             have c29b0 : (x8_2 == 65533) = false := beq_eq_false_iff_ne.mpr c29
             have c29b1 : (x8_2 != 65533) = true := bne_iff_ne.mpr c29
             obtain rfl := Option.some.inj H
             go_wp2
             go_ret
             exact eD_
  ·rw [if_neg c4] at H
   exact absurd H (by simp)
 ·rw [if_neg c3] at H
  exact absurd H (by simp)
end Go.Proofs.YtlcfcaokihoplaaGreatDoor.Ms
