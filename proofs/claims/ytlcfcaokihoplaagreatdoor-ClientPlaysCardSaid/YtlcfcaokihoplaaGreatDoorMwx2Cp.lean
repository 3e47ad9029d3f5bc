-- Cut.
import Derived.Test.YtlcfcaokihoplaaGreatDoorMwx0Cp
import Derived.Test.YtlcfcaokihoplaaGreatDoorMwx1Cp
namespace Go.Proofs.YtlcfcaokihoplaaGreatDoor.Mw
open Go.RowKit Go.Proofs.YzW.PrintWords Go.Proofs.YzW.PrintLast Go.Proofs.YzW.PrintMore
attribute [local go_sem] cg_ ce_ cw_ cv_ by_ bx_ cf_ cd_
set_option linter.unusedVariables false
set_option linter.unusedSimpArgs false
attribute [local go_sem] eqlErr neqErr eqlErrNil neqErrNil
mutual
def t_.j1 : Nat → List Int → Int → Int → Option (Int × Int)
 | 0, _, _, _ => none
 | k + 1, x0, x1, x6 => if (wrap64 (x1 + x6)) ≥ (x0.length : Int) then (t_.j2 k x0 x1 x6 true) else (t_.j2 k x0 x1 x6 (decide (x6 ≥ 10)))
def t_.j2 : Nat → List Int → Int → Int → Bool → Option (Int × Int)
 | 0, _, _, _, _ => none
 | k + 1, x0, x1, x6, x39 => if x39 = true then (some (0, 0)) else (t_.l1 k x0 x1 x6 0 x6)
def t_.l1 : Nat → List Int → Int → Int → Int → Int → Option (Int × Int)
 | 0, _, _, _, _, _ => none
 | k + 1, x0, x1, x6, x7, x8 => if x8 ≥ 0 then (if 0 ≤ (wrap64 (x1 + x8)) then (if (wrap64 (x1 + x8)) < (x0.length : Int) then (t_.l1 k x0 x1 x6 (IntKind.u64.wrap ((IntKind.u64.wrap (x7 * 128)) + (IntKind.u64.wrap (Int.tmod (rd x0 (wrap64 (x1 + x8))) 128)))) (wrap64 (x8 - 1))) else (none)) else (none)) else ((av_.f k x7).bind fun t116 => (if 0 ≤ x1 then (if x1 ≤ (wrap64 ((wrap64 (x1 + x6)) + 1)) then (if (wrap64 ((wrap64 (x1 + x6)) + 1)) ≤ (x0.length : Int) then (if (strOfNums t116).toList = (strOfNums ((x0.take ((wrap64 ((wrap64 (x1 + x6)) + 1)) : Int).toNat).drop (x1 : Int).toNat)).toList then (some (x7, wrap64 (x6 + 1))) else (some (0, 0))) else (none)) else (none)) else (none)))
def t_.l0 : Nat → List Int → Int → Int → Option (Int × Int)
 | 0, _, _, _ => none
 | k + 1, x0, x1, x6 => if (wrap64 (x1 + x6)) < (x0.length : Int) then (if x6 < 10 then (if 0 ≤ (wrap64 (x1 + x6)) then (if (rd x0 (wrap64 (x1 + x6))) > 127 then (t_.l0 k x0 x1 (wrap64 (x6 + 1))) else (t_.j1 k x0 x1 x6)) else (none)) else (t_.j1 k x0 x1 x6)) else (t_.j1 k x0 x1 x6)
end
def t_.f (k : Nat) (l0 : List Int) (a1 : Int) : Option (Int × Int) := t_.l0 k l0 a1 0
def t_.T11 : Bool × List (List Nat × List Nat) := (true, [([], []), ([0], [0]), ([1], [1]), ([], []), ([], []), ([], []), ([], []), ([5, 6], [5, 6]), ([7], [7]), ([3, 4, 8], [3, 4, 8]), ([9], [9]), ([2, 10], [2, 10])])
def t_.B11 : List Nat := [0, 1, 3, 0, 0, 0, 0, 96, 224, 504, 1016, 2047]
theorem t_.tab11 : rtab .any (opsOf Tryz.f55 11) = t_.T11 := by kernel_rfl
theorem t_.bits11 : waitsOk t_.T11.2 t_.B11 = true := by kernel_rfl
theorem dt_ {P : Program} {w : World} {base E : Nat} {ok : Nat → Prop} {src dst e : TypeId} {v : Value} {xs : List Int} (hs : P.underlying src = some (.slice e)) (he : P.underlying e = some (.int .u8)) (hd : P.underlying dst = some .string) (h : (Kd.int .u8).V E w base ok v xs) : (convert src dst v).run P w = .ok (.string (strOfNums xs)) w := by
 obtain ⟨A, c, rfl, hc, hF⟩ := h
 exact Kd.C_string hs he hd (Kd.F_now hF)
set_option maxHeartbeats 8000000 in
set_option maxRecDepth 100000 in
theorem t_.calls (k : Nat) (A0 : Option Addr) (c0 : Nat) (l0 : List Int) (a1 : Int) (r1 : Int) (r2 : Int) (w : World) (hr0 : Kd.C (Kd.int .u8) w A0 l0.length l0) (hc0 : l0.length ≤ c0) (h : t_.f k l0 a1 = some (r1, r2)) :
  Calls Tryz.prog 55 #[.slice A0 l0.length c0, .int .i64 a1] w fun e w' => e = .returned (.tuple #[.int .u64 r1, .int .i64 r2]) ∧ Below w.heap.size w w' := by
 have HR0 := c_.mk hr0
 have HC0 := c_.mk hc0
 clear hr0 hc0
 have HB := c_.mk (Below.refl w.heap.size w)
 have H : (t_.l0 k l0 a1 0) = some (r1, r2) := h
 clear h
 have HC3 := c_.mk H
 clear H
 go_enter Tryz.func55, Tryz.ntmps55
 go_upto_block 0 with (fail)
 go_cut [6] (fun v6 wc => ∃ (kq : Nat) (x6_2 : Int), v6 = .int .i64 x6_2 ∧ c_ (t_.j1 kq l0 a1 x6_2 = some (r1, r2)) ∧ c_ (kq ≤ k) ∧ c_ (Below w.heap.size w wc))
 case first =>
  have H := HC3.out
  clear HC3
  have H' := c_.mk H
  clear H
  go_wp2
  go_loopg [6] k (fun kq v6 w' => ∃ (x6_1 : Int), v6 = .int .i64 x6_1 ∧ c_ (t_.l0 kq l0 a1 x6_1 = some (r1, r2)) ∧ c_ (kq ≤ k) ∧ c_ (Below w.heap.size w w'))
  case atStart => exact ⟨(0), (by first | rfl | (simp; done) | (simp [*]; done)), H', ⟨Nat.le_refl _⟩, ⟨HB.out⟩⟩
  case round =>
   clear H'
   try clear p2
   obtain ⟨x6_1, rfl, HA, HK1, HB⟩ := hrel
   cases gk with
   | zero => exact absurd HA.out (by simp [t_.l0])
   | succ k1 =>
    have H := HA.out
    clear HA
    simp only [t_.l0] at H
    by_cases c4 : (wrap64 (a1 + x6_1)) < (l0.length : Int)
    ·rw [if_pos c4] at H
     have c4b0 : decide ((wrap64 (a1 + x6_1)) < (l0.length : Int)) = true := decide_eq_true c4
     clear c4
     (first | rw [c4b0] | (simp only [af_, ag_]; rw [c4b0]) | skip)
     by_cases c5 : x6_1 < 10
     ·rw [if_pos c5] at H
      have c5b0 : decide (x6_1 < 10) = true := decide_eq_true c5
      clear c5
      obtain ⟨ji6, hji6⟩ : ∃ j_ : Int, (wrap64 (a1 + x6_1)) = j_ := ⟨_, rfl⟩
      replace H : (if 0 ≤ (ji6) then (if (rd l0 (ji6)) > 127 then (t_.l0 k1 l0 a1 (wrap64 (x6_1 + 1))) else (t_.j1 k1 l0 a1 x6_1)) else (none)) = some (r1, r2) := by first | (rw [hji6] at H; exact H) | (simp only [hji6] at H ⊢; exact H)
      (try rw [hji6] at c4b0)
      have hji6w : (IntKind.i64.wrap (a1 + x6_1)) = ji6 := (af_ _).trans hji6
      by_cases c7 : 0 ≤ (ji6)
      ·rw [if_pos c7] at H
       have c7b0 : decide (0 ≤ (ji6)) = true := decide_eq_true c7
       clear c7
       by_cases c8 : (rd l0 (ji6)) > 127
       ·rw [if_pos c8] at H
        have c8b0 : decide (127 < (rd l0 (ji6))) = true := decide_eq_true c8
        clear c8
        have H' := c_.mk H
        clear H
        have p114 : 0 ≤ ((ji6) : Int) := of_decide_eq_true (by first | (with_reducible assumption) | assumption)
        have q114 : (ji6) < (l0.length : Int) := of_decide_eq_true (by first | (with_reducible assumption) | assumption)
        obtain ⟨ad114, e114, hx114_0⟩ := Kd.at_int HR0.out (ji6) p114 q114
        cases e114
        replace hx114_0 := (HB.out.cell (World.block_lt_of_cell? w _ hx114_0)).trans hx114_0
        replace p114 := eq_true p114
        replace q114 := eq_true q114
        go_wp2
        go_roundg k1
        case measure => have := HK1.out; omega
        case rel => exact ⟨(wrap64 (x6_1 + 1)), (by first | rfl | (simp; done) | (simp [*]; done)), H', ⟨by have := HK1.out; omega⟩, ⟨HB.out⟩⟩
       ·rw [if_neg c8] at H
        have c8b0 : decide (127 < (rd l0 (ji6))) = false := decide_eq_false c8
        clear c8
        have H' := c_.mk H
        clear H
        have p114 : 0 ≤ ((ji6) : Int) := of_decide_eq_true (by first | (with_reducible assumption) | assumption)
        have q114 : (ji6) < (l0.length : Int) := of_decide_eq_true (by first | (with_reducible assumption) | assumption)
        obtain ⟨ad114, e114, hx114_0⟩ := Kd.at_int HR0.out (ji6) p114 q114
        cases e114
        replace hx114_0 := (HB.out.cell (World.block_lt_of_cell? w _ hx114_0)).trans hx114_0
        replace p114 := eq_true p114
        replace q114 := eq_true q114
        go_wp2
        go_meet
        case rel => exact ⟨_, (x6_1), (by first | rfl | (simp; done) | (simp [*]; done)), H', ⟨by have := HK1.out; first | omega | exact Nat.le_refl _⟩, ⟨HB.out⟩⟩
      ·rw [if_neg c7] at H
       exact absurd H (by simp)
     ·rw [if_neg c5] at H
      have c5b0 : decide (x6_1 < 10) = false := decide_eq_false c5
      clear c5
      have H' := c_.mk H
      clear H
      go_wp2
      go_meet
      case rel => exact ⟨_, (x6_1), (by first | rfl | (simp; done) | (simp [*]; done)), H', ⟨by have := HK1.out; first | omega | exact Nat.le_refl _⟩, ⟨HB.out⟩⟩
    ·rw [if_neg c4] at H
     have c4b0 : decide ((wrap64 (a1 + x6_1)) < (l0.length : Int)) = false := decide_eq_false c4
     clear c4
     (first | rw [c4b0] | (simp only [af_, ag_]; rw [c4b0]) | skip)
     have H' := c_.mk H
     clear H
     go_wp2
     go_meet
     case rel => exact ⟨_, (x6_1), (by first | rfl | (simp; done) | (simp [*]; done)), H', ⟨by have := HK1.out; first | omega | exact Nat.le_refl _⟩, ⟨HB.out⟩⟩
 case rest =>
  clear HC3
  try clear p1
  try clear q1
  try clear hx1
  try clear p2
  try clear c4
  try clear c4b0
  try clear c5
  try clear c5b0
  try clear p6
  try clear c7
  try clear c7b0
  try clear c8
  try clear c8b0
  try clear hx114_0
  try clear p114
  try clear p2
  try clear q114
  obtain ⟨kq, x6_2, rfl, HA, HJ2, HB⟩ := hcut
  cases kq with
  | zero => exact absurd HA.out (by simp [t_.j1])
  | succ kj2 =>
   have H := HA.out
   clear HA
   simp only [t_.j1] at H
   have HC9 := c_.mk H
   clear H
   go_upto_region 4 with (fail)
   go_cut [39] (fun v39 wc => ∃ (kq : Nat) (x39_8 : Bool), v39 = .bool x39_8 ∧ c_ (t_.j2 kq l0 a1 x6_2 x39_8 = some (r1, r2)) ∧ c_ (kq ≤ kj2) ∧ c_ (Below w.heap.size w wc))
   case first =>
    have H := HC9.out
    clear HC9
    by_cases c10 : (wrap64 (a1 + x6_2)) ≥ (l0.length : Int)
    ·rw [if_pos c10] at H
     have c10b0 : decide ((l0.length : Int) ≤ (wrap64 (a1 + x6_2))) = true := decide_eq_true c10
     clear c10
     (first | rw [c10b0] | (simp only [af_, ag_]; rw [c10b0]) | skip)
     have H' := c_.mk H
     clear H
     go_wp2
     go_meet
     case rel => exact ⟨_, (true), (by first | rfl | (simp; done) | (simp [*]; done)), H', ⟨by have := HJ2.out; first | omega | exact Nat.le_refl _⟩, ⟨HB.out⟩⟩
    ·rw [if_neg c10] at H
     have c10b0 : decide ((l0.length : Int) ≤ (wrap64 (a1 + x6_2))) = false := decide_eq_false c10
     clear c10
     (first | rw [c10b0] | (simp only [af_, ag_]; rw [c10b0]) | skip)
     have H' := c_.mk H
     clear H
     go_wp2
     go_meet
     case rel => exact ⟨_, (decide (x6_2 ≥ 10)), (by first | rfl | (simp; done) | (simp [*]; done)), H', ⟨by have := HJ2.out; first | omega | exact Nat.le_refl _⟩, ⟨HB.out⟩⟩
   case rest =>
    clear HC9
    try clear c1
    try clear p1
    try clear q1
    try clear hx1
    try clear p2
    try clear c4
    try clear c4b0
    try clear c5
    try clear c5b0
    try clear p6
    try clear c7
    try clear c7b0
    try clear c8
    try clear c8b0
    try clear c10
    try clear c10b0
    try clear hx114_0
    try clear p1
    try clear p114
    try clear p2
    try clear p6
    try clear q1
    try clear q114
    obtain ⟨kq, x39_8, rfl, HA, HJ8, HB⟩ := hcut
    cases kq with
    | zero => exact absurd HA.out (by simp [t_.j2])
    | succ kj8 =>
     have H := HA.out
     clear HA
     simp only [t_.j2] at H
     by_cases c11 : x39_8 = true
     ·subst c11
      have H1 : (some (0, 0)) = some (r1, r2) := by first | (rw [if_pos rfl] at H; with_reducible exact H) | exact (if_pos rfl).symm.trans H | (simp only [if_true, eq_self_iff_true] at H ⊢; exact H)
      clear H
      have H := H1
      clear H1
      simp only [Option.some.injEq, Prod.mk.injEq] at H
      obtain ⟨rfl, rfl⟩ := H
      go_wp2
      go_ret2
      exact ⟨by first | rfl | (simp [i_, g_] <;> rfl) | (simp [*, i_, g_] <;> rfl), HB.out⟩
     ·replace c11 := Bool.eq_false_iff.mpr c11
      subst c11
      have H1 : (t_.l1 kj8 l0 a1 x6_2 0 x6_2) = some (r1, r2) := by rw [if_neg (show ¬ (false = true) by decide)] at H; exact H
      clear H
      have H := H1
      clear H1
      have H' := c_.mk H
      clear H
      go_wp2
      go_loopg [7, 8] kj8 (fun kq v7 v8 w' => ∃ (x7_3 : Int) (x8_3 : Int), v7 = .int .u64 x7_3 ∧ v8 = .int .i64 x8_3 ∧ c_ (t_.l1 kq l0 a1 x6_2 x7_3 x8_3 = some (r1, r2)) ∧ c_ (kq ≤ kj8) ∧ c_ (Below w.heap.size w w'))
      case atStart => exact ⟨(0), (x6_2), (by first | rfl | (simp; done) | (simp [*]; done)), (by first | rfl | (simp; done) | (simp [*]; done)), H', ⟨Nat.le_refl _⟩, ⟨HB.out⟩⟩
      case round =>
       clear H'
       try clear c1
       try clear p1
       try clear q1
       try clear hx1
       try clear p2
       try clear c4
       try clear c4b0
       try clear c5
       try clear c5b0
       try clear p6
       try clear c7
       try clear c7b0
       try clear c8
       try clear c8b0
       try clear c10
       try clear c10b0
       try clear c11
       try clear p11
       try clear q11
       try clear hx11
       try clear hx114_0
       try clear p1
       try clear p114
       try clear p2
       try clear p6
       try clear q1
       try clear q114
       obtain ⟨x7_3, x8_3, rfl, rfl, HA, HK3, HB⟩ := hrel
       cases gk with
       | zero => exact absurd HA.out (by simp [t_.l1])
       | succ k3 =>
        have H := HA.out
        clear HA
        simp only [t_.l1] at H
        by_cases c12 : x8_3 ≥ 0
        ·rw [if_pos c12] at H
         have c12b0 : decide (0 ≤ x8_3) = true := decide_eq_true c12
         clear c12
         obtain ⟨ji13, hji13⟩ : ∃ j_ : Int, (wrap64 (a1 + x8_3)) = j_ := ⟨_, rfl⟩
         replace H : (if 0 ≤ (ji13) then (if (ji13) < (l0.length : Int) then (t_.l1 k3 l0 a1 x6_2 (IntKind.u64.wrap ((IntKind.u64.wrap (x7_3 * 128)) + (IntKind.u64.wrap (Int.tmod (rd l0 (ji13)) 128)))) (wrap64 (x8_3 - 1))) else (none)) else (none)) = some (r1, r2) := by first | (rw [hji13] at H; exact H) | (simp only [hji13] at H ⊢; exact H)
         have hji13w : (IntKind.i64.wrap (a1 + x8_3)) = ji13 := (af_ _).trans hji13
         by_cases c14 : 0 ≤ (ji13)
         ·rw [if_pos c14] at H
          have c14b0 : decide (0 ≤ (ji13)) = true := decide_eq_true c14
          clear c14
          by_cases c15 : (ji13) < (l0.length : Int)
          ·rw [if_pos c15] at H
           have c15b0 : decide ((ji13) < (l0.length : Int)) = true := decide_eq_true c15
           clear c15
           have H' := c_.mk H
           clear H
           have p115 : 0 ≤ ((ji13) : Int) := of_decide_eq_true (by first | (with_reducible assumption) | assumption)
           have q115 : (ji13) < (l0.length : Int) := of_decide_eq_true (by first | (with_reducible assumption) | assumption)
           obtain ⟨ad115, e115, hx115_0⟩ := Kd.at_int HR0.out (ji13) p115 q115
           cases e115
           replace hx115_0 := (HB.out.cell (World.block_lt_of_cell? w _ hx115_0)).trans hx115_0
           replace p115 := eq_true p115
           replace q115 := eq_true q115
           go_wp2
           go_roundg k3
           case measure => have := HJ2.out; have := HJ8.out; have := HK3.out; omega
           case rel => exact ⟨(IntKind.u64.wrap ((IntKind.u64.wrap (x7_3 * 128)) + (IntKind.u64.wrap (Int.tmod (rd l0 (ji13)) 128)))), (wrap64 (x8_3 - 1)), (by first | rfl | (simp; done) | (simp only [← hji13] <;> (first | rfl | simp)) | (simp [*]; done)), (by first | rfl | (simp; done) | (simp [*]; done)), H', ⟨by have := HJ2.out; have := HJ8.out; have := HK3.out; omega⟩, ⟨HB.out⟩⟩
          ·rw [if_neg c15] at H
           exact absurd H (by simp)
         ·rw [if_neg c14] at H
          exact absurd H (by simp)
        ·rw [if_neg c12] at H
         have c12b0 : decide (0 ≤ x8_3) = false := decide_eq_false c12
         clear c12
         replace H := Option.bind_eq_some_iff.mp H
         obtain ⟨t116, A160, H⟩ := H
         replace H : (if 0 ≤ a1 then (if a1 ≤ (wrap64 ((wrap64 (a1 + x6_2)) + 1)) then (if (wrap64 ((wrap64 (a1 + x6_2)) + 1)) ≤ (l0.length : Int) then (if (strOfNums t116).toList = (strOfNums ((l0.take ((wrap64 ((wrap64 (a1 + x6_2)) + 1)) : Int).toNat).drop (a1 : Int).toNat)).toList then (some (x7_3, wrap64 (x6_2 + 1))) else (some (0, 0))) else (none)) else (none)) else (none)) = some (r1, r2) := H
         have A16 := c_.mk A160
         clear A160
         by_cases c17 : 0 ≤ a1
         ·rw [if_pos c17] at H
          have c17b0 := eq_true c17
          have c17b1 : decide (0 ≤ a1) = true := decide_eq_true c17
          clear c17
          by_cases c18 : a1 ≤ (wrap64 ((wrap64 (a1 + x6_2)) + 1))
          ·rw [if_pos c18] at H
           have c18b0 := eq_true c18
           have c18b1 : decide (a1 ≤ (wrap64 ((wrap64 (a1 + x6_2)) + 1))) = true := decide_eq_true c18
           by_cases c19 : (wrap64 ((wrap64 (a1 + x6_2)) + 1)) ≤ (l0.length : Int)
           ·rw [if_pos c19] at H
            have c19b0 := eq_true c19
            have c19b1 : decide ((wrap64 ((wrap64 (a1 + x6_2)) + 1)) ≤ (l0.length : Int)) = true := decide_eq_true c19
            by_cases c20 : (strOfNums t116).toList = (strOfNums ((l0.take ((wrap64 ((wrap64 (a1 + x6_2)) + 1)) : Int).toNat).drop (a1 : Int).toNat)).toList
            ·rw [if_pos c20] at H
             have c20b0 : ((strOfNums t116).toList == (strOfNums ((l0.take ((wrap64 ((wrap64 (a1 + x6_2)) + 1)) : Int).toNat).drop (a1 : Int).toNat)).toList) = true := beq_iff_eq.mpr c20
             have c20b1 : ((strOfNums t116).toList != (strOfNums ((l0.take ((wrap64 ((wrap64 (a1 + x6_2)) + 1)) : Int).toNat).drop (a1 : Int).toNat)).toList) = false := bne_eq_false_iff_eq.mpr c20
             clear c20
             simp only [Option.some.injEq, Prod.mk.injEq] at H
             obtain ⟨rfl, rfl⟩ := H
             try go_wp2
             have n0_ := c_.mk (m_ HB.out)
             clear HB
             have HB := n0_
             clear n0_
             obtain ⟨i022, hi022, _, hsz22, _⟩ := info_parts info5
             obtain ⟨A22, hcut22, hA22, hC22⟩ := print_mid_of (P := Tryz.prog) (Value.int .u8) 0 70 5 .i64 .i64 Tryz.underlying70 hi022 hsz22 A0 c0 l0 a1 (wrap64 ((wrap64 (a1 + x6_2)) + 1)) (of_decide_eq_true (by first | (with_reducible assumption) | assumption)) (by first | omega | exact of_decide_eq_true (by first | (with_reducible assumption) | assumption)) (of_decide_eq_true (by first | (with_reducible assumption) | assumption)) HC0.out
             have HR119 := c_.mk (Kd.C_of_reads (h1 := fun _ => rfl) (hA22 _ (Kd.reads_of_C HR0.out)))
             have HC119 := c_.mk hC22
             clear hA22 hC22 hi022 hsz22
             refine start_ (n := 12) (S := fun w' => (convert 70 9 (.slice A22 (((wrap64 ((wrap64 (a1 + x6_2)) + 1)) : Int).toNat - (a1 : Int).toNat) (c0 - a1.toNat))).run Tryz.prog w' = .ok (.string (strOfNums ((l0.take ((wrap64 ((wrap64 (a1 + x6_2)) + 1)) : Int).toNat).drop (a1 : Int).toNat))) w') (ds := []) #[F_, F_, F_, F_, F_, F_, F_, F_, F_, F_, F_, F_] (by kernel_rfl) rfl rfl ((by have q_ := (Kd.C_string (P := Tryz.prog) (A := A22) (c := (c0 - a1.toNat)) Tryz.underlying70 Tryz.underlying5 Tryz.underlying9 (Kd.C_below HR119.out HB.out)); rw [List.length_drop, List.length_take, Nat.min_eq_left (by have z_ := of_decide_eq_true (by assumption : decide ((wrap64 ((wrap64 (a1 + x6_2)) + 1)) ≤ (l0.length : Int)) = true); omega)] at q_; exact q_)) (fun hHeld => ?_); refine with_tabW t_.tab11 t_.bits11 (fun HT_ HW_ => ?_)
             generalize wr.drew = w21 at HB HR119 hHeld ⊢
             refine ay_ (i := 0) (N := some 56) (v := ?_) (a' := ?_) #[T_, F_, F_, F_, F_, F_, F_, F_, F_, F_, F_, F_] rfl rfl (cb_ HT_.out (by kernel_rfl)) (fun _ _ _ h => h) (Or.inl ⟨by rfl, ?_⟩) ?_ ?_
             rotate_left
             ·intro w'
              go_simp
              with_reducible rfl
             rotate_left
             ·simp only [Act.put, sA_, sB_, sC_, af_, ag_]
              rfl
             refine ay_ (i := 3) (N := some 59) (v := ?_) (a' := ?_) #[T_, F_, F_, T_, F_, F_, F_, F_, F_, F_, F_, F_] rfl rfl (cb_ HT_.out (by kernel_rfl)) (fun _ _ _ h => h) (Or.inl ⟨by rfl, ?_⟩) ?_ ?_
             rotate_left
             ·intro w'
              go_simp
              with_reducible rfl
             rotate_left
             ·simp only [Act.put, sA_, sB_, sC_, af_, ag_]
              rfl
             refine ay_ (i := 4) (N := some 60) (v := ?_) (a' := ?_) #[T_, F_, F_, T_, T_, F_, F_, F_, F_, F_, F_, F_] rfl rfl (cb_ HT_.out (by kernel_rfl)) (fun _ _ _ h => h) (Or.inl ⟨by rfl, ?_⟩) ?_ ?_
             rotate_left
             ·intro w'
              go_simp
              with_reducible rfl
             rotate_left
             ·simp only [Act.put, sA_, sB_, sC_, af_, ag_]
              rfl
             refine ay_ (i := 5) (N := some 61) (v := ?_) (a' := ?_) #[T_, F_, F_, T_, T_, T_, F_, F_, F_, F_, F_, F_] rfl rfl (cb_ HT_.out (by kernel_rfl)) (fun _ _ _ h => h) (Or.inl ⟨by rfl, ?_⟩) ?_ ?_
             rotate_left
             ·intro w'
              go_simp
              with_reducible rfl
             rotate_left
             ·simp only [Act.put, sA_, sB_, sC_, af_, ag_]
              rfl
             refine ay_ (i := 6) (N := some 62) (v := ?_) (a' := ?_) #[T_, F_, F_, T_, T_, T_, T_, F_, F_, F_, F_, F_] rfl rfl (cb_ HT_.out (by kernel_rfl)) (fun _ _ _ h => h) (Or.inl ⟨by rfl, ?_⟩) ?_ ?_
             rotate_left
             ·intro w'
              go_simp
              with_reducible rfl
             rotate_left
             ·simp only [Act.put, sA_, sB_, sC_, af_, ag_]
              rfl
             refine ay_ (i := 7) (N := some 63) (v := ?_) (a' := ?_) #[T_, F_, F_, T_, T_, T_, T_, T_, F_, F_, F_, F_] rfl rfl (cb_ HT_.out (by kernel_rfl)) (fun _ _ _ h => h) (Or.inl ⟨by rfl, ?_⟩) ?_ ?_
             rotate_left
             ·intro w'
              go_simp
              with_reducible rfl
             rotate_left
             ·simp only [Act.put, sA_, sB_, sC_, af_, ag_]
              rfl
             refine ay_ (i := 8) (N := some 64) (v := ?_) (a' := ?_) #[T_, F_, F_, T_, T_, T_, T_, T_, T_, F_, F_, F_] rfl rfl (cb_ HT_.out (by kernel_rfl)) (fun _ _ _ h => h) (Or.inl ⟨by rfl, ?_⟩) ?_ ?_
             rotate_left
             ·intro w'
              go_simp
              with_reducible rfl
             rotate_left
             ·simp only [Act.put, sA_, sB_, sC_, af_, ag_]
              rfl
             refine ay_ (i := 9) (N := some 65) (v := ?_) (a' := ?_) #[T_, F_, F_, T_, T_, T_, T_, T_, T_, T_, F_, F_] rfl rfl (cb_ HT_.out (by kernel_rfl)) (fun _ _ _ h => h) (Or.inl ⟨by rfl, ?_⟩) ?_ ?_
             rotate_left
             ·intro w'
              go_simp
              with_reducible rfl
             rotate_left
             ·simp only [Act.put, sA_, sB_, sC_, af_, ag_]
              rfl
             refine take_ (i := 10) (N := some 66) (v := ?_) (a' := ?_) #[T_, F_, F_, T_, T_, T_, T_, T_, T_, T_, T_, F_] rfl rfl (take_ofW HT_.out HW_.out (by kernel_rfl)) (fun _ _ _ h => h) (Or.inl ⟨by rfl, ?_⟩) hHeld ?_ ?_
             rotate_left
             ·intro w' s0
              go_simp
              with_reducible rfl
             rotate_left
             ·simp only [Act.put, sA_, sB_, sC_, af_, ag_]
              rfl
             refine one_ (i := 1) (N := some 57) #[T_, T_, F_, T_, T_, T_, T_, T_, T_, T_, T_, F_] rfl rfl (one_of HT_.out (by kernel_rfl)) (by decide) (fun K hK => ?_)
             refine goes_ Tryz.func34 (by kernel_rfl) rfl #[.int .u64 x7_3] (by rfl) rfl rfl (by (try simp only [List.map_toArray, List.map_cons, List.map_nil]); first | done | rfl | (simp only [List.length_drop, List.length_take]; rfl)) ?_
             with_reducible refine (av_.calls k3 x7_3 t116 _ A16.out).mono ?_
             rintro e w23 ⟨v117, rfl, ho0, hb⟩
             refine ⟨_, rfl, ?_⟩
             have n0_ := c_.mk (Kd.R_lower ho0 (v_ (HB.out)))
             have n1_ := c_.mk (ac_ (HB.out) hb)
             clear HB
             have HO118 := n0_
             have HB := n1_
             clear n0_ n1_
             (try clear hb)
             (try clear hb2)
             (try clear hk)
             (try clear hi)
             (try clear ho0)
             refine hK.out _ _ ((by have q_ := (Kd.C_string (P := Tryz.prog) (A := A22) (c := (c0 - a1.toNat)) Tryz.underlying70 Tryz.underlying5 Tryz.underlying9 (Kd.C_below HR119.out HB.out)); rw [List.length_drop, List.length_take, Nat.min_eq_left (by have z_ := of_decide_eq_true (by assumption : decide ((wrap64 ((wrap64 (a1 + x6_2)) + 1)) ≤ (l0.length : Int)) = true); omega)] at q_; exact q_)) (fun hHeld => ?_)
             clear hK K
             refine norm_ (a' := ?_) ?_ ?_
             rotate_left
             ·show Act.put _ (some 57) _ = _
              simp only [Act.put, sA_, sB_, sC_, af_, ag_]
              rfl
             refine one_ (i := 2) (N := some 58) #[T_, T_, T_, T_, T_, T_, T_, T_, T_, T_, T_, F_] rfl rfl (one_of HT_.out (by kernel_rfl)) (by decide) (fun K hK => ?_)
             (first | have hcv24 := own_string (P := Tryz.prog) Tryz.underlying70 Tryz.underlying5 Tryz.underlying9 (Kd.own_of_R HO118.out) | have hcv24 := dt_ (P := Tryz.prog) Tryz.underlying70 Tryz.underlying5 Tryz.underlying9 HO118.out)
             refine value_ (w1 := ?_) (v := ?_) (by rfl) rfl ?_ ?_
             rotate_left 2
             ·go_simp
              constructor
              ·rfl
              ·rfl
             clear hcv24
             refine hK.out _ _ ((by have q_ := (Kd.C_string (P := Tryz.prog) (A := A22) (c := (c0 - a1.toNat)) Tryz.underlying70 Tryz.underlying5 Tryz.underlying9 (Kd.C_below HR119.out HB.out)); rw [List.length_drop, List.length_take, Nat.min_eq_left (by have z_ := of_decide_eq_true (by assumption : decide ((wrap64 ((wrap64 (a1 + x6_2)) + 1)) ≤ (l0.length : Int)) = true); omega)] at q_; exact q_)) (fun hHeld => ?_)
             clear hK K
             refine norm_ (a' := ?_) ?_ ?_
             rotate_left
             ·show Act.put _ (some 58) _ = _
              simp only [Act.put, sA_, sB_, sC_, af_, ag_]
              rfl
             refine ay_ (i := 11) (N := some 67) (v := ?_) (a' := ?_) #[T_, T_, T_, T_, T_, T_, T_, T_, T_, T_, T_, T_] rfl rfl (cb_ HT_.out (by kernel_rfl)) (fun _ _ _ h => h) (Or.inl ⟨by rfl, ?_⟩) ?_ ?_
             rotate_left
             ·intro w'
              go_simp
              with_reducible rfl
             rotate_left
             ·simp only [Act.put, sA_, sB_, sC_, af_, ag_]
              rfl
             refine done_ (done_of HT_.out (by kernel_rfl)) ?_
             try go_wp2
             go_ret2
             exact ⟨by first | rfl | (simp [i_, g_] <;> rfl) | (simp [*, i_, g_] <;> rfl), HB.out⟩
            ·rw [if_neg c20] at H
             have c20b0 : ((strOfNums t116).toList == (strOfNums ((l0.take ((wrap64 ((wrap64 (a1 + x6_2)) + 1)) : Int).toNat).drop (a1 : Int).toNat)).toList) = false := beq_eq_false_iff_ne.mpr c20
             have c20b1 : ((strOfNums t116).toList != (strOfNums ((l0.take ((wrap64 ((wrap64 (a1 + x6_2)) + 1)) : Int).toNat).drop (a1 : Int).toNat)).toList) = true := bne_iff_ne.mpr c20
             simp only [Option.some.injEq, Prod.mk.injEq] at H
             obtain ⟨rfl, rfl⟩ := H
             try go_wp2
             have n0_ := c_.mk (m_ HB.out)
             clear HB
             have HB := n0_
             clear n0_
             obtain ⟨i027, hi027, _, hsz27, _⟩ := info_parts info5
             obtain ⟨A27, hcut27, hA27, hC27⟩ := print_mid_of (P := Tryz.prog) (Value.int .u8) 0 70 5 .i64 .i64 Tryz.underlying70 hi027 hsz27 A0 c0 l0 a1 (wrap64 ((wrap64 (a1 + x6_2)) + 1)) (of_decide_eq_true (by first | (with_reducible assumption) | assumption)) (by first | omega | exact of_decide_eq_true (by first | (with_reducible assumption) | assumption)) (of_decide_eq_true (by first | (with_reducible assumption) | assumption)) HC0.out
             have HR119 := c_.mk (Kd.C_of_reads (h1 := fun _ => rfl) (hA27 _ (Kd.reads_of_C HR0.out)))
             have HC119 := c_.mk hC27
             clear hA27 hC27 hi027 hsz27
             refine start_ (n := 12) (S := fun w' => (convert 70 9 (.slice A27 (((wrap64 ((wrap64 (a1 + x6_2)) + 1)) : Int).toNat - (a1 : Int).toNat) (c0 - a1.toNat))).run Tryz.prog w' = .ok (.string (strOfNums ((l0.take ((wrap64 ((wrap64 (a1 + x6_2)) + 1)) : Int).toNat).drop (a1 : Int).toNat))) w') (ds := []) #[F_, F_, F_, F_, F_, F_, F_, F_, F_, F_, F_, F_] (by kernel_rfl) rfl rfl ((by have q_ := (Kd.C_string (P := Tryz.prog) (A := A27) (c := (c0 - a1.toNat)) Tryz.underlying70 Tryz.underlying5 Tryz.underlying9 (Kd.C_below HR119.out HB.out)); rw [List.length_drop, List.length_take, Nat.min_eq_left (by have z_ := of_decide_eq_true (by assumption : decide ((wrap64 ((wrap64 (a1 + x6_2)) + 1)) ≤ (l0.length : Int)) = true); omega)] at q_; exact q_)) (fun hHeld => ?_); refine with_tabW t_.tab11 t_.bits11 (fun HT_ HW_ => ?_)
             generalize wr.drew = w26 at HB HR119 hHeld ⊢
             refine ay_ (i := 0) (N := some 56) (v := ?_) (a' := ?_) #[T_, F_, F_, F_, F_, F_, F_, F_, F_, F_, F_, F_] rfl rfl (cb_ HT_.out (by kernel_rfl)) (fun _ _ _ h => h) (Or.inl ⟨by rfl, ?_⟩) ?_ ?_
             rotate_left
             ·intro w'
              go_simp
              with_reducible rfl
             rotate_left
             ·simp only [Act.put, sA_, sB_, sC_, af_, ag_]
              rfl
             refine ay_ (i := 3) (N := some 59) (v := ?_) (a' := ?_) #[T_, F_, F_, T_, F_, F_, F_, F_, F_, F_, F_, F_] rfl rfl (cb_ HT_.out (by kernel_rfl)) (fun _ _ _ h => h) (Or.inl ⟨by rfl, ?_⟩) ?_ ?_
             rotate_left
             ·intro w'
              go_simp
              with_reducible rfl
             rotate_left
             ·simp only [Act.put, sA_, sB_, sC_, af_, ag_]
              rfl
             refine ay_ (i := 4) (N := some 60) (v := ?_) (a' := ?_) #[T_, F_, F_, T_, T_, F_, F_, F_, F_, F_, F_, F_] rfl rfl (cb_ HT_.out (by kernel_rfl)) (fun _ _ _ h => h) (Or.inl ⟨by rfl, ?_⟩) ?_ ?_
             rotate_left
             ·intro w'
              go_simp
              with_reducible rfl
             rotate_left
             ·simp only [Act.put, sA_, sB_, sC_, af_, ag_]
              rfl
             refine ay_ (i := 5) (N := some 61) (v := ?_) (a' := ?_) #[T_, F_, F_, T_, T_, T_, F_, F_, F_, F_, F_, F_] rfl rfl (cb_ HT_.out (by kernel_rfl)) (fun _ _ _ h => h) (Or.inl ⟨by rfl, ?_⟩) ?_ ?_
             rotate_left
             ·intro w'
              go_simp
              with_reducible rfl
             rotate_left
             ·simp only [Act.put, sA_, sB_, sC_, af_, ag_]
              rfl
             refine ay_ (i := 6) (N := some 62) (v := ?_) (a' := ?_) #[T_, F_, F_, T_, T_, T_, T_, F_, F_, F_, F_, F_] rfl rfl (cb_ HT_.out (by kernel_rfl)) (fun _ _ _ h => h) (Or.inl ⟨by rfl, ?_⟩) ?_ ?_
             rotate_left
             ·intro w'
              go_simp
              with_reducible rfl
             rotate_left
             ·simp only [Act.put, sA_, sB_, sC_, af_, ag_]
              rfl
             refine ay_ (i := 7) (N := some 63) (v := ?_) (a' := ?_) #[T_, F_, F_, T_, T_, T_, T_, T_, F_, F_, F_, F_] rfl rfl (cb_ HT_.out (by kernel_rfl)) (fun _ _ _ h => h) (Or.inl ⟨by rfl, ?_⟩) ?_ ?_
             rotate_left
             ·intro w'
              go_simp
              with_reducible rfl
             rotate_left
             ·simp only [Act.put, sA_, sB_, sC_, af_, ag_]
              rfl
             refine ay_ (i := 8) (N := some 64) (v := ?_) (a' := ?_) #[T_, F_, F_, T_, T_, T_, T_, T_, T_, F_, F_, F_] rfl rfl (cb_ HT_.out (by kernel_rfl)) (fun _ _ _ h => h) (Or.inl ⟨by rfl, ?_⟩) ?_ ?_
             rotate_left
             ·intro w'
              go_simp
              with_reducible rfl
             rotate_left
             ·simp only [Act.put, sA_, sB_, sC_, af_, ag_]
              rfl
             refine ay_ (i := 9) (N := some 65) (v := ?_) (a' := ?_) #[T_, F_, F_, T_, T_, T_, T_, T_, T_, T_, F_, F_] rfl rfl (cb_ HT_.out (by kernel_rfl)) (fun _ _ _ h => h) (Or.inl ⟨by rfl, ?_⟩) ?_ ?_
             rotate_left
             ·intro w'
              go_simp
              with_reducible rfl
             rotate_left
             ·simp only [Act.put, sA_, sB_, sC_, af_, ag_]
              rfl
             refine take_ (i := 10) (N := some 66) (v := ?_) (a' := ?_) #[T_, F_, F_, T_, T_, T_, T_, T_, T_, T_, T_, F_] rfl rfl (take_ofW HT_.out HW_.out (by kernel_rfl)) (fun _ _ _ h => h) (Or.inl ⟨by rfl, ?_⟩) hHeld ?_ ?_
             rotate_left
             ·intro w' s0
              go_simp
              with_reducible rfl
             rotate_left
             ·simp only [Act.put, sA_, sB_, sC_, af_, ag_]
              rfl
             refine one_ (i := 1) (N := some 57) #[T_, T_, F_, T_, T_, T_, T_, T_, T_, T_, T_, F_] rfl rfl (one_of HT_.out (by kernel_rfl)) (by decide) (fun K hK => ?_)
             refine goes_ Tryz.func34 (by kernel_rfl) rfl #[.int .u64 x7_3] (by rfl) rfl rfl (by (try simp only [List.map_toArray, List.map_cons, List.map_nil]); first | done | rfl | (simp only [List.length_drop, List.length_take]; rfl)) ?_
             with_reducible refine (av_.calls k3 x7_3 t116 _ A16.out).mono ?_
             rintro e w28 ⟨v117, rfl, ho0, hb⟩
             refine ⟨_, rfl, ?_⟩
             have n0_ := c_.mk (Kd.R_lower ho0 (v_ (HB.out)))
             have n1_ := c_.mk (ac_ (HB.out) hb)
             clear HB
             have HO118 := n0_
             have HB := n1_
             clear n0_ n1_
             (try clear hb)
             (try clear hb2)
             (try clear hk)
             (try clear hi)
             (try clear ho0)
             refine hK.out _ _ ((by have q_ := (Kd.C_string (P := Tryz.prog) (A := A27) (c := (c0 - a1.toNat)) Tryz.underlying70 Tryz.underlying5 Tryz.underlying9 (Kd.C_below HR119.out HB.out)); rw [List.length_drop, List.length_take, Nat.min_eq_left (by have z_ := of_decide_eq_true (by assumption : decide ((wrap64 ((wrap64 (a1 + x6_2)) + 1)) ≤ (l0.length : Int)) = true); omega)] at q_; exact q_)) (fun hHeld => ?_)
             clear hK K
             refine norm_ (a' := ?_) ?_ ?_
             rotate_left
             ·show Act.put _ (some 57) _ = _
              simp only [Act.put, sA_, sB_, sC_, af_, ag_]
              rfl
             refine one_ (i := 2) (N := some 58) #[T_, T_, T_, T_, T_, T_, T_, T_, T_, T_, T_, F_] rfl rfl (one_of HT_.out (by kernel_rfl)) (by decide) (fun K hK => ?_)
             (first | have hcv29 := own_string (P := Tryz.prog) Tryz.underlying70 Tryz.underlying5 Tryz.underlying9 (Kd.own_of_R HO118.out) | have hcv29 := dt_ (P := Tryz.prog) Tryz.underlying70 Tryz.underlying5 Tryz.underlying9 HO118.out)
             refine value_ (w1 := ?_) (v := ?_) (by rfl) rfl ?_ ?_
             rotate_left 2
             ·go_simp
              constructor
              ·rfl
              ·rfl
             clear hcv29
             refine hK.out _ _ ((by have q_ := (Kd.C_string (P := Tryz.prog) (A := A27) (c := (c0 - a1.toNat)) Tryz.underlying70 Tryz.underlying5 Tryz.underlying9 (Kd.C_below HR119.out HB.out)); rw [List.length_drop, List.length_take, Nat.min_eq_left (by have z_ := of_decide_eq_true (by assumption : decide ((wrap64 ((wrap64 (a1 + x6_2)) + 1)) ≤ (l0.length : Int)) = true); omega)] at q_; exact q_)) (fun hHeld => ?_)
             clear hK K
             refine norm_ (a' := ?_) ?_ ?_
             rotate_left
             ·show Act.put _ (some 58) _ = _
              simp only [Act.put, sA_, sB_, sC_, af_, ag_]
              rfl
             refine ay_ (i := 11) (N := some 67) (v := ?_) (a' := ?_) #[T_, T_, T_, T_, T_, T_, T_, T_, T_, T_, T_, T_] rfl rfl (cb_ HT_.out (by kernel_rfl)) (fun _ _ _ h => h) (Or.inl ⟨by rfl, ?_⟩) ?_ ?_
             rotate_left
             ·intro w'
              go_simp
              with_reducible rfl
             rotate_left
             ·simp only [Act.put, sA_, sB_, sC_, af_, ag_]
              rfl
             refine done_ (done_of HT_.out (by kernel_rfl)) ?_
             try go_wp2
             go_ret2
             exact ⟨by first | rfl | (simp [i_, g_] <;> rfl) | (simp [*, i_, g_] <;> rfl), HB.out⟩
           ·rw [if_neg c19] at H
            exact absurd H (by simp)
          ·rw [if_neg c18] at H
           exact absurd H (by simp)
         ·rw [if_neg c17] at H
          exact absurd H (by simp)
end Go.Proofs.YtlcfcaokihoplaaGreatDoor.Mw
