-- Cut.
import Derived.Test.YtlcfcaokihoplaaGreatDoorMsx1Cp
namespace Go.Proofs.YtlcfcaokihoplaaGreatDoor.Ms
open Go.RowKit Go.Proofs.YzW.PrintWords Go.Proofs.YzW.PrintLast Go.Proofs.YzW.PrintMore
attribute [local go_sem] cg_ ce_ cw_ cv_ by_ bx_ cf_ cd_
set_option linter.unusedVariables false
set_option linter.unusedSimpArgs false
attribute [local go_sem] eqlErr neqErr eqlErrNil neqErrNil
open Go.Proofs.YtlcfcaokihoplaaGreatDoor.Mw
mutual
def ao_.j0 : Nat → Bool → Int → ByteArray → ByteArray → List ByteArray → Int → Option (Bool)
 | 0, _, _, _, _, _, _ => none
 | k + 1, x19, x146000, x146001, x146002, x146003, x146004 => if x19 = true then (some false) else (ao_.l0 k 0 x146000 x146001 x146002 x146003 x146004)
def ao_.l0 : Nat → Int → Int → ByteArray → ByteArray → List ByteArray → Int → Option (Bool)
 | 0, _, _, _, _, _, _ => none
 | k + 1, x3, x146000, x146001, x146002, x146003, x146004 => if x3 < (x146003.length : Int) then (if 0 ≤ x3 then (if ((rdOf ByteArray.empty x146003 x3).size : Int) > 2000 then (some false) else (ao_.l0 k (wrap64 (x3 + 1)) x146000 x146001 x146002 x146003 x146004)) else (none)) else (some true)
end
def ao_.f (k : Nat) (a0_0 : Int) (a0_1 : ByteArray) (a0_2 : ByteArray) (l0_3 : List ByteArray) (a0_4 : Int) : Option (Bool) := if (a0_1.size : Int) > 2000 then (ao_.j0 k true a0_0 a0_1 a0_2 l0_3 a0_4) else (if (a0_2.size : Int) > 2000 then (ao_.j0 k true a0_0 a0_1 a0_2 l0_3 a0_4) else (ao_.j0 k (decide ((l0_3.length : Int) > 100)) a0_0 a0_1 a0_2 l0_3 a0_4))
set_option maxHeartbeats 8000000 in
set_option maxRecDepth 100000 in
theorem ao_.calls (k : Nat) (a0_0 : Int) (a0_1 : ByteArray) (a0_2 : ByteArray) (A0_3 : Option Addr) (c0_3 : Nat) (l0_3 : List ByteArray) (a0_4 : Int) (r : Bool) (w : World) (hr0_3 : Kd.C Kd.string w A0_3 l0_3.length l0_3) (hc0_3 : l0_3.length ≤ c0_3) (h : ao_.f k a0_0 a0_1 a0_2 l0_3 a0_4 = some r) :
  Calls Tryz.prog 6 #[.agg #[.int .i64 a0_0, .string a0_1, .string a0_2, .slice A0_3 l0_3.length c0_3, .int .i64 a0_4]] w fun e w' => e = .returned (.bool r) ∧ Below w.heap.size w w' := by
 have hu36 := Tryz.underlying36
 have HR0_3 := c_.mk hr0_3
 have HC0_3 := c_.mk hc0_3
 clear hr0_3 hc0_3
 have HB := c_.mk (Below.refl w.heap.size w)
 have H : (if (a0_1.size : Int) > 2000 then (ao_.j0 k true a0_0 a0_1 a0_2 l0_3 a0_4) else (if (a0_2.size : Int) > 2000 then (ao_.j0 k true a0_0 a0_1 a0_2 l0_3 a0_4) else (ao_.j0 k (decide ((l0_3.length : Int) > 100)) a0_0 a0_1 a0_2 l0_3 a0_4))) = some r := h
 clear h
 have HC2 := c_.mk H
 clear H
 go_enter Tryz.func6, Tryz.ntmps6
 go_upto_region 1 with (first | ((with_reducible refine be_ (N := 1) rfl ?_); (try (refine cm_ (by rfl) ?_; dsimp only)); refine bd_ ?hg (N := 1) ?hd (cs := #[.int .i64 a0_0, .string a0_1, .string a0_2, .slice A0_3 l0_3.length c0_3, .int .i64 a0_4]) (t := 36) ?hr ?_; (case hd => rfl); (case hg => rfl); (case hr => first | (go_simp; done) | (go_simp; rfl)); intro gb145 hg w3 hbox hb; have n0_ := c_.mk (ac_ (HB.out) hb); have n1_ := c_.mk (hbox); have n2_ := c_.mk ((by rw [hg]; exact (v_ (HB.out)) : w.heap.size ≤ gb145)); have n3_ := c_.mk ((by rw [hg]; exact (v_ (HB.out)) : w.heap.size ≤ gb145)); clear HB; have HB := n0_; have BK145 := n1_; have GW145 := n2_; have GE145 := n3_; clear n0_ n1_ n2_ n3_; clear hb hbox hg))
 (try simp only [Act.put, sA_, sB_, sC_])
 go_cut [19] (fun v19 wc => ∃ (kq : Nat) (x19_1 : Bool), v19 = .bool x19_1 ∧ c_ (ao_.j0 kq x19_1 a0_0 a0_1 a0_2 l0_3 a0_4 = some r) ∧ c_ (kq ≤ k) ∧ c_ (wc.heap[gb145]? = some (.cells #[.int .i64 a0_0, .string a0_1, .string a0_2, (.slice A0_3 l0_3.length c0_3), .int .i64 a0_4] 36 (0, 0))) ∧ c_ (Below w.heap.size w wc))
 case first =>
  have H := HC2.out
  clear HC2
  by_cases c4 : (a0_1.size : Int) > 2000
  ·rw [if_pos c4] at H
   have c4b0 : decide (2000 < (a0_1.size : Int)) = true := decide_eq_true c4
   have c4b1 : decide (2000 < a0_1.size) = true := decide_eq_true (by omega)
   clear c4
   (first | rw [c4b0] | (simp only [af_, ag_]; rw [c4b0]) | skip)
   have H' := c_.mk H
   clear H
   have hcz5_0 : w3.cell? ⟨gb145, 0, none⟩ = some (.int .i64 a0_0) := (b_ BK145.out 0).trans rfl
   have hcz5_1 : w3.cell? ⟨gb145, 1, none⟩ = some (.string a0_1) := (b_ BK145.out 1).trans rfl
   have hcz5_2 : w3.cell? ⟨gb145, 2, none⟩ = some (.string a0_2) := (b_ BK145.out 2).trans rfl
   have hcz5_3 : w3.cell? ⟨gb145, 3, none⟩ = some (.slice A0_3 l0_3.length c0_3) := (b_ BK145.out 3).trans rfl
   have hcz5_4 : w3.cell? ⟨gb145, 4, none⟩ = some (.int .i64 a0_4) := (b_ BK145.out 4).trans rfl
   have hfz5_0 := a_ BK145.out 0
   have hfz5_1 := a_ BK145.out 1
   have hfz5_2 := a_ BK145.out 2
   have hfz5_3 := a_ BK145.out 3
   have hfz5_4 := a_ BK145.out 4
   go_wp2
   go_meet
   case rel => exact ⟨_, (true), (by first | rfl | (simp; done) | (simp [*]; done)), H', ⟨by first | omega | exact Nat.le_refl _⟩, ⟨BK145.out⟩, ⟨HB.out⟩⟩
  ·rw [if_neg c4] at H
   have c4b0 : decide (2000 < (a0_1.size : Int)) = false := decide_eq_false c4
   have c4b1 : decide (2000 < a0_1.size) = false := decide_eq_false (by omega)
   clear c4
   (first | rw [c4b0] | (simp only [af_, ag_]; rw [c4b0]) | skip)
   by_cases c6 : (a0_2.size : Int) > 2000
   ·rw [if_pos c6] at H
    have c6b0 : decide (2000 < (a0_2.size : Int)) = true := decide_eq_true c6
    have c6b1 : decide (2000 < a0_2.size) = true := decide_eq_true (by omega)
    clear c6
    have H' := c_.mk H
    clear H
    have hcz7_0 : w3.cell? ⟨gb145, 0, none⟩ = some (.int .i64 a0_0) := (b_ BK145.out 0).trans rfl
    have hcz7_1 : w3.cell? ⟨gb145, 1, none⟩ = some (.string a0_1) := (b_ BK145.out 1).trans rfl
    have hcz7_2 : w3.cell? ⟨gb145, 2, none⟩ = some (.string a0_2) := (b_ BK145.out 2).trans rfl
    have hcz7_3 : w3.cell? ⟨gb145, 3, none⟩ = some (.slice A0_3 l0_3.length c0_3) := (b_ BK145.out 3).trans rfl
    have hcz7_4 : w3.cell? ⟨gb145, 4, none⟩ = some (.int .i64 a0_4) := (b_ BK145.out 4).trans rfl
    have hfz7_0 := a_ BK145.out 0
    have hfz7_1 := a_ BK145.out 1
    have hfz7_2 := a_ BK145.out 2
    have hfz7_3 := a_ BK145.out 3
    have hfz7_4 := a_ BK145.out 4
    go_wp2
    go_meet
    case rel => exact ⟨_, (true), (by first | rfl | (simp; done) | (simp [*]; done)), H', ⟨by first | omega | exact Nat.le_refl _⟩, ⟨BK145.out⟩, ⟨HB.out⟩⟩
   ·rw [if_neg c6] at H
    have c6b0 : decide (2000 < (a0_2.size : Int)) = false := decide_eq_false c6
    have c6b1 : decide (2000 < a0_2.size) = false := decide_eq_false (by omega)
    clear c6
    have H' := c_.mk H
    clear H
    have hcz8_0 : w3.cell? ⟨gb145, 0, none⟩ = some (.int .i64 a0_0) := (b_ BK145.out 0).trans rfl
    have hcz8_1 : w3.cell? ⟨gb145, 1, none⟩ = some (.string a0_1) := (b_ BK145.out 1).trans rfl
    have hcz8_2 : w3.cell? ⟨gb145, 2, none⟩ = some (.string a0_2) := (b_ BK145.out 2).trans rfl
    have hcz8_3 : w3.cell? ⟨gb145, 3, none⟩ = some (.slice A0_3 l0_3.length c0_3) := (b_ BK145.out 3).trans rfl
    have hcz8_4 : w3.cell? ⟨gb145, 4, none⟩ = some (.int .i64 a0_4) := (b_ BK145.out 4).trans rfl
    have hfz8_0 := a_ BK145.out 0
    have hfz8_1 := a_ BK145.out 1
    have hfz8_2 := a_ BK145.out 2
    have hfz8_3 := a_ BK145.out 3
    have hfz8_4 := a_ BK145.out 4
    go_wp2
    go_meet
    case rel => exact ⟨_, (decide ((l0_3.length : Int) > 100)), (by first | rfl | (simp; done) | (simp [*]; done)), H', ⟨by first | omega | exact Nat.le_refl _⟩, ⟨BK145.out⟩, ⟨HB.out⟩⟩
 case rest =>
  clear HC2
  try clear p2
  try clear c4
  try clear c4b0
  try clear c4b1
  try clear c6
  try clear c6b0
  try clear c6b1
  try clear hcz5_0
  try clear hcz5_1
  try clear hcz5_2
  try clear hcz5_3
  try clear hcz5_4
  try clear hcz7_0
  try clear hcz7_1
  try clear hcz7_2
  try clear hcz7_3
  try clear hcz7_4
  try clear hcz8_0
  try clear hcz8_1
  try clear hcz8_2
  try clear hcz8_3
  try clear hcz8_4
  try clear hfz5_0
  try clear hfz5_1
  try clear hfz5_2
  try clear hfz5_3
  try clear hfz5_4
  try clear hfz7_0
  try clear hfz7_1
  try clear hfz7_2
  try clear hfz7_3
  try clear hfz7_4
  try clear hfz8_0
  try clear hfz8_1
  try clear hfz8_2
  try clear hfz8_3
  try clear hfz8_4
  obtain ⟨kq, x19_1, rfl, HA, HJ1, BK145, HB⟩ := hcut
  cases kq with
  | zero => exact absurd HA.out (by simp [ao_.j0])
  | succ kj1 =>
   have H := HA.out
   clear HA
   simp only [ao_.j0] at H
   by_cases c9 : x19_1 = true
   ·subst c9
    have H1 : (some false) = some r := by first | (rw [if_pos rfl] at H; with_reducible exact H) | exact (if_pos rfl).symm.trans H | (simp only [if_true, eq_self_iff_true] at H ⊢; exact H)
    clear H
    have H := H1
    clear H1
    obtain rfl := Option.some.inj H
    go_wp2
    go_ret
    exact ⟨by first | rfl | (simp [i_, g_] <;> rfl) | (simp [*, i_, g_] <;> rfl), HB.out⟩
   ·replace c9 := Bool.eq_false_iff.mpr c9
    subst c9
    have H1 : (ao_.l0 kj1 0 a0_0 a0_1 a0_2 l0_3 a0_4) = some r := by rw [if_neg (show ¬ (false = true) by decide)] at H; exact H
    clear H
    have H := H1
    clear H1
    have H' := c_.mk H
    clear H
    go_wp2
    go_loopg [3] kj1 (fun kq v3 w' => ∃ (x3_2 : Int), v3 = .int .i64 x3_2 ∧ c_ (ao_.l0 kq x3_2 a0_0 a0_1 a0_2 l0_3 a0_4 = some r) ∧ c_ (kq ≤ kj1) ∧ c_ (w'.heap[gb145]? = some (.cells #[.int .i64 a0_0, .string a0_1, .string a0_2, (.slice A0_3 l0_3.length c0_3), .int .i64 a0_4] 36 (0, 0))) ∧ c_ (Below w.heap.size w w'))
    case atStart => exact ⟨(0), (by first | rfl | (simp; done) | (simp [*]; done)), H', ⟨Nat.le_refl _⟩, ⟨BK145.out⟩, ⟨HB.out⟩⟩
    case round =>
     clear H'
     try clear p2
     try clear c4
     try clear c4b0
     try clear c4b1
     try clear c6
     try clear c6b0
     try clear c6b1
     try clear c9
     try clear hcz5_0
     try clear hcz5_1
     try clear hcz5_2
     try clear hcz5_3
     try clear hcz5_4
     try clear hcz7_0
     try clear hcz7_1
     try clear hcz7_2
     try clear hcz7_3
     try clear hcz7_4
     try clear hcz8_0
     try clear hcz8_1
     try clear hcz8_2
     try clear hcz8_3
     try clear hcz8_4
     try clear hfz5_0
     try clear hfz5_1
     try clear hfz5_2
     try clear hfz5_3
     try clear hfz5_4
     try clear hfz7_0
     try clear hfz7_1
     try clear hfz7_2
     try clear hfz7_3
     try clear hfz7_4
     try clear hfz8_0
     try clear hfz8_1
     try clear hfz8_2
     try clear hfz8_3
     try clear hfz8_4
     try clear p2
     obtain ⟨x3_2, rfl, HA, HK2, BK145, HB⟩ := hrel
     cases gk with
     | zero => exact absurd HA.out (by simp [ao_.l0])
     | succ k2 =>
      have H := HA.out
      clear HA
      simp only [ao_.l0] at H
      by_cases c10 : x3_2 < (l0_3.length : Int)
      ·rw [if_pos c10] at H
       have c10b0 : decide (x3_2 < (l0_3.length : Int)) = true := decide_eq_true c10
       clear c10
       by_cases c11 : 0 ≤ x3_2
       ·rw [if_pos c11] at H
        have c11b0 : decide (0 ≤ x3_2) = true := decide_eq_true c11
        clear c11
        by_cases c12 : ((rdOf ByteArray.empty l0_3 x3_2).size : Int) > 2000
        ·rw [if_pos c12] at H
         have c12b0 : decide (2000 < ((rdOf ByteArray.empty l0_3 x3_2).size : Int)) = true := decide_eq_true c12
         have c12b1 : decide (2000 < (rdOf ByteArray.empty l0_3 x3_2).size) = true := decide_eq_true (by omega)
         clear c12
         obtain rfl := Option.some.inj H
         have hcz13_0 : wr.cell? ⟨gb145, 0, none⟩ = some (.int .i64 a0_0) := (b_ BK145.out 0).trans rfl
         have hcz13_1 : wr.cell? ⟨gb145, 1, none⟩ = some (.string a0_1) := (b_ BK145.out 1).trans rfl
         have hcz13_2 : wr.cell? ⟨gb145, 2, none⟩ = some (.string a0_2) := (b_ BK145.out 2).trans rfl
         have hcz13_3 : wr.cell? ⟨gb145, 3, none⟩ = some (.slice A0_3 l0_3.length c0_3) := (b_ BK145.out 3).trans rfl
         have hcz13_4 : wr.cell? ⟨gb145, 4, none⟩ = some (.int .i64 a0_4) := (b_ BK145.out 4).trans rfl
         have hfz13_0 := a_ BK145.out 0
         have hfz13_1 := a_ BK145.out 1
         have hfz13_2 := a_ BK145.out 2
         have hfz13_3 := a_ BK145.out 3
         have hfz13_4 := a_ BK145.out 4
         have p146 : 0 ≤ (x3_2 : Int) := of_decide_eq_true (by first | (with_reducible assumption) | assumption)
         have q146 : x3_2 < (l0_3.length : Int) := of_decide_eq_true (by first | (with_reducible assumption) | assumption)
         obtain ⟨ad146, e146, hx146_0⟩ := Kd.at_string HR0_3.out x3_2 p146 q146
         cases e146
         replace hx146_0 := (HB.out.cell (World.block_lt_of_cell? w _ hx146_0)).trans hx146_0
         replace p146 := eq_true p146
         replace q146 := eq_true q146
         go_wp2
         go_ret
         exact ⟨by first | rfl | (simp [i_, g_] <;> rfl) | (simp [*, i_, g_] <;> rfl), HB.out⟩
        ·rw [if_neg c12] at H
         have c12b0 : decide (2000 < ((rdOf ByteArray.empty l0_3 x3_2).size : Int)) = false := decide_eq_false c12
         have c12b1 : decide (2000 < (rdOf ByteArray.empty l0_3 x3_2).size) = false := decide_eq_false (by omega)
         clear c12
         have H' := c_.mk H
         clear H
         have hcz14_0 : wr.cell? ⟨gb145, 0, none⟩ = some (.int .i64 a0_0) := (b_ BK145.out 0).trans rfl
         have hcz14_1 : wr.cell? ⟨gb145, 1, none⟩ = some (.string a0_1) := (b_ BK145.out 1).trans rfl
         have hcz14_2 : wr.cell? ⟨gb145, 2, none⟩ = some (.string a0_2) := (b_ BK145.out 2).trans rfl
         have hcz14_3 : wr.cell? ⟨gb145, 3, none⟩ = some (.slice A0_3 l0_3.length c0_3) := (b_ BK145.out 3).trans rfl
         have hcz14_4 : wr.cell? ⟨gb145, 4, none⟩ = some (.int .i64 a0_4) := (b_ BK145.out 4).trans rfl
         have hfz14_0 := a_ BK145.out 0
         have hfz14_1 := a_ BK145.out 1
         have hfz14_2 := a_ BK145.out 2
         have hfz14_3 := a_ BK145.out 3
         have hfz14_4 := a_ BK145.out 4
         have p146 : 0 ≤ (x3_2 : Int) := of_decide_eq_true (by first | (with_reducible assumption) | assumption)
         have q146 : x3_2 < (l0_3.length : Int) := of_decide_eq_true (by first | (with_reducible assumption) | assumption)
         obtain ⟨ad146, e146, hx146_0⟩ := Kd.at_string HR0_3.out x3_2 p146 q146
         cases e146
         replace hx146_0 := (HB.out.cell (World.block_lt_of_cell? w _ hx146_0)).trans hx146_0
         replace p146 := eq_true p146
         replace q146 := eq_true q146
         go_wp2
         go_roundg k2
         case measure => have := HJ1.out; have := HK2.out; omega
         case rel => exact ⟨(wrap64 (x3_2 + 1)), (by first | rfl | (simp; done) | (simp [*]; done)), H', ⟨by have := HJ1.out; have := HK2.out; omega⟩, ⟨BK145.out⟩, ⟨HB.out⟩⟩
       ·rw [if_neg c11] at H
        exact absurd H (by simp)
      ·rw [if_neg c10] at H
       have c10b0 : decide (x3_2 < (l0_3.length : Int)) = false := decide_eq_false c10
       clear c10
       obtain rfl := Option.some.inj H
       have hcz15_0 : wr.cell? ⟨gb145, 0, none⟩ = some (.int .i64 a0_0) := (b_ BK145.out 0).trans rfl
       have hcz15_1 : wr.cell? ⟨gb145, 1, none⟩ = some (.string a0_1) := (b_ BK145.out 1).trans rfl
       have hcz15_2 : wr.cell? ⟨gb145, 2, none⟩ = some (.string a0_2) := (b_ BK145.out 2).trans rfl
       have hcz15_3 : wr.cell? ⟨gb145, 3, none⟩ = some (.slice A0_3 l0_3.length c0_3) := (b_ BK145.out 3).trans rfl
       have hcz15_4 : wr.cell? ⟨gb145, 4, none⟩ = some (.int .i64 a0_4) := (b_ BK145.out 4).trans rfl
       have hfz15_0 := a_ BK145.out 0
       have hfz15_1 := a_ BK145.out 1
       have hfz15_2 := a_ BK145.out 2
       have hfz15_3 := a_ BK145.out 3
       have hfz15_4 := a_ BK145.out 4
       go_wp2
       go_ret
       exact ⟨by first | rfl | (simp [i_, g_] <;> rfl) | (simp [*, i_, g_] <;> rfl), HB.out⟩
def ba_.l0 : Nat → List (S90) → Int → Option (Bool)
 | 0, _, _ => none
 | k + 1, x0, x3 => if x3 < (x0.length : Int) then (if 0 ≤ x3 then (if (((ed_ x0 x3).f2).size : Int) > 5000 then (some false) else (if (((ed_ x0 x3).f3).length : Int) > 100 then (some false) else (ba_.l0 k x0 (wrap64 (x3 + 1))))) else (none)) else (some true)
def ba_.f (k : Nat) (l0 : List (S90)) : Option (Bool) := if (l0.length : Int) > 200 then (some false) else (ba_.l0 k l0 0)
set_option maxHeartbeats 8000000 in
set_option maxRecDepth 100000 in
theorem ba_.calls (k : Nat) (A0 : Option Addr) (c0 : Nat) (l0 : List (S90)) (r : Bool) (w : World) (hr0 : Kd.C k90 w A0 l0.length l0) (hc0 : l0.length ≤ c0) (h : ba_.f k l0 = some r) :
  Calls Tryz.prog 18 #[.slice A0 l0.length c0] w fun e w' => e = .returned (.bool r) ∧ ax_ w w' := by
 have HR0 := c_.mk hr0
 have HC0 := c_.mk hc0
 clear hr0 hc0
 have H : (if (l0.length : Int) > 200 then (some false) else (ba_.l0 k l0 0)) = some r := h
 clear h
 by_cases c2 : (l0.length : Int) > 200
 ·rw [if_pos c2] at H
  have c2b0 : decide (200 < (l0.length : Int)) = true := decide_eq_true c2
  have c2b1 : decide (200 < l0.length) = true := decide_eq_true (by omega)
  clear c2
  obtain rfl := Option.some.inj H
  go_enter Tryz.func18, Tryz.ntmps18
  go_wp2
  go_ret
  exact eD_
 ·rw [if_neg c2] at H
  have c2b0 : decide (200 < (l0.length : Int)) = false := decide_eq_false c2
  have c2b1 : decide (200 < l0.length) = false := decide_eq_false (by omega)
  clear c2
  have H' := c_.mk H
  clear H
  go_enter Tryz.func18, Tryz.ntmps18
  go_wp2
  go_loopg [3] k (fun kq v3 w' => ∃ (x3_1 : Int), v3 = .int .i64 x3_1 ∧ c_ (ba_.l0 kq l0 x3_1 = some r) ∧ c_ (kq ≤ k) ∧ ax_ w w')
  case atStart => exact ⟨(0), (by first | rfl | (simp; done) | (simp [*]; done)), H', ⟨Nat.le_refl _⟩, by repeat (first | exact ax_.refl _ | apply ax_.step)⟩
  case round =>
   clear H'
   try clear c1
   try clear c2
   try clear c2b0
   try clear c2b1
   try clear p2
   obtain ⟨x3_1, rfl, HA, HK1, ⟨m1, rfl⟩⟩ := hrel
   cases gk with
   | zero => exact absurd HA.out (by simp [ba_.l0])
   | succ k1 =>
    have H := HA.out
    clear HA
    simp only [ba_.l0] at H
    by_cases c3 : x3_1 < (l0.length : Int)
    ·rw [if_pos c3] at H
     have c3b0 : decide (x3_1 < (l0.length : Int)) = true := decide_eq_true c3
     clear c3
     by_cases c4 : 0 ≤ x3_1
     ·rw [if_pos c4] at H
      have c4b0 : decide (0 ≤ x3_1) = true := decide_eq_true c4
      clear c4
      by_cases c5 : (((ed_ l0 x3_1).f2).size : Int) > 5000
      ·rw [if_pos c5] at H
       have c5b0 : decide (5000 < (((ed_ l0 x3_1).f2).size : Int)) = true := decide_eq_true c5
       have c5b1 : decide (5000 < ((ed_ l0 x3_1).f2).size) = true := decide_eq_true (by omega)
       clear c5
       obtain rfl := Option.some.inj H
       have p147 : 0 ≤ (x3_1 : Int) := of_decide_eq_true (by first | (with_reducible assumption) | assumption)
       have q147 : x3_1 < (l0.length : Int) := of_decide_eq_true (by first | (with_reducible assumption) | assumption)
       obtain ⟨ad147, A147_3, c147_3, e147, hx147_0, hx147_1, hx147_2, hx147_3, hl147_3, hi147_3⟩ := at_T90 HR0.out x3_1 p147 q147
       cases e147
       have HR147_3 := c_.mk hi147_3
       have HC147_3 := c_.mk hl147_3
       clear hi147_3 hl147_3
       replace p147 := eq_true p147
       replace q147 := eq_true q147
       go_wp2
       go_ret
       exact eD_
      ·rw [if_neg c5] at H
       have c5b0 : decide (5000 < (((ed_ l0 x3_1).f2).size : Int)) = false := decide_eq_false c5
       have c5b1 : decide (5000 < ((ed_ l0 x3_1).f2).size) = false := decide_eq_false (by omega)
       clear c5
       by_cases c6 : (((ed_ l0 x3_1).f3).length : Int) > 100
       ·rw [if_pos c6] at H
        have c6b0 : decide (100 < (((ed_ l0 x3_1).f3).length : Int)) = true := decide_eq_true c6
        have c6b1 : decide (100 < ((ed_ l0 x3_1).f3).length) = true := decide_eq_true (by omega)
        clear c6
        obtain rfl := Option.some.inj H
        have p147 : 0 ≤ (x3_1 : Int) := of_decide_eq_true (by first | (with_reducible assumption) | assumption)
        have q147 : x3_1 < (l0.length : Int) := of_decide_eq_true (by first | (with_reducible assumption) | assumption)
        obtain ⟨ad147, A147_3, c147_3, e147, hx147_0, hx147_1, hx147_2, hx147_3, hl147_3, hi147_3⟩ := at_T90 HR0.out x3_1 p147 q147
        cases e147
        have HR147_3 := c_.mk hi147_3
        have HC147_3 := c_.mk hl147_3
        clear hi147_3 hl147_3
        replace p147 := eq_true p147
        replace q147 := eq_true q147
        have p148 : 0 ≤ (x3_1 : Int) := of_decide_eq_true (by first | (with_reducible assumption) | assumption)
        have q148 : x3_1 < (l0.length : Int) := of_decide_eq_true (by first | (with_reducible assumption) | assumption)
        obtain ⟨ad148, A148_3, c148_3, e148, hx148_0, hx148_1, hx148_2, hx148_3, hl148_3, hi148_3⟩ := at_T90 HR0.out x3_1 p148 q148
        obtain rfl : ad147 = ad148 := (by injection e148)
        have HR148_3 := c_.mk hi148_3
        have HC148_3 := c_.mk hl148_3
        clear hi148_3 hl148_3
        replace p148 := eq_true p148
        replace q148 := eq_true q148
        have ea_ := Option.some.inj (hx147_3.symm.trans hx148_3)
        injection ea_ with ea_ en_ ec_
        subst ea_
        subst ec_
        clear en_
        go_wp2
        go_ret
        exact eD_
       ·rw [if_neg c6] at H
        have c6b0 : decide (100 < (((ed_ l0 x3_1).f3).length : Int)) = false := decide_eq_false c6
        have c6b1 : decide (100 < ((ed_ l0 x3_1).f3).length) = false := decide_eq_false (by omega)
        clear c6
        have H' := c_.mk H
        clear H
        have p147 : 0 ≤ (x3_1 : Int) := of_decide_eq_true (by first | (with_reducible assumption) | assumption)
        have q147 : x3_1 < (l0.length : Int) := of_decide_eq_true (by first | (with_reducible assumption) | assumption)
        obtain ⟨ad147, A147_3, c147_3, e147, hx147_0, hx147_1, hx147_2, hx147_3, hl147_3, hi147_3⟩ := at_T90 HR0.out x3_1 p147 q147
        cases e147
        have HR147_3 := c_.mk hi147_3
        have HC147_3 := c_.mk hl147_3
        clear hi147_3 hl147_3
        replace p147 := eq_true p147
        replace q147 := eq_true q147
        have p148 : 0 ≤ (x3_1 : Int) := of_decide_eq_true (by first | (with_reducible assumption) | assumption)
        have q148 : x3_1 < (l0.length : Int) := of_decide_eq_true (by first | (with_reducible assumption) | assumption)
        obtain ⟨ad148, A148_3, c148_3, e148, hx148_0, hx148_1, hx148_2, hx148_3, hl148_3, hi148_3⟩ := at_T90 HR0.out x3_1 p148 q148
        obtain rfl : ad147 = ad148 := (by injection e148)
        have HR148_3 := c_.mk hi148_3
        have HC148_3 := c_.mk hl148_3
        clear hi148_3 hl148_3
        replace p148 := eq_true p148
        replace q148 := eq_true q148
        have ea_ := Option.some.inj (hx147_3.symm.trans hx148_3)
        injection ea_ with ea_ en_ ec_
        subst ea_
        subst ec_
        clear en_
        go_wp2
        go_roundg k1
        case measure => have := HK1.out; omega
        case rel => exact ⟨(wrap64 (x3_1 + 1)), (by first | rfl | (simp; done) | (simp [*]; done)), H', ⟨by have := HK1.out; omega⟩, by repeat (first | exact ax_.refl _ | apply ax_.step)⟩
     ·rw [if_neg c4] at H
      exact absurd H (by simp)
    ·rw [if_neg c3] at H
     have c3b0 : decide (x3_1 < (l0.length : Int)) = false := decide_eq_false c3
     clear c3
     obtain rfl := Option.some.inj H
     go_wp2
     go_ret
     exact eD_
end Go.Proofs.YtlcfcaokihoplaaGreatDoor.Ms
