-- Cut.
import Derived.Test.YtlcfcaokihoplaaGreatDoorMsx1Cp
namespace Go.Proofs.YtlcfcaokihoplaaGreatDoor.Ms
open Go.RowKit Go.Proofs.YzW.PrintWords Go.Proofs.YzW.PrintLast Go.Proofs.YzW.PrintMore
attribute [local go_sem] cg_ ce_ cw_ cv_ by_ bx_ cf_ cd_
set_option linter.unusedVariables false
set_option linter.unusedSimpArgs false
attribute [local go_sem] eqlErr neqErr eqlErrNil neqErrNil
open Go.Proofs.YtlcfcaokihoplaaGreatDoor.Mw
mutual
def ak_.j0 : Nat → Bool → Int → ByteArray → ByteArray → List ByteArray → Int → Option (Bool)
 | 0, _, _, _, _, _, _ => none
 | k + 1, x27, x102000, x102001, x102002, x102003, x102004 => if x27 = true then (some false) else (if x102000 = 2 then (ak_.j1 k true x102000 x102001 x102002 x102003 x102004) else (ak_.j1 k (x102000 == 6) x102000 x102001 x102002 x102003 x102004))
def ak_.j1 : Nat → Bool → Int → ByteArray → ByteArray → List ByteArray → Int → Option (Bool)
 | 0, _, _, _, _, _, _ => none
 | k + 1, x3, x102000, x102001, x102002, x102003, x102004 => (db_.f x102000).bind fun t103 => (if t103 = true then ((dv_.f x102001).bind fun t104 => (ak_.j2 k x3 (!t104) x102000 x102001 x102002 x102003 x102004)) else (ak_.j2 k x3 false x102000 x102001 x102002 x102003 x102004))
def ak_.j2 : Nat → Bool → Bool → Int → ByteArray → ByteArray → List ByteArray → Int → Option (Bool)
 | 0, _, _, _, _, _, _, _ => none
 | k + 1, x3, x36, x102000, x102001, x102002, x102003, x102004 => if x36 = true then (ak_.j3 k x3 x36 x102000 x102001 x102002 x102003 x102004) else ((db_.f x102000).bind fun t105 => (if t105 = true then (ak_.j3 k x3 false x102000 x102001 x102002 x102003 x102004) else (ak_.j3 k x3 (x102001.toList != ([] : List UInt8)) x102000 x102001 x102002 x102003 x102004)))
def ak_.j3 : Nat → Bool → Bool → Int → ByteArray → ByteArray → List ByteArray → Int → Option (Bool)
 | 0, _, _, _, _, _, _, _ => none
 | k + 1, x3, x36, x102000, x102001, x102002, x102003, x102004 => if x36 = true then (some false) else (if x3 = true then ((da_.f x102002).bind fun t106 => (if t106.isNone = true then (ak_.j4 k x3 false x102000 x102001 x102002 x102003 x102004) else (ak_.j4 k x3 true x102000 x102001 x102002 x102003 x102004))) else (ak_.j4 k x3 false x102000 x102001 x102002 x102003 x102004))
def ak_.j4 : Nat → Bool → Bool → Int → ByteArray → ByteArray → List ByteArray → Int → Option (Bool)
 | 0, _, _, _, _, _, _, _ => none
 | k + 1, x3, x55, x102000, x102001, x102002, x102003, x102004 => if x55 = true then (some false) else (if x3 = true then (if x102000 = 2 then (if x102000 = 8 then (some true) else (some (x102004 == 0))) else (if (x102003.length : Int) = 0 then (if x102000 = 8 then (some true) else (some (x102004 == 0))) else (some false))) else (if x102002.toList = ([] : List UInt8) then (if x102000 = 2 then (if x102000 = 8 then (some true) else (some (x102004 == 0))) else (if (x102003.length : Int) = 0 then (if x102000 = 8 then (some true) else (some (x102004 == 0))) else (some false))) else (some false)))
end
def ak_.f (k : Nat) (a0_0 : Int) (a0_1 : ByteArray) (a0_2 : ByteArray) (l0_3 : List ByteArray) (a0_4 : Int) : Option (Bool) := if a0_0 < 1 then (ak_.j0 k true a0_0 a0_1 a0_2 l0_3 a0_4) else (if a0_0 > 9 then (ak_.j0 k true a0_0 a0_1 a0_2 l0_3 a0_4) else ((dl_.f l0_3).bind fun t102 => (if t102 = true then (if a0_4 < 0 then (ak_.j0 k true a0_0 a0_1 a0_2 l0_3 a0_4) else (ak_.j0 k (decide (a0_4 > 100)) a0_0 a0_1 a0_2 l0_3 a0_4)) else (ak_.j0 k true a0_0 a0_1 a0_2 l0_3 a0_4))))
set_option maxHeartbeats 8000000 in
set_option maxRecDepth 100000 in
theorem ak_.calls (k : Nat) (a0_0 : Int) (a0_1 : ByteArray) (a0_2 : ByteArray) (A0_3 : Option Addr) (c0_3 : Nat) (l0_3 : List ByteArray) (a0_4 : Int) (r : Bool) (w : World) (hr0_3 : Kd.C Kd.string w A0_3 l0_3.length l0_3) (hc0_3 : l0_3.length ≤ c0_3) (h : ak_.f k a0_0 a0_1 a0_2 l0_3 a0_4 = some r) :
  Calls Tryz.prog 47 #[.agg #[.int .i64 a0_0, .string a0_1, .string a0_2, .slice A0_3 l0_3.length c0_3, .int .i64 a0_4]] w fun e w' => e = .returned (.bool r) ∧ Below w.heap.size w w' := by
 have hu36 := Tryz.underlying36
 have hu26 := Tryz.underlying26
 have HR0_3 := c_.mk hr0_3
 have HC0_3 := c_.mk hc0_3
 clear hr0_3 hc0_3
 have HB := c_.mk (Below.refl w.heap.size w)
 have H : (if a0_0 < 1 then (ak_.j0 k true a0_0 a0_1 a0_2 l0_3 a0_4) else (if a0_0 > 9 then (ak_.j0 k true a0_0 a0_1 a0_2 l0_3 a0_4) else ((dl_.f l0_3).bind fun t102 => (if t102 = true then (if a0_4 < 0 then (ak_.j0 k true a0_0 a0_1 a0_2 l0_3 a0_4) else (ak_.j0 k (decide (a0_4 > 100)) a0_0 a0_1 a0_2 l0_3 a0_4)) else (ak_.j0 k true a0_0 a0_1 a0_2 l0_3 a0_4))))) = some r := h
 clear h
 have HC2 := c_.mk H
 clear H
 go_enter Tryz.func47, Tryz.ntmps47
 go_upto_region 1 with (first | ((with_reducible refine be_ (N := 1) rfl ?_); (try (refine cm_ (by rfl) ?_; dsimp only)); refine bd_ ?hg (N := 1) ?hd (cs := #[.int .i64 a0_0, .string a0_1, .string a0_2, .slice A0_3 l0_3.length c0_3, .int .i64 a0_4]) (t := 36) ?hr ?_; (case hd => rfl); (case hg => rfl); (case hr => first | (go_simp; done) | (go_simp; rfl)); intro gb101 hg w3 hbox hb; have n0_ := c_.mk (ac_ (HB.out) hb); have n1_ := c_.mk (hbox); have n2_ := c_.mk ((by rw [hg]; exact (v_ (HB.out)) : w.heap.size ≤ gb101)); have n3_ := c_.mk ((by rw [hg]; exact (v_ (HB.out)) : w.heap.size ≤ gb101)); clear HB; have HB := n0_; have BK101 := n1_; have GW101 := n2_; have GE101 := n3_; clear n0_ n1_ n2_ n3_; clear hb hbox hg))
 (try simp only [Act.put, sA_, sB_, sC_])
 go_cut [27] (fun v27 wc => ∃ (kq : Nat) (x27_1 : Bool), v27 = .bool x27_1 ∧ c_ (ak_.j0 kq x27_1 a0_0 a0_1 a0_2 l0_3 a0_4 = some r) ∧ c_ (kq ≤ k) ∧ c_ (wc.heap[gb101]? = some (.cells #[.int .i64 a0_0, .string a0_1, .string a0_2, (.slice A0_3 l0_3.length c0_3), .int .i64 a0_4] 36 (0, 0))) ∧ c_ (Below w.heap.size w wc))
 case first =>
  have H := HC2.out
  clear HC2
  by_cases c4 : a0_0 < 1
  ·rw [if_pos c4] at H
   have c4b0 : decide (a0_0 < 1) = true := decide_eq_true c4
   clear c4
   (first | rw [c4b0] | (simp only [af_, ag_]; rw [c4b0]) | skip)
   have H' := c_.mk H
   clear H
   have hcz5_0 : w3.cell? ⟨gb101, 0, none⟩ = some (.int .i64 a0_0) := (b_ BK101.out 0).trans rfl
   have hcz5_1 : w3.cell? ⟨gb101, 1, none⟩ = some (.string a0_1) := (b_ BK101.out 1).trans rfl
   have hcz5_2 : w3.cell? ⟨gb101, 2, none⟩ = some (.string a0_2) := (b_ BK101.out 2).trans rfl
   have hcz5_3 : w3.cell? ⟨gb101, 3, none⟩ = some (.slice A0_3 l0_3.length c0_3) := (b_ BK101.out 3).trans rfl
   have hcz5_4 : w3.cell? ⟨gb101, 4, none⟩ = some (.int .i64 a0_4) := (b_ BK101.out 4).trans rfl
   have hfz5_0 := a_ BK101.out 0
   have hfz5_1 := a_ BK101.out 1
   have hfz5_2 := a_ BK101.out 2
   have hfz5_3 := a_ BK101.out 3
   have hfz5_4 := a_ BK101.out 4
   go_wp2
   go_meet
   case rel => exact ⟨_, (true), (by first | rfl | (simp; done) | (simp [*]; done) | (simp; exact bg_ _)), H', ⟨by first | omega | exact Nat.le_refl _⟩, ⟨BK101.out⟩, ⟨HB.out⟩⟩
  ·rw [if_neg c4] at H
   have c4b0 : decide (a0_0 < 1) = false := decide_eq_false c4
   clear c4
   (first | rw [c4b0] | (simp only [af_, ag_]; rw [c4b0]) | skip)
   by_cases c6 : a0_0 > 9
   ·rw [if_pos c6] at H
    have c6b0 : decide (9 < a0_0) = true := decide_eq_true c6
    clear c6
    have H' := c_.mk H
    clear H
    have hcz7_0 : w3.cell? ⟨gb101, 0, none⟩ = some (.int .i64 a0_0) := (b_ BK101.out 0).trans rfl
    have hcz7_1 : w3.cell? ⟨gb101, 1, none⟩ = some (.string a0_1) := (b_ BK101.out 1).trans rfl
    have hcz7_2 : w3.cell? ⟨gb101, 2, none⟩ = some (.string a0_2) := (b_ BK101.out 2).trans rfl
    have hcz7_3 : w3.cell? ⟨gb101, 3, none⟩ = some (.slice A0_3 l0_3.length c0_3) := (b_ BK101.out 3).trans rfl
    have hcz7_4 : w3.cell? ⟨gb101, 4, none⟩ = some (.int .i64 a0_4) := (b_ BK101.out 4).trans rfl
    have hfz7_0 := a_ BK101.out 0
    have hfz7_1 := a_ BK101.out 1
    have hfz7_2 := a_ BK101.out 2
    have hfz7_3 := a_ BK101.out 3
    have hfz7_4 := a_ BK101.out 4
    go_wp2
    go_meet
    case rel => exact ⟨_, (true), (by first | rfl | (simp; done) | (simp [*]; done) | (simp; exact bg_ _)), H', ⟨by first | omega | exact Nat.le_refl _⟩, ⟨BK101.out⟩, ⟨HB.out⟩⟩
   ·rw [if_neg c6] at H
    have c6b0 : decide (9 < a0_0) = false := decide_eq_false c6
    clear c6
    replace H := Option.bind_eq_some_iff.mp H
    obtain ⟨t102, A80, H⟩ := H
    replace H : (if t102 = true then (if a0_4 < 0 then (ak_.j0 k true a0_0 a0_1 a0_2 l0_3 a0_4) else (ak_.j0 k (decide (a0_4 > 100)) a0_0 a0_1 a0_2 l0_3 a0_4)) else (ak_.j0 k true a0_0 a0_1 a0_2 l0_3 a0_4)) = some r := H
    have A8 := c_.mk A80
    clear A80
    by_cases c9 : t102 = true
    ·subst c9
     have H1 : (if a0_4 < 0 then (ak_.j0 k true a0_0 a0_1 a0_2 l0_3 a0_4) else (ak_.j0 k (decide (a0_4 > 100)) a0_0 a0_1 a0_2 l0_3 a0_4)) = some r := by first | (rw [if_pos rfl] at H; with_reducible exact H) | exact (if_pos rfl).symm.trans H | (simp only [if_true, eq_self_iff_true] at H ⊢; exact H)
     clear H
     have H := H1
     clear H1
     by_cases c10 : a0_4 < 0
     ·rw [if_pos c10] at H
      have c10b0 : decide (a0_4 < 0) = true := decide_eq_true c10
      clear c10
      have H' := c_.mk H
      clear H
      have hcz11_0 : w3.cell? ⟨gb101, 0, none⟩ = some (.int .i64 a0_0) := (b_ BK101.out 0).trans rfl
      have hcz11_1 : w3.cell? ⟨gb101, 1, none⟩ = some (.string a0_1) := (b_ BK101.out 1).trans rfl
      have hcz11_2 : w3.cell? ⟨gb101, 2, none⟩ = some (.string a0_2) := (b_ BK101.out 2).trans rfl
      have hcz11_3 : w3.cell? ⟨gb101, 3, none⟩ = some (.slice A0_3 l0_3.length c0_3) := (b_ BK101.out 3).trans rfl
      have hcz11_4 : w3.cell? ⟨gb101, 4, none⟩ = some (.int .i64 a0_4) := (b_ BK101.out 4).trans rfl
      have hfz11_0 := a_ BK101.out 0
      have hfz11_1 := a_ BK101.out 1
      have hfz11_2 := a_ BK101.out 2
      have hfz11_3 := a_ BK101.out 3
      have hfz11_4 := a_ BK101.out 4
      go_wp2_with (first | (go_at_call 56; (with_reducible refine (dl_.calls _ _ l0_3 true _ ?side1 ?side2 A8.out).mono ?_); (case side1 => repeat (first | exact (Kd.C_below HR0_3.out HB.out) | (with_reducible refine Kd.C_alloc ?_ _) | (with_reducible refine Kd.C_drewN ?_ _) | (with_reducible refine Kd.C_drew ?_))); (case side2 => exact HC0_3.out); rintro e w12 ⟨rfl, hb⟩; have n0_ := c_.mk (s_ (g := gb101) (o := .cells #[.int .i64 a0_0, .string a0_1, .string a0_2, .slice A0_3 l0_3.length c0_3, .int .i64 a0_4] 36 (0, 0)) (BK101.out) hb); have n1_ := c_.mk (ac_ (HB.out) hb); clear BK101; clear HB; have BK101 := n0_; have HB := n1_; clear n0_ n1_; (try clear hb); (try clear hb2); (try clear hk); (try clear hi); have hcz13_0 : w12.cell? ⟨gb101, 0, none⟩ = some (.int .i64 a0_0) := (b_ BK101.out 0).trans rfl; have hcz13_1 : w12.cell? ⟨gb101, 1, none⟩ = some (.string a0_1) := (b_ BK101.out 1).trans rfl; have hcz13_2 : w12.cell? ⟨gb101, 2, none⟩ = some (.string a0_2) := (b_ BK101.out 2).trans rfl; have hcz13_3 : w12.cell? ⟨gb101, 3, none⟩ = some (.slice A0_3 l0_3.length c0_3) := (b_ BK101.out 3).trans rfl; have hcz13_4 : w12.cell? ⟨gb101, 4, none⟩ = some (.int .i64 a0_4) := (b_ BK101.out 4).trans rfl; have hfz13_0 := a_ BK101.out 0; have hfz13_1 := a_ BK101.out 1; have hfz13_2 := a_ BK101.out 2; have hfz13_3 := a_ BK101.out 3; have hfz13_4 := a_ BK101.out 4))
      go_meet
      case rel => exact ⟨_, (true), (by first | rfl | (simp; done) | (simp [*]; done) | (simp; exact bg_ _)), H', ⟨by first | omega | exact Nat.le_refl _⟩, ⟨BK101.out⟩, ⟨HB.out⟩⟩
     ·rw [if_neg c10] at H
      have c10b0 : decide (a0_4 < 0) = false := decide_eq_false c10
      clear c10
      have H' := c_.mk H
      clear H
      have hcz14_0 : w3.cell? ⟨gb101, 0, none⟩ = some (.int .i64 a0_0) := (b_ BK101.out 0).trans rfl
      have hcz14_1 : w3.cell? ⟨gb101, 1, none⟩ = some (.string a0_1) := (b_ BK101.out 1).trans rfl
      have hcz14_2 : w3.cell? ⟨gb101, 2, none⟩ = some (.string a0_2) := (b_ BK101.out 2).trans rfl
      have hcz14_3 : w3.cell? ⟨gb101, 3, none⟩ = some (.slice A0_3 l0_3.length c0_3) := (b_ BK101.out 3).trans rfl
      have hcz14_4 : w3.cell? ⟨gb101, 4, none⟩ = some (.int .i64 a0_4) := (b_ BK101.out 4).trans rfl
      have hfz14_0 := a_ BK101.out 0
      have hfz14_1 := a_ BK101.out 1
      have hfz14_2 := a_ BK101.out 2
      have hfz14_3 := a_ BK101.out 3
      have hfz14_4 := a_ BK101.out 4
      go_wp2_with (first | (go_at_call 56; (with_reducible refine (dl_.calls _ _ l0_3 true _ ?side1 ?side2 A8.out).mono ?_); (case side1 => repeat (first | exact (Kd.C_below HR0_3.out HB.out) | (with_reducible refine Kd.C_alloc ?_ _) | (with_reducible refine Kd.C_drewN ?_ _) | (with_reducible refine Kd.C_drew ?_))); (case side2 => exact HC0_3.out); rintro e w15 ⟨rfl, hb⟩; have n0_ := c_.mk (s_ (g := gb101) (o := .cells #[.int .i64 a0_0, .string a0_1, .string a0_2, .slice A0_3 l0_3.length c0_3, .int .i64 a0_4] 36 (0, 0)) (BK101.out) hb); have n1_ := c_.mk (ac_ (HB.out) hb); clear BK101; clear HB; have BK101 := n0_; have HB := n1_; clear n0_ n1_; (try clear hb); (try clear hb2); (try clear hk); (try clear hi); have hcz16_0 : w15.cell? ⟨gb101, 0, none⟩ = some (.int .i64 a0_0) := (b_ BK101.out 0).trans rfl; have hcz16_1 : w15.cell? ⟨gb101, 1, none⟩ = some (.string a0_1) := (b_ BK101.out 1).trans rfl; have hcz16_2 : w15.cell? ⟨gb101, 2, none⟩ = some (.string a0_2) := (b_ BK101.out 2).trans rfl; have hcz16_3 : w15.cell? ⟨gb101, 3, none⟩ = some (.slice A0_3 l0_3.length c0_3) := (b_ BK101.out 3).trans rfl; have hcz16_4 : w15.cell? ⟨gb101, 4, none⟩ = some (.int .i64 a0_4) := (b_ BK101.out 4).trans rfl; have hfz16_0 := a_ BK101.out 0; have hfz16_1 := a_ BK101.out 1; have hfz16_2 := a_ BK101.out 2; have hfz16_3 := a_ BK101.out 3; have hfz16_4 := a_ BK101.out 4))
      go_meet
      case rel => exact ⟨_, (decide (a0_4 > 100)), (by first | rfl | (simp; done) | (simp [*]; done) | (simp; exact bg_ _)), H', ⟨by first | omega | exact Nat.le_refl _⟩, ⟨BK101.out⟩, ⟨HB.out⟩⟩
    ·replace c9 := Bool.eq_false_iff.mpr c9
     subst c9
     have H1 : (ak_.j0 k true a0_0 a0_1 a0_2 l0_3 a0_4) = some r := by rw [if_neg (show ¬ (false = true) by decide)] at H; exact H
     clear H
     have H := H1
     clear H1
     have H' := c_.mk H
     clear H
     have hcz17_0 : w3.cell? ⟨gb101, 0, none⟩ = some (.int .i64 a0_0) := (b_ BK101.out 0).trans rfl
     have hcz17_1 : w3.cell? ⟨gb101, 1, none⟩ = some (.string a0_1) := (b_ BK101.out 1).trans rfl
     have hcz17_2 : w3.cell? ⟨gb101, 2, none⟩ = some (.string a0_2) := (b_ BK101.out 2).trans rfl
     have hcz17_3 : w3.cell? ⟨gb101, 3, none⟩ = some (.slice A0_3 l0_3.length c0_3) := (b_ BK101.out 3).trans rfl
     have hcz17_4 : w3.cell? ⟨gb101, 4, none⟩ = some (.int .i64 a0_4) := (b_ BK101.out 4).trans rfl
     have hfz17_0 := a_ BK101.out 0
     have hfz17_1 := a_ BK101.out 1
     have hfz17_2 := a_ BK101.out 2
     have hfz17_3 := a_ BK101.out 3
     have hfz17_4 := a_ BK101.out 4
     go_wp2_with (first | (go_at_call 56; (with_reducible refine (dl_.calls _ _ l0_3 false _ ?side1 ?side2 A8.out).mono ?_); (case side1 => repeat (first | exact (Kd.C_below HR0_3.out HB.out) | (with_reducible refine Kd.C_alloc ?_ _) | (with_reducible refine Kd.C_drewN ?_ _) | (with_reducible refine Kd.C_drew ?_))); (case side2 => exact HC0_3.out); rintro e w18 ⟨rfl, hb⟩; have n0_ := c_.mk (s_ (g := gb101) (o := .cells #[.int .i64 a0_0, .string a0_1, .string a0_2, .slice A0_3 l0_3.length c0_3, .int .i64 a0_4] 36 (0, 0)) (BK101.out) hb); have n1_ := c_.mk (ac_ (HB.out) hb); clear BK101; clear HB; have BK101 := n0_; have HB := n1_; clear n0_ n1_; (try clear hb); (try clear hb2); (try clear hk); (try clear hi)))
     go_meet
     case rel => exact ⟨_, (true), (by first | rfl | (simp; done) | (simp [*]; done) | (simp; exact bg_ _)), H', ⟨by first | omega | exact Nat.le_refl _⟩, ⟨BK101.out⟩, ⟨HB.out⟩⟩
 case rest =>
  clear HC2
  try clear c1
  try clear p2
  try clear c4
  try clear c4b0
  try clear c6
  try clear c6b0
  try clear c9
  try clear c10
  try clear c10b0
  try clear hcz11_0
  try clear hcz11_1
  try clear hcz11_2
  try clear hcz11_3
  try clear hcz11_4
  try clear hcz13_0
  try clear hcz13_1
  try clear hcz13_2
  try clear hcz13_3
  try clear hcz13_4
  try clear hcz14_0
  try clear hcz14_1
  try clear hcz14_2
  try clear hcz14_3
  try clear hcz14_4
  try clear hcz16_0
  try clear hcz16_1
  try clear hcz16_2
  try clear hcz16_3
  try clear hcz16_4
  try clear hcz17_0
  try clear hcz17_1
  try clear hcz17_2
  try clear hcz17_3
  try clear hcz17_4
  try clear hcz5_0
  try clear hcz5_1
  try clear hcz5_2
  try clear hcz5_3
  try clear hcz5_4
  try clear hcz7_0
  try clear hcz7_1
  try clear hcz7_2
  try clear hcz7_3
  try clear hcz7_4
  try clear hfz11_0
  try clear hfz11_1
  try clear hfz11_2
  try clear hfz11_3
  try clear hfz11_4
  try clear hfz13_0
  try clear hfz13_1
  try clear hfz13_2
  try clear hfz13_3
  try clear hfz13_4
  try clear hfz14_0
  try clear hfz14_1
  try clear hfz14_2
  try clear hfz14_3
  try clear hfz14_4
  try clear hfz16_0
  try clear hfz16_1
  try clear hfz16_2
  try clear hfz16_3
  try clear hfz16_4
  try clear hfz17_0
  try clear hfz17_1
  try clear hfz17_2
  try clear hfz17_3
  try clear hfz17_4
  try clear hfz5_0
  try clear hfz5_1
  try clear hfz5_2
  try clear hfz5_3
  try clear hfz5_4
  try clear hfz7_0
  try clear hfz7_1
  try clear hfz7_2
  try clear hfz7_3
  try clear hfz7_4
  obtain ⟨kq, x27_1, rfl, HA, HJ1, BK101, HB⟩ := hcut
  cases kq with
  | zero => exact absurd HA.out (by simp [ak_.j0])
  | succ kj1 =>
   have H := HA.out
   clear HA
   simp only [ak_.j0] at H
   by_cases c19 : x27_1 = true
   ·subst c19
    have H1 : (some false) = some r := by first | (rw [if_pos rfl] at H; with_reducible exact H) | exact (if_pos rfl).symm.trans H | (simp only [if_true, eq_self_iff_true] at H ⊢; exact H)
    clear H
    have H := H1
    clear H1
    obtain rfl := Option.some.inj H
    go_wp2
    go_ret
    exact ⟨by first | rfl | (simp [i_, g_] <;> rfl) | (simp [*, i_, g_] <;> rfl), HB.out⟩
   ·replace c19 := Bool.eq_false_iff.mpr c19
    subst c19
    have H1 : (if a0_0 = 2 then (ak_.j1 kj1 true a0_0 a0_1 a0_2 l0_3 a0_4) else (ak_.j1 kj1 (a0_0 == 6) a0_0 a0_1 a0_2 l0_3 a0_4)) = some r := by rw [if_neg (show ¬ (false = true) by decide)] at H; exact H
    clear H
    have H := H1
    clear H1
    have HC20 := c_.mk H
    clear H
    go_upto_region 3 with (fail)
    go_cut [3] (fun v3 wc => ∃ (kq : Nat) (x3_19 : Bool), v3 = .bool x3_19 ∧ c_ (ak_.j1 kq x3_19 a0_0 a0_1 a0_2 l0_3 a0_4 = some r) ∧ c_ (kq ≤ kj1) ∧ c_ (wc.heap[gb101]? = some (.cells #[.int .i64 a0_0, .string a0_1, .string a0_2, (.slice A0_3 l0_3.length c0_3), .int .i64 a0_4] 36 (0, 0))) ∧ c_ (Below w.heap.size w wc))
    case first =>
     have H := HC20.out
     clear HC20
     by_cases c21 : a0_0 = 2
     ·rw [if_pos c21] at H
      have c21b0 : (a0_0 == 2) = true := beq_iff_eq.mpr c21
      have c21b1 : (a0_0 != 2) = false := bne_eq_false_iff_eq.mpr c21
      clear c21
      (first | rw [c21b0] | (simp only [af_, ag_]; rw [c21b0]) | skip)
      have H' := c_.mk H
      clear H
      have hcz22_0 : wc.cell? ⟨gb101, 0, none⟩ = some (.int .i64 a0_0) := (b_ BK101.out 0).trans rfl
      have hcz22_1 : wc.cell? ⟨gb101, 1, none⟩ = some (.string a0_1) := (b_ BK101.out 1).trans rfl
      have hcz22_2 : wc.cell? ⟨gb101, 2, none⟩ = some (.string a0_2) := (b_ BK101.out 2).trans rfl
      have hcz22_3 : wc.cell? ⟨gb101, 3, none⟩ = some (.slice A0_3 l0_3.length c0_3) := (b_ BK101.out 3).trans rfl
      have hcz22_4 : wc.cell? ⟨gb101, 4, none⟩ = some (.int .i64 a0_4) := (b_ BK101.out 4).trans rfl
      have hfz22_0 := a_ BK101.out 0
      have hfz22_1 := a_ BK101.out 1
      have hfz22_2 := a_ BK101.out 2
      have hfz22_3 := a_ BK101.out 3
      have hfz22_4 := a_ BK101.out 4
      go_wp2
      go_meet
      case rel => exact ⟨_, (true), (by first | rfl | (simp; done) | (simp [*]; done) | (simp; exact bg_ _)), H', ⟨by have := HJ1.out; first | omega | exact Nat.le_refl _⟩, ⟨BK101.out⟩, ⟨HB.out⟩⟩
     ·rw [if_neg c21] at H
      have c21b0 : (a0_0 == 2) = false := beq_eq_false_iff_ne.mpr c21
      have c21b1 : (a0_0 != 2) = true := bne_iff_ne.mpr c21
      (first | rw [c21b0] | (simp only [af_, ag_]; rw [c21b0]) | skip)
      have H' := c_.mk H
      clear H
      have hcz23_0 : wc.cell? ⟨gb101, 0, none⟩ = some (.int .i64 a0_0) := (b_ BK101.out 0).trans rfl
      have hcz23_1 : wc.cell? ⟨gb101, 1, none⟩ = some (.string a0_1) := (b_ BK101.out 1).trans rfl
      have hcz23_2 : wc.cell? ⟨gb101, 2, none⟩ = some (.string a0_2) := (b_ BK101.out 2).trans rfl
      have hcz23_3 : wc.cell? ⟨gb101, 3, none⟩ = some (.slice A0_3 l0_3.length c0_3) := (b_ BK101.out 3).trans rfl
      have hcz23_4 : wc.cell? ⟨gb101, 4, none⟩ = some (.int .i64 a0_4) := (b_ BK101.out 4).trans rfl
      have hfz23_0 := a_ BK101.out 0
      have hfz23_1 := a_ BK101.out 1
      have hfz23_2 := a_ BK101.out 2
      have hfz23_3 := a_ BK101.out 3
      have hfz23_4 := a_ BK101.out 4
      go_wp2
      go_meet
      case rel => exact ⟨_, ((a0_0 == 6)), (by first | rfl | (simp; done) | (simp [*]; done) | (simp; exact bg_ _)), H', ⟨by have := HJ1.out; first | omega | exact Nat.le_refl _⟩, ⟨BK101.out⟩, ⟨HB.out⟩⟩
    case rest =>
     clear HC20
     try clear c1
     try clear c2
     try clear p2
     try clear c4
     try clear c4b0
     try clear c6
     try clear c6b0
     try clear c9
     try clear c10
     try clear c10b0
     try clear c19
     try clear c21
     try clear c21b0
     try clear c21b1
     try clear hcz11_0
     try clear hcz11_1
     try clear hcz11_2
     try clear hcz11_3
     try clear hcz11_4
     try clear hcz13_0
     try clear hcz13_1
     try clear hcz13_2
     try clear hcz13_3
     try clear hcz13_4
     try clear hcz14_0
     try clear hcz14_1
     try clear hcz14_2
     try clear hcz14_3
     try clear hcz14_4
     try clear hcz16_0
     try clear hcz16_1
     try clear hcz16_2
     try clear hcz16_3
     try clear hcz16_4
     try clear hcz17_0
     try clear hcz17_1
     try clear hcz17_2
     try clear hcz17_3
     try clear hcz17_4
     try clear hcz22_0
     try clear hcz22_1
     try clear hcz22_2
     try clear hcz22_3
     try clear hcz22_4
     try clear hcz23_0
     try clear hcz23_1
     try clear hcz23_2
     try clear hcz23_3
     try clear hcz23_4
     try clear hcz5_0
     try clear hcz5_1
     try clear hcz5_2
     try clear hcz5_3
     try clear hcz5_4
     try clear hcz7_0
     try clear hcz7_1
     try clear hcz7_2
     try clear hcz7_3
     try clear hcz7_4
     try clear hfz11_0
     try clear hfz11_1
     try clear hfz11_2
     try clear hfz11_3
     try clear hfz11_4
     try clear hfz13_0
     try clear hfz13_1
     try clear hfz13_2
     try clear hfz13_3
     try clear hfz13_4
     try clear hfz14_0
     try clear hfz14_1
     try clear hfz14_2
     try clear hfz14_3
     try clear hfz14_4
     try clear hfz16_0
     try clear hfz16_1
     try clear hfz16_2
     try clear hfz16_3
     try clear hfz16_4
     try clear hfz17_0
     try clear hfz17_1
     try clear hfz17_2
     try clear hfz17_3
     try clear hfz17_4
     try clear hfz22_0
     try clear hfz22_1
     try clear hfz22_2
     try clear hfz22_3
     try clear hfz22_4
     try clear hfz23_0
     try clear hfz23_1
     try clear hfz23_2
     try clear hfz23_3
     try clear hfz23_4
     try clear hfz5_0
     try clear hfz5_1
     try clear hfz5_2
     try clear hfz5_3
     try clear hfz5_4
     try clear hfz7_0
     try clear hfz7_1
     try clear hfz7_2
     try clear hfz7_3
     try clear hfz7_4
     try clear p2
     obtain ⟨kq, x3_19, rfl, HA, HJ19, BK101, HB⟩ := hcut
     cases kq with
     | zero => exact absurd HA.out (by simp [ak_.j1])
     | succ kj19 =>
      have H := HA.out
      clear HA
      simp only [ak_.j1] at H
      have HC24 := c_.mk H
      clear H
      go_upto_region 4 with (fail)
      go_cut [36] (fun v36 wc => ∃ (kq : Nat) (x36_23 : Bool), v36 = .bool x36_23 ∧ c_ (ak_.j2 kq x3_19 x36_23 a0_0 a0_1 a0_2 l0_3 a0_4 = some r) ∧ c_ (kq ≤ kj19) ∧ c_ (wc.heap[gb101]? = some (.cells #[.int .i64 a0_0, .string a0_1, .string a0_2, (.slice A0_3 l0_3.length c0_3), .int .i64 a0_4] 36 (0, 0))) ∧ c_ (Below w.heap.size w wc))
      case first =>
       have H := HC24.out
       clear HC24
       replace H := Option.bind_eq_some_iff.mp H
       obtain ⟨t103, A250, H⟩ := H
       replace H : (if t103 = true then ((dv_.f a0_1).bind fun t104 => (ak_.j2 kj19 x3_19 (!t104) a0_0 a0_1 a0_2 l0_3 a0_4)) else (ak_.j2 kj19 x3_19 false a0_0 a0_1 a0_2 l0_3 a0_4)) = some r := H
       have A25 := c_.mk A250
       clear A250
       by_cases c26 : t103 = true
       ·subst c26
        have H1 : ((dv_.f a0_1).bind fun t104 => (ak_.j2 kj19 x3_19 (!t104) a0_0 a0_1 a0_2 l0_3 a0_4)) = some r := by first | (rw [if_pos rfl] at H; with_reducible exact H) | exact (if_pos rfl).symm.trans H | (simp only [if_true, eq_self_iff_true] at H ⊢; exact H)
        clear H
        have H := H1
        clear H1
        replace H := Option.bind_eq_some_iff.mp H
        obtain ⟨t104, A270, H⟩ := H
        replace H : (ak_.j2 kj19 x3_19 (!t104) a0_0 a0_1 a0_2 l0_3 a0_4) = some r := H
        have A27 := c_.mk A270
        clear A270
        have H' := c_.mk H
        clear H
        have hcz28_0 : wc.cell? ⟨gb101, 0, none⟩ = some (.int .i64 a0_0) := (b_ BK101.out 0).trans rfl
        have hcz28_1 : wc.cell? ⟨gb101, 1, none⟩ = some (.string a0_1) := (b_ BK101.out 1).trans rfl
        have hcz28_2 : wc.cell? ⟨gb101, 2, none⟩ = some (.string a0_2) := (b_ BK101.out 2).trans rfl
        have hcz28_3 : wc.cell? ⟨gb101, 3, none⟩ = some (.slice A0_3 l0_3.length c0_3) := (b_ BK101.out 3).trans rfl
        have hcz28_4 : wc.cell? ⟨gb101, 4, none⟩ = some (.int .i64 a0_4) := (b_ BK101.out 4).trans rfl
        have hfz28_0 := a_ BK101.out 0
        have hfz28_1 := a_ BK101.out 1
        have hfz28_2 := a_ BK101.out 2
        have hfz28_3 := a_ BK101.out 3
        have hfz28_4 := a_ BK101.out 4
        go_wp2_with (first | ((with_reducible refine ah_ (f := 57) rfl ?_); refine bm_ (some 39) rfl rfl Tryz.func57 (by kernel_rfl) rfl #[.int .i64 a0_0] rfl (by (try simp only [List.map_toArray, List.map_cons, List.map_nil]); first | done | rfl | (simp only [List.length_drop, List.length_take]; rfl)) ?_; (with_reducible refine (db_.calls a0_0 true _ A25.out).mono ?_); rintro e w' ⟨rfl, ⟨nd, rfl⟩⟩; refine ⟨_, rfl, ?_⟩) | (go_at_call 58; (with_reducible refine (dv_.calls a0_1 t104 _ A27.out).mono ?_); rintro e w29 ⟨rfl, hb⟩; have n0_ := c_.mk (s_ (g := gb101) (o := .cells #[.int .i64 a0_0, .string a0_1, .string a0_2, .slice A0_3 l0_3.length c0_3, .int .i64 a0_4] 36 (0, 0)) (by (with_reducible repeat (first | refine u_ ?_ _ | refine o_ ?_ | refine x_ ?_ _)); exact BK101.out) hb); have n1_ := c_.mk (ac_ (by repeat (first | (with_reducible first | exact HB.out | apply l_ | apply d_ | apply m_ | refine f_ ?_ GE101.out) | exact HB.out)) hb); clear BK101; clear HB; have BK101 := n0_; have HB := n1_; clear n0_ n1_; (try clear hb); (try clear hb2); (try clear hk); (try clear hi)))
        go_meet
        case rel => exact ⟨_, (!t104), (by first | rfl | (simp; done) | (simp [*]; done) | (simp; exact bg_ _)), H', ⟨by have := HJ1.out; have := HJ19.out; first | omega | exact Nat.le_refl _⟩, ⟨BK101.out⟩, ⟨HB.out⟩⟩
       ·replace c26 := Bool.eq_false_iff.mpr c26
        subst c26
        have H1 : (ak_.j2 kj19 x3_19 false a0_0 a0_1 a0_2 l0_3 a0_4) = some r := by rw [if_neg (show ¬ (false = true) by decide)] at H; exact H
        clear H
        have H := H1
        clear H1
        have H' := c_.mk H
        clear H
        have hcz30_0 : wc.cell? ⟨gb101, 0, none⟩ = some (.int .i64 a0_0) := (b_ BK101.out 0).trans rfl
        have hcz30_1 : wc.cell? ⟨gb101, 1, none⟩ = some (.string a0_1) := (b_ BK101.out 1).trans rfl
        have hcz30_2 : wc.cell? ⟨gb101, 2, none⟩ = some (.string a0_2) := (b_ BK101.out 2).trans rfl
        have hcz30_3 : wc.cell? ⟨gb101, 3, none⟩ = some (.slice A0_3 l0_3.length c0_3) := (b_ BK101.out 3).trans rfl
        have hcz30_4 : wc.cell? ⟨gb101, 4, none⟩ = some (.int .i64 a0_4) := (b_ BK101.out 4).trans rfl
        have hfz30_0 := a_ BK101.out 0
        have hfz30_1 := a_ BK101.out 1
        have hfz30_2 := a_ BK101.out 2
        have hfz30_3 := a_ BK101.out 3
        have hfz30_4 := a_ BK101.out 4
        go_wp2_with (first | ((with_reducible refine ah_ (f := 57) rfl ?_); refine bm_ (some 39) rfl rfl Tryz.func57 (by kernel_rfl) rfl #[.int .i64 a0_0] rfl (by (try simp only [List.map_toArray, List.map_cons, List.map_nil]); first | done | rfl | (simp only [List.length_drop, List.length_take]; rfl)) ?_; (with_reducible refine (db_.calls a0_0 false _ A25.out).mono ?_); rintro e w' ⟨rfl, ⟨nd, rfl⟩⟩; refine ⟨_, rfl, ?_⟩))
        go_meet
        case rel => exact ⟨_, (false), (by first | rfl | (simp; done) | (simp [*]; done) | (simp; exact bg_ _)), H', ⟨by have := HJ1.out; have := HJ19.out; first | omega | exact Nat.le_refl _⟩, ⟨by (with_reducible repeat (first | refine u_ ?_ _ | refine o_ ?_ | refine x_ ?_ _)); exact BK101.out⟩, ⟨by repeat (first | (with_reducible first | exact HB.out | apply l_ | apply d_ | apply m_ | refine f_ ?_ GE101.out) | exact HB.out)⟩⟩
      case rest =>
       clear HC24
       try clear c1
       try clear c2
       try clear p2
       try clear c4
       try clear c4b0
       try clear c5
       try clear c6
       try clear c6b0
       try clear c9
       try clear c10
       try clear c10b0
       try clear c19
       try clear c21
       try clear c21b0
       try clear c21b1
       try clear c26
       try clear hcz11_0
       try clear hcz11_1
       try clear hcz11_2
       try clear hcz11_3
       try clear hcz11_4
       try clear hcz13_0
       try clear hcz13_1
       try clear hcz13_2
       try clear hcz13_3
       try clear hcz13_4
       try clear hcz14_0
       try clear hcz14_1
       try clear hcz14_2
       try clear hcz14_3
       try clear hcz14_4
       try clear hcz16_0
       try clear hcz16_1
       try clear hcz16_2
       try clear hcz16_3
       try clear hcz16_4
       try clear hcz17_0
       try clear hcz17_1
       try clear hcz17_2
       try clear hcz17_3
       try clear hcz17_4
       try clear hcz22_0
       try clear hcz22_1
       try clear hcz22_2
       try clear hcz22_3
       try clear hcz22_4
       try clear hcz23_0
       try clear hcz23_1
       try clear hcz23_2
       try clear hcz23_3
       try clear hcz23_4
       try clear hcz28_0
       try clear hcz28_1
       try clear hcz28_2
       try clear hcz28_3
       try clear hcz28_4
       try clear hcz30_0
       try clear hcz30_1
       try clear hcz30_2
       try clear hcz30_3
       try clear hcz30_4
       try clear hcz5_0
       try clear hcz5_1
       try clear hcz5_2
       try clear hcz5_3
       try clear hcz5_4
       try clear hcz7_0
       try clear hcz7_1
       try clear hcz7_2
       try clear hcz7_3
       try clear hcz7_4
       try clear hfz11_0
       try clear hfz11_1
       try clear hfz11_2
       try clear hfz11_3
       try clear hfz11_4
       try clear hfz13_0
       try clear hfz13_1
       try clear hfz13_2
       try clear hfz13_3
       try clear hfz13_4
       try clear hfz14_0
       try clear hfz14_1
       try clear hfz14_2
       try clear hfz14_3
       try clear hfz14_4
       try clear hfz16_0
       try clear hfz16_1
       try clear hfz16_2
       try clear hfz16_3
       try clear hfz16_4
       try clear hfz17_0
       try clear hfz17_1
       try clear hfz17_2
       try clear hfz17_3
       try clear hfz17_4
       try clear hfz22_0
       try clear hfz22_1
       try clear hfz22_2
       try clear hfz22_3
       try clear hfz22_4
       try clear hfz23_0
       try clear hfz23_1
       try clear hfz23_2
       try clear hfz23_3
       try clear hfz23_4
       try clear hfz28_0
       try clear hfz28_1
       try clear hfz28_2
       try clear hfz28_3
       try clear hfz28_4
       try clear hfz30_0
       try clear hfz30_1
       try clear hfz30_2
       try clear hfz30_3
       try clear hfz30_4
       try clear hfz5_0
       try clear hfz5_1
       try clear hfz5_2
       try clear hfz5_3
       try clear hfz5_4
       try clear hfz7_0
       try clear hfz7_1
       try clear hfz7_2
       try clear hfz7_3
       try clear hfz7_4
       try clear p2
       obtain ⟨kq, x36_23, rfl, HA, HJ23, BK101, HB⟩ := hcut
       cases kq with
       | zero => exact absurd HA.out (by simp [ak_.j2])
       | succ kj23 =>
        have H := HA.out
        clear HA
        simp only [ak_.j2] at H
        have HC31 := c_.mk H
        clear H
        go_upto_if 36 with (fail)
        go_cut [36] (fun v36 wc => ∃ (kq : Nat) (x36_30 : Bool), v36 = .bool x36_30 ∧ c_ (ak_.j3 kq x3_19 x36_30 a0_0 a0_1 a0_2 l0_3 a0_4 = some r) ∧ c_ (kq ≤ kj23) ∧ c_ (wc.heap[gb101]? = some (.cells #[.int .i64 a0_0, .string a0_1, .string a0_2, (.slice A0_3 l0_3.length c0_3), .int .i64 a0_4] 36 (0, 0))) ∧ c_ (Below w.heap.size w wc))
        case first =>
         have H := HC31.out
         clear HC31
         by_cases c32 : x36_23 = true
         ·subst c32
          have H1 : (ak_.j3 kj23 x3_19 true a0_0 a0_1 a0_2 l0_3 a0_4) = some r := by first | (rw [if_pos rfl] at H; with_reducible exact H) | exact (if_pos rfl).symm.trans H | (simp only [if_true, eq_self_iff_true] at H ⊢; exact H)
          clear H
          have H := H1
          clear H1
          have H' := c_.mk H
          clear H
          go_wp2
          go_meet
          case rel => exact ⟨_, (true), (by first | rfl | (simp; done) | (simp [*]; done) | (simp; exact bg_ _)), H', ⟨by have := HJ1.out; have := HJ19.out; have := HJ23.out; first | omega | exact Nat.le_refl _⟩, ⟨BK101.out⟩, ⟨HB.out⟩⟩
         ·replace c32 := Bool.eq_false_iff.mpr c32
          subst c32
          have H1 : ((db_.f a0_0).bind fun t105 => (if t105 = true then (ak_.j3 kj23 x3_19 false a0_0 a0_1 a0_2 l0_3 a0_4) else (ak_.j3 kj23 x3_19 (a0_1.toList != ([] : List UInt8)) a0_0 a0_1 a0_2 l0_3 a0_4))) = some r := by rw [if_neg (show ¬ (false = true) by decide)] at H; exact H
          clear H
          have H := H1
          clear H1
          replace H := Option.bind_eq_some_iff.mp H
          obtain ⟨t105, A330, H⟩ := H
          replace H : (if t105 = true then (ak_.j3 kj23 x3_19 false a0_0 a0_1 a0_2 l0_3 a0_4) else (ak_.j3 kj23 x3_19 (a0_1.toList != ([] : List UInt8)) a0_0 a0_1 a0_2 l0_3 a0_4)) = some r := H
          have A33 := c_.mk A330
          clear A330
          by_cases c34 : t105 = true
          ·subst c34
           have H1 : (ak_.j3 kj23 x3_19 false a0_0 a0_1 a0_2 l0_3 a0_4) = some r := by first | (rw [if_pos rfl] at H; with_reducible exact H) | exact (if_pos rfl).symm.trans H | (simp only [if_true, eq_self_iff_true] at H ⊢; exact H)
           clear H
           have H := H1
           clear H1
           have H' := c_.mk H
           clear H
           have hcz35_0 : wc.cell? ⟨gb101, 0, none⟩ = some (.int .i64 a0_0) := (b_ BK101.out 0).trans rfl
           have hcz35_1 : wc.cell? ⟨gb101, 1, none⟩ = some (.string a0_1) := (b_ BK101.out 1).trans rfl
           have hcz35_2 : wc.cell? ⟨gb101, 2, none⟩ = some (.string a0_2) := (b_ BK101.out 2).trans rfl
           have hcz35_3 : wc.cell? ⟨gb101, 3, none⟩ = some (.slice A0_3 l0_3.length c0_3) := (b_ BK101.out 3).trans rfl
           have hcz35_4 : wc.cell? ⟨gb101, 4, none⟩ = some (.int .i64 a0_4) := (b_ BK101.out 4).trans rfl
           have hfz35_0 := a_ BK101.out 0
           have hfz35_1 := a_ BK101.out 1
           have hfz35_2 := a_ BK101.out 2
           have hfz35_3 := a_ BK101.out 3
           have hfz35_4 := a_ BK101.out 4
           go_wp2_with (first | ((with_reducible refine ah_ (f := 57) rfl ?_); refine bm_ (some 48) rfl rfl Tryz.func57 (by kernel_rfl) rfl #[.int .i64 a0_0] rfl (by (try simp only [List.map_toArray, List.map_cons, List.map_nil]); first | done | rfl | (simp only [List.length_drop, List.length_take]; rfl)) ?_; (with_reducible refine (db_.calls a0_0 true _ A33.out).mono ?_); rintro e w' ⟨rfl, ⟨nd, rfl⟩⟩; refine ⟨_, rfl, ?_⟩))
           go_meet
           case rel => exact ⟨_, (false), (by first | rfl | (simp; done) | (simp [*]; done) | (simp; exact bg_ _)), H', ⟨by have := HJ1.out; have := HJ19.out; have := HJ23.out; first | omega | exact Nat.le_refl _⟩, ⟨by (with_reducible repeat (first | refine u_ ?_ _ | refine o_ ?_ | refine x_ ?_ _)); exact BK101.out⟩, ⟨by repeat (first | (with_reducible first | exact HB.out | apply l_ | apply d_ | apply m_ | refine f_ ?_ GE101.out) | exact HB.out)⟩⟩
          ·replace c34 := Bool.eq_false_iff.mpr c34
           subst c34
           have H1 : (ak_.j3 kj23 x3_19 (a0_1.toList != ([] : List UInt8)) a0_0 a0_1 a0_2 l0_3 a0_4) = some r := by rw [if_neg (show ¬ (false = true) by decide)] at H; exact H
           clear H
           have H := H1
           clear H1
           have H' := c_.mk H
           clear H
           have hcz36_0 : wc.cell? ⟨gb101, 0, none⟩ = some (.int .i64 a0_0) := (b_ BK101.out 0).trans rfl
           have hcz36_1 : wc.cell? ⟨gb101, 1, none⟩ = some (.string a0_1) := (b_ BK101.out 1).trans rfl
           have hcz36_2 : wc.cell? ⟨gb101, 2, none⟩ = some (.string a0_2) := (b_ BK101.out 2).trans rfl
           have hcz36_3 : wc.cell? ⟨gb101, 3, none⟩ = some (.slice A0_3 l0_3.length c0_3) := (b_ BK101.out 3).trans rfl
           have hcz36_4 : wc.cell? ⟨gb101, 4, none⟩ = some (.int .i64 a0_4) := (b_ BK101.out 4).trans rfl
           have hfz36_0 := a_ BK101.out 0
           have hfz36_1 := a_ BK101.out 1
           have hfz36_2 := a_ BK101.out 2
           have hfz36_3 := a_ BK101.out 3
           have hfz36_4 := a_ BK101.out 4
           go_wp2_with (first | ((with_reducible refine ah_ (f := 57) rfl ?_); refine bm_ (some 48) rfl rfl Tryz.func57 (by kernel_rfl) rfl #[.int .i64 a0_0] rfl (by (try simp only [List.map_toArray, List.map_cons, List.map_nil]); first | done | rfl | (simp only [List.length_drop, List.length_take]; rfl)) ?_; (with_reducible refine (db_.calls a0_0 false _ A33.out).mono ?_); rintro e w' ⟨rfl, ⟨nd, rfl⟩⟩; refine ⟨_, rfl, ?_⟩))
           go_meet
           case rel => exact ⟨_, ((a0_1.toList != ([] : List UInt8))), (by first | rfl | (simp; done) | (simp [*]; done) | (simp; exact bg_ _)), H', ⟨by have := HJ1.out; have := HJ19.out; have := HJ23.out; first | omega | exact Nat.le_refl _⟩, ⟨by (with_reducible repeat (first | refine u_ ?_ _ | refine o_ ?_ | refine x_ ?_ _)); exact BK101.out⟩, ⟨by repeat (first | (with_reducible first | exact HB.out | apply l_ | apply d_ | apply m_ | refine f_ ?_ GE101.out) | exact HB.out)⟩⟩
        case rest =>
         clear HC31
         try clear c1
         try clear c2
         try clear p2
         try clear c3
         try clear c4
         try clear c4b0
         try clear c5
         try clear c6
         try clear c6b0
         try clear c9
         try clear c10
         try clear c10b0
         try clear c19
         try clear c21
         try clear c21b0
         try clear c21b1
         try clear c26
         try clear c32
         try clear c34
         try clear hcz11_0
         try clear hcz11_1
         try clear hcz11_2
         try clear hcz11_3
         try clear hcz11_4
         try clear hcz13_0
         try clear hcz13_1
         try clear hcz13_2
         try clear hcz13_3
         try clear hcz13_4
         try clear hcz14_0
         try clear hcz14_1
         try clear hcz14_2
         try clear hcz14_3
         try clear hcz14_4
         try clear hcz16_0
         try clear hcz16_1
         try clear hcz16_2
         try clear hcz16_3
         try clear hcz16_4
         try clear hcz17_0
         try clear hcz17_1
         try clear hcz17_2
         try clear hcz17_3
         try clear hcz17_4
         try clear hcz22_0
         try clear hcz22_1
         try clear hcz22_2
         try clear hcz22_3
         try clear hcz22_4
         try clear hcz23_0
         try clear hcz23_1
         try clear hcz23_2
         try clear hcz23_3
         try clear hcz23_4
         try clear hcz28_0
         try clear hcz28_1
         try clear hcz28_2
         try clear hcz28_3
         try clear hcz28_4
         try clear hcz30_0
         try clear hcz30_1
         try clear hcz30_2
         try clear hcz30_3
         try clear hcz30_4
         try clear hcz35_0
         try clear hcz35_1
         try clear hcz35_2
         try clear hcz35_3
         try clear hcz35_4
         try clear hcz36_0
         try clear hcz36_1
         try clear hcz36_2
         try clear hcz36_3
         try clear hcz36_4
         try clear hcz5_0
         try clear hcz5_1
         try clear hcz5_2
         try clear hcz5_3
         try clear hcz5_4
         try clear hcz7_0
         try clear hcz7_1
         try clear hcz7_2
         try clear hcz7_3
         try clear hcz7_4
         try clear hfz11_0
         try clear hfz11_1
         try clear hfz11_2
         try clear hfz11_3
         try clear hfz11_4
         try clear hfz13_0
         try clear hfz13_1
         try clear hfz13_2
         try clear hfz13_3
         try clear hfz13_4
         try clear hfz14_0
         try clear hfz14_1
         try clear hfz14_2
         try clear hfz14_3
         try clear hfz14_4
         try clear hfz16_0
         try clear hfz16_1
         try clear hfz16_2
         try clear hfz16_3
         try clear hfz16_4
         try clear hfz17_0
         try clear hfz17_1
         try clear hfz17_2
         try clear hfz17_3
         try clear hfz17_4
         try clear hfz22_0
         try clear hfz22_1
         try clear hfz22_2
         try clear hfz22_3
         try clear hfz22_4
         try clear hfz23_0
         try clear hfz23_1
         try clear hfz23_2
         try clear hfz23_3
         try clear hfz23_4
         try clear hfz28_0
         try clear hfz28_1
         try clear hfz28_2
         try clear hfz28_3
         try clear hfz28_4
         try clear hfz30_0
         try clear hfz30_1
         try clear hfz30_2
         try clear hfz30_3
         try clear hfz30_4
         try clear hfz35_0
         try clear hfz35_1
         try clear hfz35_2
         try clear hfz35_3
         try clear hfz35_4
         try clear hfz36_0
         try clear hfz36_1
         try clear hfz36_2
         try clear hfz36_3
         try clear hfz36_4
         try clear hfz5_0
         try clear hfz5_1
         try clear hfz5_2
         try clear hfz5_3
         try clear hfz5_4
         try clear hfz7_0
         try clear hfz7_1
         try clear hfz7_2
         try clear hfz7_3
         try clear hfz7_4
         try clear p2
         obtain ⟨kq, x36_30, rfl, HA, HJ30, BK101, HB⟩ := hcut
         cases kq with
         | zero => exact absurd HA.out (by simp [ak_.j3])
         | succ kj30 =>
          have H := HA.out
          clear HA
          simp only [ak_.j3] at H
          by_cases c37 : x36_30 = true
          ·subst c37
           have H1 : (some false) = some r := by first | (rw [if_pos rfl] at H; with_reducible exact H) | exact (if_pos rfl).symm.trans H | (simp only [if_true, eq_self_iff_true] at H ⊢; exact H)
           clear H
           have H := H1
           clear H1
           obtain rfl := Option.some.inj H
           go_wp2
           go_ret
           exact ⟨by first | rfl | (simp [i_, g_] <;> rfl) | (simp [*, i_, g_] <;> rfl), HB.out⟩
          ·replace c37 := Bool.eq_false_iff.mpr c37
           subst c37
           have H1 : (if x3_19 = true then ((da_.f a0_2).bind fun t106 => (if t106.isNone = true then (ak_.j4 kj30 x3_19 false a0_0 a0_1 a0_2 l0_3 a0_4) else (ak_.j4 kj30 x3_19 true a0_0 a0_1 a0_2 l0_3 a0_4))) else (ak_.j4 kj30 x3_19 false a0_0 a0_1 a0_2 l0_3 a0_4)) = some r := by rw [if_neg (show ¬ (false = true) by decide)] at H; exact H
           clear H
           have H := H1
           clear H1
           have HC38 := c_.mk H
           clear H
           go_upto_region 7 with (fail)
           go_cut [55] (fun v55 wc => ∃ (kq : Nat) (x55_37 : Bool), v55 = .bool x55_37 ∧ c_ (ak_.j4 kq x3_19 x55_37 a0_0 a0_1 a0_2 l0_3 a0_4 = some r) ∧ c_ (kq ≤ kj30) ∧ c_ (wc.heap[gb101]? = some (.cells #[.int .i64 a0_0, .string a0_1, .string a0_2, (.slice A0_3 l0_3.length c0_3), .int .i64 a0_4] 36 (0, 0))) ∧ c_ (Below w.heap.size w wc))
           case first =>
            have H := HC38.out
            clear HC38
            by_cases c39 : x3_19 = true
            ·subst c39
             have H1 : ((da_.f a0_2).bind fun t106 => (if t106.isNone = true then (ak_.j4 kj30 true false a0_0 a0_1 a0_2 l0_3 a0_4) else (ak_.j4 kj30 true true a0_0 a0_1 a0_2 l0_3 a0_4))) = some r := by first | (rw [if_pos rfl] at H; with_reducible exact H) | exact (if_pos rfl).symm.trans H | (simp only [if_true, eq_self_iff_true] at H ⊢; exact H)
             clear H
             have H := H1
             clear H1
             replace H := Option.bind_eq_some_iff.mp H
             obtain ⟨t106, A400, H⟩ := H
             replace H : (if t106.isNone = true then (ak_.j4 kj30 true false a0_0 a0_1 a0_2 l0_3 a0_4) else (ak_.j4 kj30 true true a0_0 a0_1 a0_2 l0_3 a0_4)) = some r := H
             have A40 := c_.mk A400
             clear A400
             rcases t106 with _ | q107
             ·have H1 : (ak_.j4 kj30 true false a0_0 a0_1 a0_2 l0_3 a0_4) = some r := by rw [if_pos (show (none : Option Int).isNone = true by rfl)] at H; exact H
              clear H
              have H := H1
              clear H1
              try simp only [i_, g_]
              have H' := c_.mk H
              clear H
              have hcz41_0 : wc.cell? ⟨gb101, 0, none⟩ = some (.int .i64 a0_0) := (b_ BK101.out 0).trans rfl
              have hcz41_1 : wc.cell? ⟨gb101, 1, none⟩ = some (.string a0_1) := (b_ BK101.out 1).trans rfl
              have hcz41_2 : wc.cell? ⟨gb101, 2, none⟩ = some (.string a0_2) := (b_ BK101.out 2).trans rfl
              have hcz41_3 : wc.cell? ⟨gb101, 3, none⟩ = some (.slice A0_3 l0_3.length c0_3) := (b_ BK101.out 3).trans rfl
              have hcz41_4 : wc.cell? ⟨gb101, 4, none⟩ = some (.int .i64 a0_4) := (b_ BK101.out 4).trans rfl
              have hfz41_0 := a_ BK101.out 0
              have hfz41_1 := a_ BK101.out 1
              have hfz41_2 := a_ BK101.out 2
              have hfz41_3 := a_ BK101.out 3
              have hfz41_4 := a_ BK101.out 4
              go_wp2_with (first | (go_at_call 59; (with_reducible refine (da_.calls a0_2 none _ A40.out).mono ?_); rintro e w42 ⟨rfl, hb⟩; have n0_ := c_.mk (s_ (g := gb101) (o := .cells #[.int .i64 a0_0, .string a0_1, .string a0_2, .slice A0_3 l0_3.length c0_3, .int .i64 a0_4] 36 (0, 0)) (BK101.out) hb); have n1_ := c_.mk (ac_ (HB.out) hb); clear BK101; clear HB; have BK101 := n0_; have HB := n1_; clear n0_ n1_; (try clear hb); (try clear hb2); (try clear hk); (try clear hi); (try simp only [i_, g_])))
              go_meet
              case rel => exact ⟨_, (false), (by first | rfl | (simp; done) | (simp [*]; done) | (simp; exact bg_ _)), H', ⟨by have := HJ1.out; have := HJ19.out; have := HJ23.out; have := HJ30.out; first | omega | exact Nat.le_refl _⟩, ⟨BK101.out⟩, ⟨HB.out⟩⟩
             ·have H1 : (ak_.j4 kj30 true true a0_0 a0_1 a0_2 l0_3 a0_4) = some r := by rw [if_neg (show ¬ (some q107).isNone = true by simp)] at H; exact H
              clear H
              have H := H1
              clear H1
              try simp only [i_, g_]
              have H' := c_.mk H
              clear H
              have hcz43_0 : wc.cell? ⟨gb101, 0, none⟩ = some (.int .i64 a0_0) := (b_ BK101.out 0).trans rfl
              have hcz43_1 : wc.cell? ⟨gb101, 1, none⟩ = some (.string a0_1) := (b_ BK101.out 1).trans rfl
              have hcz43_2 : wc.cell? ⟨gb101, 2, none⟩ = some (.string a0_2) := (b_ BK101.out 2).trans rfl
              have hcz43_3 : wc.cell? ⟨gb101, 3, none⟩ = some (.slice A0_3 l0_3.length c0_3) := (b_ BK101.out 3).trans rfl
              have hcz43_4 : wc.cell? ⟨gb101, 4, none⟩ = some (.int .i64 a0_4) := (b_ BK101.out 4).trans rfl
              have hfz43_0 := a_ BK101.out 0
              have hfz43_1 := a_ BK101.out 1
              have hfz43_2 := a_ BK101.out 2
              have hfz43_3 := a_ BK101.out 3
              have hfz43_4 := a_ BK101.out 4
              go_wp2_with (first | (go_at_call 59; (with_reducible refine (da_.calls a0_2 (some q107) _ A40.out).mono ?_); rintro e w44 ⟨rfl, hb⟩; have n0_ := c_.mk (s_ (g := gb101) (o := .cells #[.int .i64 a0_0, .string a0_1, .string a0_2, .slice A0_3 l0_3.length c0_3, .int .i64 a0_4] 36 (0, 0)) (BK101.out) hb); have n1_ := c_.mk (ac_ (HB.out) hb); clear BK101; clear HB; have BK101 := n0_; have HB := n1_; clear n0_ n1_; (try clear hb); (try clear hb2); (try clear hk); (try clear hi); (try simp only [i_, g_])))
              go_meet
              case rel => exact ⟨_, (true), (by first | rfl | (simp; done) | (simp [*]; done) | (simp; exact bg_ _)), H', ⟨by have := HJ1.out; have := HJ19.out; have := HJ23.out; have := HJ30.out; first | omega | exact Nat.le_refl _⟩, ⟨BK101.out⟩, ⟨HB.out⟩⟩
            ·replace c39 := Bool.eq_false_iff.mpr c39
             subst c39
             have H1 : (ak_.j4 kj30 false false a0_0 a0_1 a0_2 l0_3 a0_4) = some r := by rw [if_neg (show ¬ (false = true) by decide)] at H; exact H
             clear H
             have H := H1
             clear H1
             have H' := c_.mk H
             clear H
             go_wp2
             go_meet
             case rel => exact ⟨_, (false), (by first | rfl | (simp; done) | (simp [*]; done) | (simp; exact bg_ _)), H', ⟨by have := HJ1.out; have := HJ19.out; have := HJ23.out; have := HJ30.out; first | omega | exact Nat.le_refl _⟩, ⟨BK101.out⟩, ⟨HB.out⟩⟩
           case rest =>
            clear HC38
            try clear c1
            try clear q1
            try clear c2
            try clear p2
            try clear c3
            try clear c4
            try clear c4b0
            try clear c5
            try clear c6
            try clear c6b0
            try clear c9
            try clear c10
            try clear c10b0
            try clear q10
            try clear c19
            try clear c21
            try clear c21b0
            try clear c21b1
            try clear c26
            try clear c32
            try clear c34
            try clear c37
            try clear c39
            try clear hcz11_0
            try clear hcz11_1
            try clear hcz11_2
            try clear hcz11_3
            try clear hcz11_4
            try clear hcz13_0
            try clear hcz13_1
            try clear hcz13_2
            try clear hcz13_3
            try clear hcz13_4
            try clear hcz14_0
            try clear hcz14_1
            try clear hcz14_2
            try clear hcz14_3
            try clear hcz14_4
            try clear hcz16_0
            try clear hcz16_1
            try clear hcz16_2
            try clear hcz16_3
            try clear hcz16_4
            try clear hcz17_0
            try clear hcz17_1
            try clear hcz17_2
            try clear hcz17_3
            try clear hcz17_4
            try clear hcz22_0
            try clear hcz22_1
            try clear hcz22_2
            try clear hcz22_3
            try clear hcz22_4
            try clear hcz23_0
            try clear hcz23_1
            try clear hcz23_2
            try clear hcz23_3
            try clear hcz23_4
            try clear hcz28_0
            try clear hcz28_1
            try clear hcz28_2
            try clear hcz28_3
            try clear hcz28_4
            try clear hcz30_0
            try clear hcz30_1
            try clear hcz30_2
            try clear hcz30_3
            try clear hcz30_4
            try clear hcz35_0
            try clear hcz35_1
            try clear hcz35_2
            try clear hcz35_3
            try clear hcz35_4
            try clear hcz36_0
            try clear hcz36_1
            try clear hcz36_2
            try clear hcz36_3
            try clear hcz36_4
            try clear hcz41_0
            try clear hcz41_1
            try clear hcz41_2
            try clear hcz41_3
            try clear hcz41_4
            try clear hcz43_0
            try clear hcz43_1
            try clear hcz43_2
            try clear hcz43_3
            try clear hcz43_4
            try clear hcz5_0
            try clear hcz5_1
            try clear hcz5_2
            try clear hcz5_3
            try clear hcz5_4
            try clear hcz7_0
            try clear hcz7_1
            try clear hcz7_2
            try clear hcz7_3
            try clear hcz7_4
            try clear hfz11_0
            try clear hfz11_1
            try clear hfz11_2
            try clear hfz11_3
            try clear hfz11_4
            try clear hfz13_0
            try clear hfz13_1
            try clear hfz13_2
            try clear hfz13_3
            try clear hfz13_4
            try clear hfz14_0
            try clear hfz14_1
            try clear hfz14_2
            try clear hfz14_3
            try clear hfz14_4
            try clear hfz16_0
            try clear hfz16_1
            try clear hfz16_2
            try clear hfz16_3
            try clear hfz16_4
            try clear hfz17_0
            try clear hfz17_1
            try clear hfz17_2
            try clear hfz17_3
            try clear hfz17_4
            try clear hfz22_0
            try clear hfz22_1
            try clear hfz22_2
            try clear hfz22_3
            try clear hfz22_4
            try clear hfz23_0
            try clear hfz23_1
            try clear hfz23_2
            try clear hfz23_3
            try clear hfz23_4
            try clear hfz28_0
            try clear hfz28_1
            try clear hfz28_2
            try clear hfz28_3
            try clear hfz28_4
            try clear hfz30_0
            try clear hfz30_1
            try clear hfz30_2
            try clear hfz30_3
            try clear hfz30_4
            try clear hfz35_0
            try clear hfz35_1
            try clear hfz35_2
            try clear hfz35_3
            try clear hfz35_4
            try clear hfz36_0
            try clear hfz36_1
            try clear hfz36_2
            try clear hfz36_3
            try clear hfz36_4
            try clear hfz41_0
            try clear hfz41_1
            try clear hfz41_2
            try clear hfz41_3
            try clear hfz41_4
            try clear hfz43_0
            try clear hfz43_1
            try clear hfz43_2
            try clear hfz43_3
            try clear hfz43_4
            try clear hfz5_0
            try clear hfz5_1
            try clear hfz5_2
            try clear hfz5_3
            try clear hfz5_4
            try clear hfz7_0
            try clear hfz7_1
            try clear hfz7_2
            try clear hfz7_3
            try clear hfz7_4
            try clear p2
            try clear q107
            obtain ⟨kq, x55_37, rfl, HA, HJ37, BK101, HB⟩ := hcut
            cases kq with
            | zero => exact absurd HA.out (by simp [ak_.j4])
            | succ kj37 =>
             have H := HA.out
             clear HA
             simp only [ak_.j4] at H
             by_cases c45 : x55_37 = true
             ·subst c45
              have H1 : (some false) = some r := by first | (rw [if_pos rfl] at H; with_reducible exact H) | exact (if_pos rfl).symm.trans H | (simp only [if_true, eq_self_iff_true] at H ⊢; exact H)
              clear H
              have H := H1
              clear H1
              obtain rfl := Option.some.inj H
              go_wp2
              go_ret
              exact ⟨by first | rfl | (simp [i_, g_] <;> rfl) | (simp [*, i_, g_] <;> rfl), HB.out⟩
             ·replace c45 := Bool.eq_false_iff.mpr c45
              subst c45
              have H1 : (if x3_19 = true then (if a0_0 = 2 then (if a0_0 = 8 then (some true) else (some (a0_4 == 0))) else (if (l0_3.length : Int) = 0 then (if a0_0 = 8 then (some true) else (some (a0_4 == 0))) else (some false))) else (if a0_2.toList = ([] : List UInt8) then (if a0_0 = 2 then (if a0_0 = 8 then (some true) else (some (a0_4 == 0))) else (if (l0_3.length : Int) = 0 then (if a0_0 = 8 then (some true) else (some (a0_4 == 0))) else (some false))) else (some false))) = some r := by rw [if_neg (show ¬ (false = true) by decide)] at H; exact H
              clear H
              have H := H1
              clear H1
              by_cases c46 : x3_19 = true
              ·subst c46
               have H1 : (if a0_0 = 2 then (if a0_0 = 8 then (some true) else (some (a0_4 == 0))) else (if (l0_3.length : Int) = 0 then (if a0_0 = 8 then (some true) else (some (a0_4 == 0))) else (some false))) = some r := by first | (rw [if_pos rfl] at H; with_reducible exact H) | exact (if_pos rfl).symm.trans H | (simp only [if_true, eq_self_iff_true] at H ⊢; exact H)
               clear H
               have H := H1
               clear H1
               by_cases c47 : a0_0 = 2
               ·rw [if_pos c47] at H
                have c47b0 : (a0_0 == 2) = true := beq_iff_eq.mpr c47
                have c47b1 : (a0_0 != 2) = false := bne_eq_false_iff_eq.mpr c47
                clear c47
                by_cases c48 : a0_0 = 8
                ·rw [if_pos c48] at H
                 have c48b0 : (a0_0 == 8) = true := beq_iff_eq.mpr c48
                 have c48b1 : (a0_0 != 8) = false := bne_eq_false_iff_eq.mpr c48
                 clear c48
                 obtain rfl := Option.some.inj H
                 have hcz49_0 : wc.cell? ⟨gb101, 0, none⟩ = some (.int .i64 a0_0) := (b_ BK101.out 0).trans rfl
                 have hcz49_1 : wc.cell? ⟨gb101, 1, none⟩ = some (.string a0_1) := (b_ BK101.out 1).trans rfl
                 have hcz49_2 : wc.cell? ⟨gb101, 2, none⟩ = some (.string a0_2) := (b_ BK101.out 2).trans rfl
                 have hcz49_3 : wc.cell? ⟨gb101, 3, none⟩ = some (.slice A0_3 l0_3.length c0_3) := (b_ BK101.out 3).trans rfl
                 have hcz49_4 : wc.cell? ⟨gb101, 4, none⟩ = some (.int .i64 a0_4) := (b_ BK101.out 4).trans rfl
                 have hfz49_0 := a_ BK101.out 0
                 have hfz49_1 := a_ BK101.out 1
                 have hfz49_2 := a_ BK101.out 2
                 have hfz49_3 := a_ BK101.out 3
                 have hfz49_4 := a_ BK101.out 4
                 go_wp2
                 go_ret
                 exact ⟨by first | rfl | (simp [i_, g_] <;> rfl) | (simp [*, i_, g_] <;> rfl), HB.out⟩
                ·rw [if_neg c48] at H
                 have c48b0 : (a0_0 == 8) = false := beq_eq_false_iff_ne.mpr c48
                 have c48b1 : (a0_0 != 8) = true := bne_iff_ne.mpr c48
                 obtain rfl := Option.some.inj H
                 have hcz50_0 : wc.cell? ⟨gb101, 0, none⟩ = some (.int .i64 a0_0) := (b_ BK101.out 0).trans rfl
                 have hcz50_1 : wc.cell? ⟨gb101, 1, none⟩ = some (.string a0_1) := (b_ BK101.out 1).trans rfl
                 have hcz50_2 : wc.cell? ⟨gb101, 2, none⟩ = some (.string a0_2) := (b_ BK101.out 2).trans rfl
                 have hcz50_3 : wc.cell? ⟨gb101, 3, none⟩ = some (.slice A0_3 l0_3.length c0_3) := (b_ BK101.out 3).trans rfl
                 have hcz50_4 : wc.cell? ⟨gb101, 4, none⟩ = some (.int .i64 a0_4) := (b_ BK101.out 4).trans rfl
                 have hfz50_0 := a_ BK101.out 0
                 have hfz50_1 := a_ BK101.out 1
                 have hfz50_2 := a_ BK101.out 2
                 have hfz50_3 := a_ BK101.out 3
                 have hfz50_4 := a_ BK101.out 4
                 go_wp2
                 go_ret
                 exact ⟨by first | rfl | (simp [i_, g_] <;> rfl) | (simp [*, i_, g_] <;> rfl), HB.out⟩
               ·rw [if_neg c47] at H
                have c47b0 : (a0_0 == 2) = false := beq_eq_false_iff_ne.mpr c47
                have c47b1 : (a0_0 != 2) = true := bne_iff_ne.mpr c47
                by_cases c51 : (l0_3.length : Int) = 0
                ·rw [if_pos c51] at H
                 have c51b0 : ((l0_3.length : Int) == 0) = true := beq_iff_eq.mpr c51
                 have c51b1 : ((l0_3.length : Int) != 0) = false := bne_eq_false_iff_eq.mpr c51
                 clear c51
                 by_cases c52 : a0_0 = 8
                 ·rw [if_pos c52] at H
                  have c52b0 : (a0_0 == 8) = true := beq_iff_eq.mpr c52
                  have c52b1 : (a0_0 != 8) = false := bne_eq_false_iff_eq.mpr c52
                  clear c52
                  obtain rfl := Option.some.inj H
                  have hcz53_0 : wc.cell? ⟨gb101, 0, none⟩ = some (.int .i64 a0_0) := (b_ BK101.out 0).trans rfl
                  have hcz53_1 : wc.cell? ⟨gb101, 1, none⟩ = some (.string a0_1) := (b_ BK101.out 1).trans rfl
                  have hcz53_2 : wc.cell? ⟨gb101, 2, none⟩ = some (.string a0_2) := (b_ BK101.out 2).trans rfl
                  have hcz53_3 : wc.cell? ⟨gb101, 3, none⟩ = some (.slice A0_3 l0_3.length c0_3) := (b_ BK101.out 3).trans rfl
                  have hcz53_4 : wc.cell? ⟨gb101, 4, none⟩ = some (.int .i64 a0_4) := (b_ BK101.out 4).trans rfl
                  have hfz53_0 := a_ BK101.out 0
                  have hfz53_1 := a_ BK101.out 1
                  have hfz53_2 := a_ BK101.out 2
                  have hfz53_3 := a_ BK101.out 3
                  have hfz53_4 := a_ BK101.out 4
                  go_wp2
                  go_ret
                  exact ⟨by first | rfl | (simp [i_, g_] <;> rfl) | (simp [*, i_, g_] <;> rfl), HB.out⟩
                 ·rw [if_neg c52] at H
                  have c52b0 : (a0_0 == 8) = false := beq_eq_false_iff_ne.mpr c52
                  have c52b1 : (a0_0 != 8) = true := bne_iff_ne.mpr c52
                  obtain rfl := Option.some.inj H
                  have hcz54_0 : wc.cell? ⟨gb101, 0, none⟩ = some (.int .i64 a0_0) := (b_ BK101.out 0).trans rfl
                  have hcz54_1 : wc.cell? ⟨gb101, 1, none⟩ = some (.string a0_1) := (b_ BK101.out 1).trans rfl
                  have hcz54_2 : wc.cell? ⟨gb101, 2, none⟩ = some (.string a0_2) := (b_ BK101.out 2).trans rfl
                  have hcz54_3 : wc.cell? ⟨gb101, 3, none⟩ = some (.slice A0_3 l0_3.length c0_3) := (b_ BK101.out 3).trans rfl
                  have hcz54_4 : wc.cell? ⟨gb101, 4, none⟩ = some (.int .i64 a0_4) := (b_ BK101.out 4).trans rfl
                  have hfz54_0 := a_ BK101.out 0
                  have hfz54_1 := a_ BK101.out 1
                  have hfz54_2 := a_ BK101.out 2
                  have hfz54_3 := a_ BK101.out 3
                  have hfz54_4 := a_ BK101.out 4
                  go_wp2
                  go_ret
                  exact ⟨by first | rfl | (simp [i_, g_] <;> rfl) | (simp [*, i_, g_] <;> rfl), HB.out⟩
                ·rw [if_neg c51] at H
                 have c51b0 : ((l0_3.length : Int) == 0) = false := beq_eq_false_iff_ne.mpr c51
                 have c51b1 : ((l0_3.length : Int) != 0) = true := bne_iff_ne.mpr c51
                 have c51b2 : ¬ (l0_3 = []) := fun h_ => c51 (by rw [h_]; rfl)
                 obtain rfl := Option.some.inj H
                 have hcz55_0 : wc.cell? ⟨gb101, 0, none⟩ = some (.int .i64 a0_0) := (b_ BK101.out 0).trans rfl
                 have hcz55_1 : wc.cell? ⟨gb101, 1, none⟩ = some (.string a0_1) := (b_ BK101.out 1).trans rfl
                 have hcz55_2 : wc.cell? ⟨gb101, 2, none⟩ = some (.string a0_2) := (b_ BK101.out 2).trans rfl
                 have hcz55_3 : wc.cell? ⟨gb101, 3, none⟩ = some (.slice A0_3 l0_3.length c0_3) := (b_ BK101.out 3).trans rfl
                 have hcz55_4 : wc.cell? ⟨gb101, 4, none⟩ = some (.int .i64 a0_4) := (b_ BK101.out 4).trans rfl
                 have hfz55_0 := a_ BK101.out 0
                 have hfz55_1 := a_ BK101.out 1
                 have hfz55_2 := a_ BK101.out 2
                 have hfz55_3 := a_ BK101.out 3
                 have hfz55_4 := a_ BK101.out 4
                 go_wp2
                 go_ret
                 exact ⟨by first | rfl | (simp [i_, g_] <;> rfl) | (simp [*, i_, g_] <;> rfl), HB.out⟩
              ·replace c46 := Bool.eq_false_iff.mpr c46
               subst c46
               have H1 : (if a0_2.toList = ([] : List UInt8) then (if a0_0 = 2 then (if a0_0 = 8 then (some true) else (some (a0_4 == 0))) else (if (l0_3.length : Int) = 0 then (if a0_0 = 8 then (some true) else (some (a0_4 == 0))) else (some false))) else (some false)) = some r := by rw [if_neg (show ¬ (false = true) by decide)] at H; exact H
               clear H
               have H := H1
               clear H1
               by_cases c56 : a0_2.toList = ([] : List UInt8)
               ·rw [if_pos c56] at H
                have c56b0 : (a0_2.toList == ([] : List UInt8)) = true := beq_iff_eq.mpr c56
                have c56b1 : (a0_2.toList != ([] : List UInt8)) = false := bne_eq_false_iff_eq.mpr c56
                clear c56
                by_cases c57 : a0_0 = 2
                ·rw [if_pos c57] at H
                 have c57b0 : (a0_0 == 2) = true := beq_iff_eq.mpr c57
                 have c57b1 : (a0_0 != 2) = false := bne_eq_false_iff_eq.mpr c57
                 clear c57
                 by_cases c58 : a0_0 = 8
                 ·rw [if_pos c58] at H
                  have c58b0 : (a0_0 == 8) = true := beq_iff_eq.mpr c58
                  have c58b1 : (a0_0 != 8) = false := bne_eq_false_iff_eq.mpr c58
                  clear c58
                  obtain rfl := Option.some.inj H
                  have hcz59_0 : wc.cell? ⟨gb101, 0, none⟩ = some (.int .i64 a0_0) := (b_ BK101.out 0).trans rfl
                  have hcz59_1 : wc.cell? ⟨gb101, 1, none⟩ = some (.string a0_1) := (b_ BK101.out 1).trans rfl
                  have hcz59_2 : wc.cell? ⟨gb101, 2, none⟩ = some (.string a0_2) := (b_ BK101.out 2).trans rfl
                  have hcz59_3 : wc.cell? ⟨gb101, 3, none⟩ = some (.slice A0_3 l0_3.length c0_3) := (b_ BK101.out 3).trans rfl
                  have hcz59_4 : wc.cell? ⟨gb101, 4, none⟩ = some (.int .i64 a0_4) := (b_ BK101.out 4).trans rfl
                  have hfz59_0 := a_ BK101.out 0
                  have hfz59_1 := a_ BK101.out 1
                  have hfz59_2 := a_ BK101.out 2
                  have hfz59_3 := a_ BK101.out 3
                  have hfz59_4 := a_ BK101.out 4
                  go_wp2
                  go_ret
                  exact ⟨by first | rfl | (simp [i_, g_] <;> rfl) | (simp [*, i_, g_] <;> rfl), HB.out⟩
                 ·rw [if_neg c58] at H
                  have c58b0 : (a0_0 == 8) = false := beq_eq_false_iff_ne.mpr c58
                  have c58b1 : (a0_0 != 8) = true := bne_iff_ne.mpr c58
                  obtain rfl := Option.some.inj H
                  have hcz60_0 : wc.cell? ⟨gb101, 0, none⟩ = some (.int .i64 a0_0) := (b_ BK101.out 0).trans rfl
                  have hcz60_1 : wc.cell? ⟨gb101, 1, none⟩ = some (.string a0_1) := (b_ BK101.out 1).trans rfl
                  have hcz60_2 : wc.cell? ⟨gb101, 2, none⟩ = some (.string a0_2) := (b_ BK101.out 2).trans rfl
                  have hcz60_3 : wc.cell? ⟨gb101, 3, none⟩ = some (.slice A0_3 l0_3.length c0_3) := (b_ BK101.out 3).trans rfl
                  have hcz60_4 : wc.cell? ⟨gb101, 4, none⟩ = some (.int .i64 a0_4) := (b_ BK101.out 4).trans rfl
                  have hfz60_0 := a_ BK101.out 0
                  have hfz60_1 := a_ BK101.out 1
                  have hfz60_2 := a_ BK101.out 2
                  have hfz60_3 := a_ BK101.out 3
                  have hfz60_4 := a_ BK101.out 4
                  go_wp2
                  go_ret
                  exact ⟨by first | rfl | (simp [i_, g_] <;> rfl) | (simp [*, i_, g_] <;> rfl), HB.out⟩
                ·rw [if_neg c57] at H
                 have c57b0 : (a0_0 == 2) = false := beq_eq_false_iff_ne.mpr c57
                 have c57b1 : (a0_0 != 2) = true := bne_iff_ne.mpr c57
                 by_cases c61 : (l0_3.length : Int) = 0
                 ·rw [if_pos c61] at H
                  have c61b0 : ((l0_3.length : Int) == 0) = true := beq_iff_eq.mpr c61
                  have c61b1 : ((l0_3.length : Int) != 0) = false := bne_eq_false_iff_eq.mpr c61
                  clear c61
                  by_cases c62 : a0_0 = 8
                  ·rw [if_pos c62] at H
                   have c62b0 : (a0_0 == 8) = true := beq_iff_eq.mpr c62
                   have c62b1 : (a0_0 != 8) = false := bne_eq_false_iff_eq.mpr c62
                   clear c62
                   obtain rfl := Option.some.inj H
                   have hcz63_0 : wc.cell? ⟨gb101, 0, none⟩ = some (.int .i64 a0_0) := (b_ BK101.out 0).trans rfl
                   have hcz63_1 : wc.cell? ⟨gb101, 1, none⟩ = some (.string a0_1) := (b_ BK101.out 1).trans rfl
                   have hcz63_2 : wc.cell? ⟨gb101, 2, none⟩ = some (.string a0_2) := (b_ BK101.out 2).trans rfl
                   have hcz63_3 : wc.cell? ⟨gb101, 3, none⟩ = some (.slice A0_3 l0_3.length c0_3) := (b_ BK101.out 3).trans rfl
                   have hcz63_4 : wc.cell? ⟨gb101, 4, none⟩ = some (.int .i64 a0_4) := (b_ BK101.out 4).trans rfl
                   have hfz63_0 := a_ BK101.out 0
                   have hfz63_1 := a_ BK101.out 1
                   have hfz63_2 := a_ BK101.out 2
                   have hfz63_3 := a_ BK101.out 3
                   have hfz63_4 := a_ BK101.out 4
                   go_wp2
                   go_ret
                   exact ⟨by first | rfl | (simp [i_, g_] <;> rfl) | (simp [*, i_, g_] <;> rfl), HB.out⟩
                  ·rw [if_neg c62] at H
                   have c62b0 : (a0_0 == 8) = false := beq_eq_false_iff_ne.mpr c62
                   have c62b1 : (a0_0 != 8) = true := bne_iff_ne.mpr c62
                   obtain rfl := Option.some.inj H
                   have hcz64_0 : wc.cell? ⟨gb101, 0, none⟩ = some (.int .i64 a0_0) := (b_ BK101.out 0).trans rfl
                   have hcz64_1 : wc.cell? ⟨gb101, 1, none⟩ = some (.string a0_1) := (b_ BK101.out 1).trans rfl
                   have hcz64_2 : wc.cell? ⟨gb101, 2, none⟩ = some (.string a0_2) := (b_ BK101.out 2).trans rfl
                   have hcz64_3 : wc.cell? ⟨gb101, 3, none⟩ = some (.slice A0_3 l0_3.length c0_3) := (b_ BK101.out 3).trans rfl
                   have hcz64_4 : wc.cell? ⟨gb101, 4, none⟩ = some (.int .i64 a0_4) := (b_ BK101.out 4).trans rfl
                   have hfz64_0 := a_ BK101.out 0
                   have hfz64_1 := a_ BK101.out 1
                   have hfz64_2 := a_ BK101.out 2
                   have hfz64_3 := a_ BK101.out 3
                   have hfz64_4 := a_ BK101.out 4
                   go_wp2
                   go_ret
                   exact ⟨by first | rfl | (simp [i_, g_] <;> rfl) | (simp [*, i_, g_] <;> rfl), HB.out⟩
                 ·rw [if_neg c61] at H
                  have c61b0 : ((l0_3.length : Int) == 0) = false := beq_eq_false_iff_ne.mpr c61
                  have c61b1 : ((l0_3.length : Int) != 0) = true := bne_iff_ne.mpr c61
                  have c61b2 : ¬ (l0_3 = []) := fun h_ => c61 (by rw [h_]; rfl)
                  obtain rfl := Option.some.inj H
                  have hcz65_0 : wc.cell? ⟨gb101, 0, none⟩ = some (.int .i64 a0_0) := (b_ BK101.out 0).trans rfl
                  have hcz65_1 : wc.cell? ⟨gb101, 1, none⟩ = some (.string a0_1) := (b_ BK101.out 1).trans rfl
                  have hcz65_2 : wc.cell? ⟨gb101, 2, none⟩ = some (.string a0_2) := (b_ BK101.out 2).trans rfl
                  have hcz65_3 : wc.cell? ⟨gb101, 3, none⟩ = some (.slice A0_3 l0_3.length c0_3) := (b_ BK101.out 3).trans rfl
                  have hcz65_4 : wc.cell? ⟨gb101, 4, none⟩ = some (.int .i64 a0_4) := (b_ BK101.out 4).trans rfl
                  have hfz65_0 := a_ BK101.out 0
                  have hfz65_1 := a_ BK101.out 1
                  have hfz65_2 := a_ BK101.out 2
                  have hfz65_3 := a_ BK101.out 3
                  have hfz65_4 := a_ BK101.out 4
                  go_wp2
                  go_ret
                  exact ⟨by first | rfl | (simp [i_, g_] <;> rfl) | (simp [*, i_, g_] <;> rfl), HB.out⟩
               ·rw [if_neg c56] at H
                have c56b0 : (a0_2.toList == ([] : List UInt8)) = false := beq_eq_false_iff_ne.mpr c56
                have c56b1 : (a0_2.toList != ([] : List UInt8)) = true := bne_iff_ne.mpr c56
                obtain rfl := Option.some.inj H
                have hcz66_0 : wc.cell? ⟨gb101, 0, none⟩ = some (.int .i64 a0_0) := (b_ BK101.out 0).trans rfl
                have hcz66_1 : wc.cell? ⟨gb101, 1, none⟩ = some (.string a0_1) := (b_ BK101.out 1).trans rfl
                have hcz66_2 : wc.cell? ⟨gb101, 2, none⟩ = some (.string a0_2) := (b_ BK101.out 2).trans rfl
                have hcz66_3 : wc.cell? ⟨gb101, 3, none⟩ = some (.slice A0_3 l0_3.length c0_3) := (b_ BK101.out 3).trans rfl
                have hcz66_4 : wc.cell? ⟨gb101, 4, none⟩ = some (.int .i64 a0_4) := (b_ BK101.out 4).trans rfl
                have hfz66_0 := a_ BK101.out 0
                have hfz66_1 := a_ BK101.out 1
                have hfz66_2 := a_ BK101.out 2
                have hfz66_3 := a_ BK101.out 3
                have hfz66_4 := a_ BK101.out 4
                go_wp2
                go_ret
                exact ⟨by first | rfl | (simp [i_, g_] <;> rfl) | (simp [*, i_, g_] <;> rfl), HB.out⟩
end Go.Proofs.YtlcfcaokihoplaaGreatDoor.Ms
