-- Cut.
import Derived.Test.YtlcfcaokihoplaaGreatDoorMsx1Cp
import Derived.Test.YtlcfcaokihoplaaGreatDoorMsx2Cp
namespace Go.Proofs.YtlcfcaokihoplaaGreatDoor.Ms
open Go.RowKit Go.Proofs.YzW.PrintWords Go.Proofs.YzW.PrintLast Go.Proofs.YzW.PrintMore
attribute [local go_sem] cg_ ce_ cw_ cv_ by_ bx_ cf_ cd_
set_option linter.unusedVariables false
set_option linter.unusedSimpArgs false
attribute [local go_sem] eqlErr neqErr eqlErrNil neqErrNil
open Go.Proofs.YtlcfcaokihoplaaGreatDoor.Mw
def dq_.f (k : Nat) (a0_0 : Int) (a0_1 : Int) (a0_2 : Int) (a0_3 : ByteArray) (a0_4 : ByteArray) (l0_5 : List ByteArray) (a0_6 : Int) : Option (Option Int) := if a0_0 < 0 then (some (some 1)) else (if a0_0 ≥ 8 then (some (some 1)) else (if a0_1 < 1 then (some (some 1)) else (if a0_1 > 1000 then (some (some 1)) else ((ak_.f k a0_2 a0_3 a0_4 l0_5 a0_6).bind fun t109 => (if t109 = true then (some none) else (some (some 1)))))))
set_option maxHeartbeats 8000000 in
set_option maxRecDepth 100000 in
theorem dq_.calls (k : Nat) (a0_0 : Int) (a0_1 : Int) (a0_2 : Int) (a0_3 : ByteArray) (a0_4 : ByteArray) (A0_5 : Option Addr) (c0_5 : Nat) (l0_5 : List ByteArray) (a0_6 : Int) (r : Option Int) (w : World) (hr0_5 : Kd.C Kd.string w A0_5 l0_5.length l0_5) (hc0_5 : l0_5.length ≤ c0_5) (h : dq_.f k a0_0 a0_1 a0_2 a0_3 a0_4 l0_5 a0_6 = some r) :
  Calls Tryz.prog 30 #[.agg #[.int .i64 a0_0, .int .i64 a0_1, .int .i64 a0_2, .string a0_3, .string a0_4, .slice A0_5 l0_5.length c0_5, .int .i64 a0_6]] w fun e w' => e = .returned (errW r) ∧ Below w.heap.size w w' := by
 have hu74 := Tryz.underlying74
 have hu36 := Tryz.underlying36
 have hu26 := Tryz.underlying26
 have hu29 := Tryz.underlying29
 have HR0_5 := c_.mk hr0_5
 have HC0_5 := c_.mk hc0_5
 clear hr0_5 hc0_5
 have HB := c_.mk (Below.refl w.heap.size w)
 have H : (if a0_0 < 0 then (some (some 1)) else (if a0_0 ≥ 8 then (some (some 1)) else (if a0_1 < 1 then (some (some 1)) else (if a0_1 > 1000 then (some (some 1)) else ((ak_.f k a0_2 a0_3 a0_4 l0_5 a0_6).bind fun t109 => (if t109 = true then (some none) else (some (some 1)))))))) = some r := h
 clear h
 by_cases c2 : a0_0 < 0
 ·rw [if_pos c2] at H
  have c2b0 : decide (a0_0 < 0) = true := decide_eq_true c2
  clear c2
  obtain rfl := Option.some.inj H
  go_enter Tryz.func30, Tryz.ntmps30
  go_wp2_with (first | ((with_reducible refine be_ (N := 1) rfl ?_); refine bd_ ?hg (N := 1) ?hd (cs := #[.int .i64 a0_0, .int .i64 a0_1, .int .i64 a0_2, .string a0_3, .string a0_4, .slice A0_5 l0_5.length c0_5, .int .i64 a0_6]) (t := 74) ?hr ?_; (case hd => rfl); (case hg => rfl); (case hr => first | (go_simp; done) | (go_simp; rfl)); intro gb108 hg w3 hbox hb; have n0_ := c_.mk (ac_ (HB.out) hb); have n1_ := c_.mk (hbox); have n2_ := c_.mk ((by rw [hg]; exact (v_ (HB.out)) : w.heap.size ≤ gb108)); have n3_ := c_.mk ((by rw [hg]; exact (v_ (HB.out)) : w.heap.size ≤ gb108)); clear HB; have HB := n0_; have BK108 := n1_; have GW108 := n2_; have GE108 := n3_; clear n0_ n1_ n2_ n3_; clear hb hbox hg; have hcz4_0 : w3.cell? ⟨gb108, 0, none⟩ = some (.int .i64 a0_0) := (b_ BK108.out 0).trans rfl; have hcz4_1 : w3.cell? ⟨gb108, 1, none⟩ = some (.int .i64 a0_1) := (b_ BK108.out 1).trans rfl; have hcz4_2 : w3.cell? ⟨gb108, 2, none⟩ = some (.int .i64 a0_2) := (b_ BK108.out 2).trans rfl; have hcz4_3 : w3.cell? ⟨gb108, 3, none⟩ = some (.string a0_3) := (b_ BK108.out 3).trans rfl; have hcz4_4 : w3.cell? ⟨gb108, 4, none⟩ = some (.string a0_4) := (b_ BK108.out 4).trans rfl; have hcz4_5 : w3.cell? ⟨gb108, 5, none⟩ = some (.slice A0_5 l0_5.length c0_5) := (b_ BK108.out 5).trans rfl; have hcz4_6 : w3.cell? ⟨gb108, 6, none⟩ = some (.int .i64 a0_6) := (b_ BK108.out 6).trans rfl; have hfz4_0 := a_ BK108.out 0; have hfz4_1 := a_ BK108.out 1; have hfz4_2 := a_ BK108.out 2; have hfz4_3 := a_ BK108.out 3; have hfz4_4 := a_ BK108.out 4; have hfz4_5 := a_ BK108.out 5; have hfz4_6 := a_ BK108.out 6))
  go_ret
  exact ⟨by first | rfl | (simp [i_, g_] <;> rfl) | (simp [*, i_, g_] <;> rfl), HB.out⟩
 ·rw [if_neg c2] at H
  have c2b0 : decide (a0_0 < 0) = false := decide_eq_false c2
  clear c2
  by_cases c5 : a0_0 ≥ 8
  ·rw [if_pos c5] at H
   have c5b0 : decide (8 ≤ a0_0) = true := decide_eq_true c5
   clear c5
   obtain rfl := Option.some.inj H
   go_enter Tryz.func30, Tryz.ntmps30
   go_wp2_with (first | ((with_reducible refine be_ (N := 1) rfl ?_); refine bd_ ?hg (N := 1) ?hd (cs := #[.int .i64 a0_0, .int .i64 a0_1, .int .i64 a0_2, .string a0_3, .string a0_4, .slice A0_5 l0_5.length c0_5, .int .i64 a0_6]) (t := 74) ?hr ?_; (case hd => rfl); (case hg => rfl); (case hr => first | (go_simp; done) | (go_simp; rfl)); intro gb108 hg w6 hbox hb; have n0_ := c_.mk (ac_ (HB.out) hb); have n1_ := c_.mk (hbox); have n2_ := c_.mk ((by rw [hg]; exact (v_ (HB.out)) : w.heap.size ≤ gb108)); have n3_ := c_.mk ((by rw [hg]; exact (v_ (HB.out)) : w.heap.size ≤ gb108)); clear HB; have HB := n0_; have BK108 := n1_; have GW108 := n2_; have GE108 := n3_; clear n0_ n1_ n2_ n3_; clear hb hbox hg; have hcz7_0 : w6.cell? ⟨gb108, 0, none⟩ = some (.int .i64 a0_0) := (b_ BK108.out 0).trans rfl; have hcz7_1 : w6.cell? ⟨gb108, 1, none⟩ = some (.int .i64 a0_1) := (b_ BK108.out 1).trans rfl; have hcz7_2 : w6.cell? ⟨gb108, 2, none⟩ = some (.int .i64 a0_2) := (b_ BK108.out 2).trans rfl; have hcz7_3 : w6.cell? ⟨gb108, 3, none⟩ = some (.string a0_3) := (b_ BK108.out 3).trans rfl; have hcz7_4 : w6.cell? ⟨gb108, 4, none⟩ = some (.string a0_4) := (b_ BK108.out 4).trans rfl; have hcz7_5 : w6.cell? ⟨gb108, 5, none⟩ = some (.slice A0_5 l0_5.length c0_5) := (b_ BK108.out 5).trans rfl; have hcz7_6 : w6.cell? ⟨gb108, 6, none⟩ = some (.int .i64 a0_6) := (b_ BK108.out 6).trans rfl; have hfz7_0 := a_ BK108.out 0; have hfz7_1 := a_ BK108.out 1; have hfz7_2 := a_ BK108.out 2; have hfz7_3 := a_ BK108.out 3; have hfz7_4 := a_ BK108.out 4; have hfz7_5 := a_ BK108.out 5; have hfz7_6 := a_ BK108.out 6))
   go_ret
   exact ⟨by first | rfl | (simp [i_, g_] <;> rfl) | (simp [*, i_, g_] <;> rfl), HB.out⟩
  ·rw [if_neg c5] at H
   have c5b0 : decide (8 ≤ a0_0) = false := decide_eq_false c5
   clear c5
   by_cases c8 : a0_1 < 1
   ·rw [if_pos c8] at H
    have c8b0 : decide (a0_1 < 1) = true := decide_eq_true c8
    clear c8
    obtain rfl := Option.some.inj H
    go_enter Tryz.func30, Tryz.ntmps30
    go_wp2_with (first | ((with_reducible refine be_ (N := 1) rfl ?_); refine bd_ ?hg (N := 1) ?hd (cs := #[.int .i64 a0_0, .int .i64 a0_1, .int .i64 a0_2, .string a0_3, .string a0_4, .slice A0_5 l0_5.length c0_5, .int .i64 a0_6]) (t := 74) ?hr ?_; (case hd => rfl); (case hg => rfl); (case hr => first | (go_simp; done) | (go_simp; rfl)); intro gb108 hg w9 hbox hb; have n0_ := c_.mk (ac_ (HB.out) hb); have n1_ := c_.mk (hbox); have n2_ := c_.mk ((by rw [hg]; exact (v_ (HB.out)) : w.heap.size ≤ gb108)); have n3_ := c_.mk ((by rw [hg]; exact (v_ (HB.out)) : w.heap.size ≤ gb108)); clear HB; have HB := n0_; have BK108 := n1_; have GW108 := n2_; have GE108 := n3_; clear n0_ n1_ n2_ n3_; clear hb hbox hg; have hcz10_0 : w9.cell? ⟨gb108, 0, none⟩ = some (.int .i64 a0_0) := (b_ BK108.out 0).trans rfl; have hcz10_1 : w9.cell? ⟨gb108, 1, none⟩ = some (.int .i64 a0_1) := (b_ BK108.out 1).trans rfl; have hcz10_2 : w9.cell? ⟨gb108, 2, none⟩ = some (.int .i64 a0_2) := (b_ BK108.out 2).trans rfl; have hcz10_3 : w9.cell? ⟨gb108, 3, none⟩ = some (.string a0_3) := (b_ BK108.out 3).trans rfl; have hcz10_4 : w9.cell? ⟨gb108, 4, none⟩ = some (.string a0_4) := (b_ BK108.out 4).trans rfl; have hcz10_5 : w9.cell? ⟨gb108, 5, none⟩ = some (.slice A0_5 l0_5.length c0_5) := (b_ BK108.out 5).trans rfl; have hcz10_6 : w9.cell? ⟨gb108, 6, none⟩ = some (.int .i64 a0_6) := (b_ BK108.out 6).trans rfl; have hfz10_0 := a_ BK108.out 0; have hfz10_1 := a_ BK108.out 1; have hfz10_2 := a_ BK108.out 2; have hfz10_3 := a_ BK108.out 3; have hfz10_4 := a_ BK108.out 4; have hfz10_5 := a_ BK108.out 5; have hfz10_6 := a_ BK108.out 6))
    go_ret
    exact ⟨by first | rfl | (simp [i_, g_] <;> rfl) | (simp [*, i_, g_] <;> rfl), HB.out⟩
   ·rw [if_neg c8] at H
    have c8b0 : decide (a0_1 < 1) = false := decide_eq_false c8
    clear c8
    by_cases c11 : a0_1 > 1000
    ·rw [if_pos c11] at H
     have c11b0 : decide (1000 < a0_1) = true := decide_eq_true c11
     clear c11
     obtain rfl := Option.some.inj H
     go_enter Tryz.func30, Tryz.ntmps30
     go_wp2_with (first | ((with_reducible refine be_ (N := 1) rfl ?_); refine bd_ ?hg (N := 1) ?hd (cs := #[.int .i64 a0_0, .int .i64 a0_1, .int .i64 a0_2, .string a0_3, .string a0_4, .slice A0_5 l0_5.length c0_5, .int .i64 a0_6]) (t := 74) ?hr ?_; (case hd => rfl); (case hg => rfl); (case hr => first | (go_simp; done) | (go_simp; rfl)); intro gb108 hg w12 hbox hb; have n0_ := c_.mk (ac_ (HB.out) hb); have n1_ := c_.mk (hbox); have n2_ := c_.mk ((by rw [hg]; exact (v_ (HB.out)) : w.heap.size ≤ gb108)); have n3_ := c_.mk ((by rw [hg]; exact (v_ (HB.out)) : w.heap.size ≤ gb108)); clear HB; have HB := n0_; have BK108 := n1_; have GW108 := n2_; have GE108 := n3_; clear n0_ n1_ n2_ n3_; clear hb hbox hg; have hcz13_0 : w12.cell? ⟨gb108, 0, none⟩ = some (.int .i64 a0_0) := (b_ BK108.out 0).trans rfl; have hcz13_1 : w12.cell? ⟨gb108, 1, none⟩ = some (.int .i64 a0_1) := (b_ BK108.out 1).trans rfl; have hcz13_2 : w12.cell? ⟨gb108, 2, none⟩ = some (.int .i64 a0_2) := (b_ BK108.out 2).trans rfl; have hcz13_3 : w12.cell? ⟨gb108, 3, none⟩ = some (.string a0_3) := (b_ BK108.out 3).trans rfl; have hcz13_4 : w12.cell? ⟨gb108, 4, none⟩ = some (.string a0_4) := (b_ BK108.out 4).trans rfl; have hcz13_5 : w12.cell? ⟨gb108, 5, none⟩ = some (.slice A0_5 l0_5.length c0_5) := (b_ BK108.out 5).trans rfl; have hcz13_6 : w12.cell? ⟨gb108, 6, none⟩ = some (.int .i64 a0_6) := (b_ BK108.out 6).trans rfl; have hfz13_0 := a_ BK108.out 0; have hfz13_1 := a_ BK108.out 1; have hfz13_2 := a_ BK108.out 2; have hfz13_3 := a_ BK108.out 3; have hfz13_4 := a_ BK108.out 4; have hfz13_5 := a_ BK108.out 5; have hfz13_6 := a_ BK108.out 6))
     go_ret
     exact ⟨by first | rfl | (simp [i_, g_] <;> rfl) | (simp [*, i_, g_] <;> rfl), HB.out⟩
    ·rw [if_neg c11] at H
     have c11b0 : decide (1000 < a0_1) = false := decide_eq_false c11
     clear c11
     replace H := Option.bind_eq_some_iff.mp H
     obtain ⟨t109, A140, H⟩ := H
     replace H : (if t109 = true then (some none) else (some (some 1))) = some r := H
     have A14 := c_.mk A140
     clear A140
     by_cases c15 : t109 = true
     ·subst c15
      have H1 : (some none) = some r := by first | (rw [if_pos rfl] at H; with_reducible exact H) | exact (if_pos rfl).symm.trans H | (simp only [if_true, eq_self_iff_true] at H ⊢; exact H)
      clear H
      have H := H1
      clear H1
      obtain rfl := Option.some.inj H
      go_enter Tryz.func30, Tryz.ntmps30
      go_wp2_with (first | ((with_reducible refine be_ (N := 1) rfl ?_); refine bd_ ?hg (N := 1) ?hd (cs := #[.int .i64 a0_0, .int .i64 a0_1, .int .i64 a0_2, .string a0_3, .string a0_4, .slice A0_5 l0_5.length c0_5, .int .i64 a0_6]) (t := 74) ?hr ?_; (case hd => rfl); (case hg => rfl); (case hr => first | (go_simp; done) | (go_simp; rfl)); intro gb108 hg w16 hbox hb; have n0_ := c_.mk (ac_ (HB.out) hb); have n1_ := c_.mk (hbox); have n2_ := c_.mk ((by rw [hg]; exact (v_ (HB.out)) : w.heap.size ≤ gb108)); have n3_ := c_.mk ((by rw [hg]; exact (v_ (HB.out)) : w.heap.size ≤ gb108)); clear HB; have HB := n0_; have BK108 := n1_; have GW108 := n2_; have GE108 := n3_; clear n0_ n1_ n2_ n3_; clear hb hbox hg; have hcz17_0 : w16.cell? ⟨gb108, 0, none⟩ = some (.int .i64 a0_0) := (b_ BK108.out 0).trans rfl; have hcz17_1 : w16.cell? ⟨gb108, 1, none⟩ = some (.int .i64 a0_1) := (b_ BK108.out 1).trans rfl; have hcz17_2 : w16.cell? ⟨gb108, 2, none⟩ = some (.int .i64 a0_2) := (b_ BK108.out 2).trans rfl; have hcz17_3 : w16.cell? ⟨gb108, 3, none⟩ = some (.string a0_3) := (b_ BK108.out 3).trans rfl; have hcz17_4 : w16.cell? ⟨gb108, 4, none⟩ = some (.string a0_4) := (b_ BK108.out 4).trans rfl; have hcz17_5 : w16.cell? ⟨gb108, 5, none⟩ = some (.slice A0_5 l0_5.length c0_5) := (b_ BK108.out 5).trans rfl; have hcz17_6 : w16.cell? ⟨gb108, 6, none⟩ = some (.int .i64 a0_6) := (b_ BK108.out 6).trans rfl; have hfz17_0 := a_ BK108.out 0; have hfz17_1 := a_ BK108.out 1; have hfz17_2 := a_ BK108.out 2; have hfz17_3 := a_ BK108.out 3; have hfz17_4 := a_ BK108.out 4; have hfz17_5 := a_ BK108.out 5; have hfz17_6 := a_ BK108.out 6) | (go_at_call 47; (with_reducible refine (ak_.calls k a0_2 a0_3 a0_4 _ _ l0_5 a0_6 true _ ?side1 ?side2 A14.out).mono ?_); (case side1 => repeat (first | exact (Kd.C_below HR0_5.out HB.out) | (with_reducible refine Kd.C_alloc ?_ _) | (with_reducible refine Kd.C_drewN ?_ _) | (with_reducible refine Kd.C_drew ?_))); (case side2 => exact HC0_5.out); rintro e w18 ⟨rfl, hb⟩; have n0_ := c_.mk (s_ (g := gb108) (o := .cells #[.int .i64 a0_0, .int .i64 a0_1, .int .i64 a0_2, .string a0_3, .string a0_4, .slice A0_5 l0_5.length c0_5, .int .i64 a0_6] 74 (0, 0)) (BK108.out) hb); have n1_ := c_.mk (ac_ (HB.out) hb); clear BK108; clear HB; have BK108 := n0_; have HB := n1_; clear n0_ n1_; (try clear hb); (try clear hb2); (try clear hk); (try clear hi)))
      go_ret
      exact ⟨by first | rfl | (simp [i_, g_] <;> rfl) | (simp [*, i_, g_] <;> rfl), HB.out⟩
     ·replace c15 := Bool.eq_false_iff.mpr c15
      subst c15
      have H1 : (some (some 1)) = some r := by rw [if_neg (show ¬ (false = true) by decide)] at H; exact H
      clear H
      have H := H1
      clear H1
      obtain rfl := Option.some.inj H
      go_enter Tryz.func30, Tryz.ntmps30
      go_wp2_with (first | ((with_reducible refine be_ (N := 1) rfl ?_); refine bd_ ?hg (N := 1) ?hd (cs := #[.int .i64 a0_0, .int .i64 a0_1, .int .i64 a0_2, .string a0_3, .string a0_4, .slice A0_5 l0_5.length c0_5, .int .i64 a0_6]) (t := 74) ?hr ?_; (case hd => rfl); (case hg => rfl); (case hr => first | (go_simp; done) | (go_simp; rfl)); intro gb108 hg w19 hbox hb; have n0_ := c_.mk (ac_ (HB.out) hb); have n1_ := c_.mk (hbox); have n2_ := c_.mk ((by rw [hg]; exact (v_ (HB.out)) : w.heap.size ≤ gb108)); have n3_ := c_.mk ((by rw [hg]; exact (v_ (HB.out)) : w.heap.size ≤ gb108)); clear HB; have HB := n0_; have BK108 := n1_; have GW108 := n2_; have GE108 := n3_; clear n0_ n1_ n2_ n3_; clear hb hbox hg; have hcz20_0 : w19.cell? ⟨gb108, 0, none⟩ = some (.int .i64 a0_0) := (b_ BK108.out 0).trans rfl; have hcz20_1 : w19.cell? ⟨gb108, 1, none⟩ = some (.int .i64 a0_1) := (b_ BK108.out 1).trans rfl; have hcz20_2 : w19.cell? ⟨gb108, 2, none⟩ = some (.int .i64 a0_2) := (b_ BK108.out 2).trans rfl; have hcz20_3 : w19.cell? ⟨gb108, 3, none⟩ = some (.string a0_3) := (b_ BK108.out 3).trans rfl; have hcz20_4 : w19.cell? ⟨gb108, 4, none⟩ = some (.string a0_4) := (b_ BK108.out 4).trans rfl; have hcz20_5 : w19.cell? ⟨gb108, 5, none⟩ = some (.slice A0_5 l0_5.length c0_5) := (b_ BK108.out 5).trans rfl; have hcz20_6 : w19.cell? ⟨gb108, 6, none⟩ = some (.int .i64 a0_6) := (b_ BK108.out 6).trans rfl; have hfz20_0 := a_ BK108.out 0; have hfz20_1 := a_ BK108.out 1; have hfz20_2 := a_ BK108.out 2; have hfz20_3 := a_ BK108.out 3; have hfz20_4 := a_ BK108.out 4; have hfz20_5 := a_ BK108.out 5; have hfz20_6 := a_ BK108.out 6) | (go_at_call 47; (with_reducible refine (ak_.calls k a0_2 a0_3 a0_4 _ _ l0_5 a0_6 false _ ?side1 ?side2 A14.out).mono ?_); (case side1 => repeat (first | exact (Kd.C_below HR0_5.out HB.out) | (with_reducible refine Kd.C_alloc ?_ _) | (with_reducible refine Kd.C_drewN ?_ _) | (with_reducible refine Kd.C_drew ?_))); (case side2 => exact HC0_5.out); rintro e w21 ⟨rfl, hb⟩; have n0_ := c_.mk (s_ (g := gb108) (o := .cells #[.int .i64 a0_0, .int .i64 a0_1, .int .i64 a0_2, .string a0_3, .string a0_4, .slice A0_5 l0_5.length c0_5, .int .i64 a0_6] 74 (0, 0)) (BK108.out) hb); have n1_ := c_.mk (ac_ (HB.out) hb); clear BK108; clear HB; have BK108 := n0_; have HB := n1_; clear n0_ n1_; (try clear hb); (try clear hb2); (try clear hk); (try clear hi)))
      go_ret
      exact ⟨by first | rfl | (simp [i_, g_] <;> rfl) | (simp [*, i_, g_] <;> rfl), HB.out⟩
mutual
def bc_.l0 : Nat → List Int → List Int → Int → Int → Int → Int → Int → ByteArray → ByteArray → List ByteArray → Int → Option (List Int × Option Int)
 | 0, _, _, _, _, _, _, _, _, _, _, _ => none
 | k + 1, x5, x25, x26, x27, x111000, x111001, x111002, x111003, x111004, x111005, x111006 => if x27 < x26 then (if 0 ≤ x27 then (if x27 < (x25.length : Int) then ((br_.f k x5 (IntKind.u64.wrap (rd x25 x27))).bind fun t117 => (bc_.l0 k t117 x25 x26 (wrap64 (x27 + 1)) x111000 x111001 x111002 x111003 x111004 x111005 x111006)) else (none)) else (none)) else ((cy_.f k x5 x111003).bind fun t120 => ((cy_.f k t120 x111004).bind fun t123 => ((br_.f k t123 (IntKind.u64.wrap ((x111005.length : Int)))).bind fun t126 => (bc_.l1 k t126 x111005 (x111005.length : Int) 0))))
def bc_.l1 : Nat → List Int → List ByteArray → Int → Int → Option (List Int × Option Int)
 | 0, _, _, _, _ => none
 | k + 1, x5, x53, x54, x55 => if x55 < x54 then (if 0 ≤ x55 then (if x55 < (x53.length : Int) then ((cy_.f k x5 (rdOf ByteArray.empty x53 x55)).bind fun t130 => (bc_.l1 k t130 x53 x54 (wrap64 (x55 + 1)))) else (none)) else (none)) else (some (x5, none))
end
def bc_.f (k : Nat) (a0_0 : Int) (a0_1 : Int) (a0_2 : Int) (a0_3 : ByteArray) (a0_4 : ByteArray) (l0_5 : List ByteArray) (a0_6 : Int) : Option (List Int × Option Int) := (dq_.f k a0_0 a0_1 a0_2 a0_3 a0_4 l0_5 a0_6).bind fun t111 => (if t111.isNone = true then ((some (([a0_0, a0_1, a0_2, a0_6] : List Int) : List Int)).bind fun y113 => (bc_.l0 k ([] : List Int) y113 (y113.length : Int) 0 a0_0 a0_1 a0_2 a0_3 a0_4 l0_5 a0_6)) else (some (([] : List Int), some (t111.getD 0))))
def bc_.T10 : Bool × List (List Nat × List Nat) := (true, [([], []), ([], []), ([1], [1]), ([2], [2]), ([0, 3], [0, 3]), ([], []), ([5], [5]), ([6], [6]), ([4, 7, 4], [4, 7]), ([], []), ([9], [9]), ([10], [10]), ([11], [11]), ([12], [12]), ([8, 13, 8], [8, 13]), ([14, 14, 0, 1, 2, 3, 4, 5, 6, 7, 8, 9, 10, 11, 12, 13, 14], [0, 14])])
def bc_.B10 : List Nat := [0, 0, 2, 6, 15, 0, 32, 96, 255, 0, 512, 1536, 3584, 7680, 16383, 32767]
theorem bc_.tab10 : rtab .any (opsOf Tryz.f19 10) = bc_.T10 := by kernel_rfl
theorem bc_.bits10 : waitsOk bc_.T10.2 bc_.B10 = true := by kernel_rfl
set_option maxHeartbeats 8000000 in
set_option maxRecDepth 100000 in
theorem bc_.calls (k : Nat) (a0_0 : Int) (a0_1 : Int) (a0_2 : Int) (a0_3 : ByteArray) (a0_4 : ByteArray) (A0_5 : Option Addr) (c0_5 : Nat) (l0_5 : List ByteArray) (a0_6 : Int) (r1 : List Int) (r2 : Option Int) (w : World) (hr0_5 : Kd.C Kd.string w A0_5 l0_5.length l0_5) (hc0_5 : l0_5.length ≤ c0_5) (h : bc_.f k a0_0 a0_1 a0_2 a0_3 a0_4 l0_5 a0_6 = some (r1, r2)) :
  Calls Tryz.prog 19 #[.agg #[.int .i64 a0_0, .int .i64 a0_1, .int .i64 a0_2, .string a0_3, .string a0_4, .slice A0_5 l0_5.length c0_5, .int .i64 a0_6]] w fun e w' => ∃ v0_ : Value, e = .returned (.tuple #[v0_, errW r2]) ∧ Kd.R (Kd.int .u8) 5 w' w.heap.size (fun _ => True) v0_ r1 ∧ Below w.heap.size w w' := by
 have hu74 := Tryz.underlying74
 have hu26 := Tryz.underlying26
 have hu29 := Tryz.underlying29
 have HR0_5 := c_.mk hr0_5
 have HC0_5 := c_.mk hc0_5
 clear hr0_5 hc0_5
 have HB := c_.mk (Below.refl w.heap.size w)
 have H : ((dq_.f k a0_0 a0_1 a0_2 a0_3 a0_4 l0_5 a0_6).bind fun t111 => (if t111.isNone = true then ((some (([a0_0, a0_1, a0_2, a0_6] : List Int) : List Int)).bind fun y113 => (bc_.l0 k ([] : List Int) y113 (y113.length : Int) 0 a0_0 a0_1 a0_2 a0_3 a0_4 l0_5 a0_6)) else (some (([] : List Int), some (t111.getD 0))))) = some (r1, r2) := h
 clear h
 replace H := Option.bind_eq_some_iff.mp H
 obtain ⟨t111, A20, H⟩ := H
 replace H : (if t111.isNone = true then ((some (([a0_0, a0_1, a0_2, a0_6] : List Int) : List Int)).bind fun y113 => (bc_.l0 k ([] : List Int) y113 (y113.length : Int) 0 a0_0 a0_1 a0_2 a0_3 a0_4 l0_5 a0_6)) else (some (([] : List Int), some (t111.getD 0)))) = some (r1, r2) := H
 have A2 := c_.mk A20
 clear A20
 rcases t111 with _ | q112
 ·have H1 : ((some (([a0_0, a0_1, a0_2, a0_6] : List Int) : List Int)).bind fun y113 => (bc_.l0 k ([] : List Int) y113 (y113.length : Int) 0 a0_0 a0_1 a0_2 a0_3 a0_4 l0_5 a0_6)) = some (r1, r2) := by rw [if_pos (show (none : Option Int).isNone = true by rfl)] at H; exact H
  clear H
  have H := H1
  clear H1
  try simp only [i_, g_]
  obtain ⟨y113, hy113⟩ : ∃ y_ : List Int, y_ = (([a0_0, a0_1, a0_2, a0_6] : List Int)) := ⟨_, rfl⟩
  replace H : (bc_.l0 k ([] : List Int) y113 (y113.length : Int) 0 a0_0 a0_1 a0_2 a0_3 a0_4 l0_5 a0_6) = some (r1, r2) := by first | (rw [hy113]; with_reducible exact H) | (have H2_ := (Option.bind_some _ _).symm.trans H; rw [hy113]; with_reducible exact H2_) | (have H2_ := (Option.bind_some _ _).symm.trans H; with_reducible exact H2_) | with_reducible exact H | (rw [hy113]; exact H) | exact H
  have Ny113 := c_.mk hy113
  clear hy113
  have H' := c_.mk H
  clear H
  go_enter Tryz.func19, Tryz.ntmps19
  go_wp2_with (first | ((with_reducible refine be_ (N := 1) rfl ?_); refine bd_ ?hg (N := 1) ?hd (cs := #[.int .i64 a0_0, .int .i64 a0_1, .int .i64 a0_2, .string a0_3, .string a0_4, .slice A0_5 l0_5.length c0_5, .int .i64 a0_6]) (t := 74) ?hr ?_; (case hd => rfl); (case hg => rfl); (case hr => first | (go_simp; done) | (go_simp; rfl)); intro gb110 hg w3 hbox hb; have n0_ := c_.mk (ac_ (HB.out) hb); have n1_ := c_.mk (hbox); have n2_ := c_.mk ((by rw [hg]; exact (v_ (HB.out)) : w.heap.size ≤ gb110)); have n3_ := c_.mk ((by rw [hg]; exact (v_ (HB.out)) : w.heap.size ≤ gb110)); clear HB; have HB := n0_; have BK110 := n1_; have GW110 := n2_; have GE110 := n3_; clear n0_ n1_ n2_ n3_; clear hb hbox hg; have hcz4_0 : w3.cell? ⟨gb110, 0, none⟩ = some (.int .i64 a0_0) := (b_ BK110.out 0).trans rfl; have hcz4_1 : w3.cell? ⟨gb110, 1, none⟩ = some (.int .i64 a0_1) := (b_ BK110.out 1).trans rfl; have hcz4_2 : w3.cell? ⟨gb110, 2, none⟩ = some (.int .i64 a0_2) := (b_ BK110.out 2).trans rfl; have hcz4_3 : w3.cell? ⟨gb110, 3, none⟩ = some (.string a0_3) := (b_ BK110.out 3).trans rfl; have hcz4_4 : w3.cell? ⟨gb110, 4, none⟩ = some (.string a0_4) := (b_ BK110.out 4).trans rfl; have hcz4_5 : w3.cell? ⟨gb110, 5, none⟩ = some (.slice A0_5 l0_5.length c0_5) := (b_ BK110.out 5).trans rfl; have hcz4_6 : w3.cell? ⟨gb110, 6, none⟩ = some (.int .i64 a0_6) := (b_ BK110.out 6).trans rfl; have hfz4_0 := a_ BK110.out 0; have hfz4_1 := a_ BK110.out 1; have hfz4_2 := a_ BK110.out 2; have hfz4_3 := a_ BK110.out 3; have hfz4_4 := a_ BK110.out 4; have hfz4_5 := a_ BK110.out 5; have hfz4_6 := a_ BK110.out 6) | ((with_reducible refine ah_ (f := 30) rfl ?_); refine bm_ (some 11) rfl rfl Tryz.func30 (by kernel_rfl) rfl #[.agg #[.int .i64 a0_0, .int .i64 a0_1, .int .i64 a0_2, .string a0_3, .string a0_4, .slice A0_5 l0_5.length c0_5, .int .i64 a0_6]] rfl (by (try simp only [List.map_toArray, List.map_cons, List.map_nil]); first | done | rfl | (simp only [List.length_drop, List.length_take]; rfl)) ?_; (with_reducible refine (dq_.calls k a0_0 a0_1 a0_2 a0_3 a0_4 _ _ l0_5 a0_6 none _ ?side1 ?side2 A2.out).mono ?_); (case side1 => repeat (first | exact (Kd.C_below HR0_5.out HB.out) | (with_reducible refine Kd.C_alloc ?_ _) | (with_reducible refine Kd.C_drewN ?_ _) | (with_reducible refine Kd.C_drew ?_))); (case side2 => exact HC0_5.out); rintro e w5 ⟨rfl, hb⟩; refine ⟨_, rfl, ?_⟩; have n0_ := c_.mk (s_ (g := gb110) (o := .cells #[.int .i64 a0_0, .int .i64 a0_1, .int .i64 a0_2, .string a0_3, .string a0_4, .slice A0_5 l0_5.length c0_5, .int .i64 a0_6] 74 (0, 0)) (BK110.out) hb); have n1_ := c_.mk (ac_ (HB.out) hb); clear BK110; clear HB; have BK110 := n0_; have HB := n1_; clear n0_ n1_; (try clear hb); (try clear hb2); (try clear hk); (try clear hi); (try simp only [i_, g_]); have hcz6_0 : w5.cell? ⟨gb110, 0, none⟩ = some (.int .i64 a0_0) := (b_ BK110.out 0).trans rfl; have hcz6_1 : w5.cell? ⟨gb110, 1, none⟩ = some (.int .i64 a0_1) := (b_ BK110.out 1).trans rfl; have hcz6_2 : w5.cell? ⟨gb110, 2, none⟩ = some (.int .i64 a0_2) := (b_ BK110.out 2).trans rfl; have hcz6_3 : w5.cell? ⟨gb110, 3, none⟩ = some (.string a0_3) := (b_ BK110.out 3).trans rfl; have hcz6_4 : w5.cell? ⟨gb110, 4, none⟩ = some (.string a0_4) := (b_ BK110.out 4).trans rfl; have hcz6_5 : w5.cell? ⟨gb110, 5, none⟩ = some (.slice A0_5 l0_5.length c0_5) := (b_ BK110.out 5).trans rfl; have hcz6_6 : w5.cell? ⟨gb110, 6, none⟩ = some (.int .i64 a0_6) := (b_ BK110.out 6).trans rfl; have hfz6_0 := a_ BK110.out 0; have hfz6_1 := a_ BK110.out 1; have hfz6_2 := a_ BK110.out 2; have hfz6_3 := a_ BK110.out 3; have hfz6_4 := a_ BK110.out 4; have hfz6_5 := a_ BK110.out 5; have hfz6_6 := a_ BK110.out 6) | ((with_reducible refine be_ (N := 25) rfl ?_); refine Kd.R_lit (Kd.int .i64) _ 3 ?hg (N := 25) ?hd (xs := ([a0_0, a0_1, a0_2, a0_6] : List Int)) (inner := [.int .i64 a0_0, .int .i64 a0_1, .int .i64 a0_2, .int .i64 a0_6]) (ok := fun _ => True) (okp := fun _ => True) ?hr ?hp (fun _ hk => hk) trivial (Below.refl _ _) (Nat.le_refl _) (by simp) ?_; (case hd => rfl); (case hg => rfl); (case hr => first | (go_simp; done) | (go_simp; rfl)); (case hp => exact (dh_.one (show Kd.M (Kd.int .i64) _ _ _ a0_0 [.int .i64 a0_0] from rfl) (dh_.one (show Kd.M (Kd.int .i64) _ _ _ a0_1 [.int .i64 a0_1] from rfl) (dh_.one (show Kd.M (Kd.int .i64) _ _ _ a0_2 [.int .i64 a0_2] from rfl) (dh_.one (show Kd.M (Kd.int .i64) _ _ _ a0_6 [.int .i64 a0_6] from rfl) (dh_.none _ _)))))); intro v114 w7 ho8 hb hg_ hnew_; clear hg_ hnew_; (first | rw [← Ny113.out] at ho8 | (simp only [Int.reduceToNat] at ho8; rw [← Ny113.out] at ho8)); have n0_ := c_.mk (Kd.R_lower ho8 (v_ (HB.out))); have n1_ := c_.mk (s_ (g := gb110) (o := .cells #[.int .i64 a0_0, .int .i64 a0_1, .int .i64 a0_2, .string a0_3, .string a0_4, .slice A0_5 l0_5.length c0_5, .int .i64 a0_6] 74 (0, 0)) (BK110.out) hb); have n2_ := c_.mk (ac_ (HB.out) hb); clear BK110; clear HB; have HO115 := n0_; have BK110 := n1_; have HB := n2_; clear n0_ n1_ n2_; clear hb ho8; obtain ⟨Ao9, co9, eo9⟩ := Kd.R_slice HO115.out; subst eo9))
  go_loopg [5, 27] k (fun kq v5 v27 w' => ∃ (x5_1 : List Int) (x27_1 : Int), v27 = .int .i64 x27_1 ∧ c_ (bc_.l0 kq x5_1 y113 (y113.length : Int) x27_1 a0_0 a0_1 a0_2 a0_3 a0_4 l0_5 a0_6 = some (r1, r2)) ∧ c_ (kq ≤ k) ∧ c_ (Kd.R (Kd.int .u8) 5 w' w.heap.size (fun _ => True) v5 x5_1) ∧ c_ (Kd.R (Kd.int .i64) 3 w' w.heap.size (fun _ => True) (.slice Ao9 y113.length co9) y113) ∧ c_ (w'.heap[gb110]? = some (.cells #[.int .i64 a0_0, .int .i64 a0_1, .int .i64 a0_2, .string a0_3, .string a0_4, (.slice A0_5 l0_5.length c0_5), .int .i64 a0_6] 74 (0, 0))) ∧ c_ (Below w.heap.size w w'))
  case atStart => exact ⟨(([] : List Int)), (0), (by first | rfl | (simp; done) | (simp [*]; done)), H', ⟨Nat.le_refl _⟩, ⟨by first | exact Kd.R_nil _ _ _ _ _ | exact Kd.N_nil _ _ _ _ _ | exact Kd.V_nil _ _ _ _ _ | exact Kd.Q_nil _ _ _ _ _ | exact Kd.S_nil _ _ _ _ _⟩, ⟨HO115.out⟩, ⟨BK110.out⟩, ⟨HB.out⟩⟩
  case round =>
   clear H'
   try clear c1
   try clear q1
   try clear p2
   try clear c3
   try clear hcz4_0
   try clear hcz4_1
   try clear hcz4_2
   try clear hcz4_3
   try clear hcz4_4
   try clear hcz4_5
   try clear hcz4_6
   try clear hcz6_0
   try clear hcz6_1
   try clear hcz6_2
   try clear hcz6_3
   try clear hcz6_4
   try clear hcz6_5
   try clear hcz6_6
   try clear hfz4_0
   try clear hfz4_1
   try clear hfz4_2
   try clear hfz4_3
   try clear hfz4_4
   try clear hfz4_5
   try clear hfz4_6
   try clear hfz6_0
   try clear hfz6_1
   try clear hfz6_2
   try clear hfz6_3
   try clear hfz6_4
   try clear hfz6_5
   try clear hfz6_6
   try clear q112
   obtain ⟨x5_1, x27_1, rfl, HA, HK1, HO_5, HO_25, BK110, HB⟩ := hrel
   cases gk with
   | zero => exact absurd HA.out (by simp [bc_.l0])
   | succ k1 =>
    have H := HA.out
    clear HA
    simp only [bc_.l0] at H
    by_cases c10 : x27_1 < (y113.length : Int)
    ·rw [if_pos c10] at H
     have c10b0 : decide (x27_1 < (y113.length : Int)) = true := decide_eq_true c10
     clear c10
     by_cases c11 : 0 ≤ x27_1
     ·rw [if_pos c11] at H
      have c11b0 : decide (0 ≤ x27_1) = true := decide_eq_true c11
      clear c11
      by_cases c12 : x27_1 < (y113.length : Int)
      ·rw [if_pos c12] at H
       have c12b0 : decide (x27_1 < (y113.length : Int)) = true := decide_eq_true c12
       clear c12
       replace H := Option.bind_eq_some_iff.mp H
       obtain ⟨t117, A130, H⟩ := H
       replace H : (bc_.l0 k1 t117 y113 (y113.length : Int) (wrap64 (x27_1 + 1)) a0_0 a0_1 a0_2 a0_3 a0_4 l0_5 a0_6) = some (r1, r2) := H
       have A13 := c_.mk A130
       clear A130
       have H' := c_.mk H
       clear H
       have p116 : 0 ≤ (x27_1 : Int) := of_decide_eq_true (by first | (with_reducible assumption) | assumption)
       have q116 : x27_1 < (y113.length : Int) := of_decide_eq_true (by first | (with_reducible assumption) | assumption)
       obtain ⟨ad116, e116, hx116_0⟩ := Kd.at_int (Kd.R_reads' HO_25.out).2.2 x27_1 p116 q116
       cases e116
       replace p116 := eq_true p116
       replace q116 := eq_true q116
       obtain ⟨Ao14, co14, eo14⟩ := Kd.R_slice HO_5.out
       subst eo14
       go_wp2_with (first | ((with_reducible refine ah_ (f := 31) rfl ?_); refine bm_ (some 34) rfl rfl Tryz.func31 (by kernel_rfl) rfl #[.slice Ao14 x5_1.length co14, .int .u64 (IntKind.u64.wrap (rd y113 x27_1))] rfl (by (try simp only [List.map_toArray, List.map_cons, List.map_nil]); first | done | rfl | (simp only [List.length_drop, List.length_take]; rfl)) ?_; (with_reducible refine (br_.calls k1 _ _ x5_1 (IntKind.u64.wrap (rd y113 x27_1)) t117 _ ?side1 ?side2 A13.out).mono ?_); (case side1 => repeat (first | exact (Kd.R_reads' HO_5.out).2.2 | (with_reducible refine Kd.C_alloc ?_ _) | (with_reducible refine Kd.C_drewN ?_ _) | (with_reducible refine Kd.C_drew ?_))); (case side2 => exact (Kd.R_reads' HO_5.out).2.1); rintro e w15 ⟨v118, rfl, ho0, hb⟩; refine ⟨_, rfl, ?_⟩; have n0_ := c_.mk (Kd.R_elder' (HO_5.out) (Kd.R_base ho0) hb); have n1_ := c_.mk (Kd.R_below (HO_25.out) hb); have n2_ := c_.mk (Kd.R_lower (Kd.R_new' ho0 (Kd.R_lt (HO_5.out))) (v_ (HB.out))); have n3_ := c_.mk (s_ (g := gb110) (o := .cells #[.int .i64 a0_0, .int .i64 a0_1, .int .i64 a0_2, .string a0_3, .string a0_4, .slice A0_5 l0_5.length c0_5, .int .i64 a0_6] 74 (0, 0)) (BK110.out) hb); have n4_ := c_.mk (ac_ (HB.out) hb); clear HO_5; clear HO_25; clear BK110; clear HB; have HO_5 := n0_; have HO_25 := n1_; have HO119 := n2_; have BK110 := n3_; have HB := n4_; clear n0_ n1_ n2_ n3_ n4_; (try clear hb); (try clear hb2); (try clear hk); (try clear hi); (try clear ho0)))
       go_roundg k1
       case measure => have := HK1.out; omega
       case rel => exact ⟨(t117), (wrap64 (x27_1 + 1)), (by first | rfl | (simp; done) | (simp [*]; done)), H', ⟨by have := HK1.out; omega⟩, ⟨Kd.R_mono HO119.out (fun _ hk => trivial)⟩, ⟨HO_25.out⟩, ⟨BK110.out⟩, ⟨HB.out⟩⟩
      ·rw [if_neg c12] at H
       exact absurd H (by simp)
     ·rw [if_neg c11] at H
      exact absurd H (by simp)
    ·rw [if_neg c10] at H
     have c10b0 : decide (x27_1 < (y113.length : Int)) = false := decide_eq_false c10
     clear c10
     replace H := Option.bind_eq_some_iff.mp H
     obtain ⟨t120, A160, H⟩ := H
     replace H : ((cy_.f k1 t120 a0_4).bind fun t123 => ((br_.f k1 t123 (IntKind.u64.wrap ((l0_5.length : Int)))).bind fun t126 => (bc_.l1 k1 t126 l0_5 (l0_5.length : Int) 0))) = some (r1, r2) := H
     have A16 := c_.mk A160
     clear A160
     replace H := Option.bind_eq_some_iff.mp H
     obtain ⟨t123, A170, H⟩ := H
     replace H : ((br_.f k1 t123 (IntKind.u64.wrap ((l0_5.length : Int)))).bind fun t126 => (bc_.l1 k1 t126 l0_5 (l0_5.length : Int) 0)) = some (r1, r2) := H
     have A17 := c_.mk A170
     clear A170
     replace H := Option.bind_eq_some_iff.mp H
     obtain ⟨t126, A180, H⟩ := H
     replace H : (bc_.l1 k1 t126 l0_5 (l0_5.length : Int) 0) = some (r1, r2) := H
     have A18 := c_.mk A180
     clear A180
     have H' := c_.mk H
     clear H
     try go_wp2
     have n0_ := c_.mk (Kd.R_drew HO_5.out)
     have n1_ := c_.mk (Kd.R_drew HO_25.out)
     have n2_ := c_.mk (o_ BK110.out)
     have n3_ := c_.mk (m_ HB.out)
     clear HO_5
     clear HO_25
     clear BK110
     clear HB
     have HO_5 := n0_
     have HO_25 := n1_
     have BK110 := n2_
     have HB := n3_
     clear n0_ n1_ n2_ n3_
     obtain ⟨Ao20, co20, eo20⟩ := Kd.R_slice HO_5.out
     (first | subst eo20 | (injection eo20 with f1_ f2_ f3_; have f4_ := f1_.symm; have f5_ := f3_.symm; clear f1_ f2_ f3_; subst f4_; subst f5_))
     refine start_ (n := 16) (S := fun w' => w'.cell? ⟨gb110, 0, none⟩ = some (.int .i64 a0_0) ∧ w'.cell? ⟨gb110, 1, none⟩ = some (.int .i64 a0_1) ∧ w'.cell? ⟨gb110, 2, none⟩ = some (.int .i64 a0_2) ∧ w'.cell? ⟨gb110, 3, none⟩ = some (.string a0_3) ∧ w'.cell? ⟨gb110, 4, none⟩ = some (.string a0_4) ∧ w'.cell? ⟨gb110, 5, none⟩ = some (.slice A0_5 l0_5.length c0_5) ∧ w'.cell? ⟨gb110, 6, none⟩ = some (.int .i64 a0_6)) (ds := []) #[F_, F_, F_, F_, F_, F_, F_, F_, F_, F_, F_, F_, F_, F_, F_, F_] (by kernel_rfl) rfl rfl ⟨(b_ BK110.out 0).trans rfl, (b_ BK110.out 1).trans rfl, (b_ BK110.out 2).trans rfl, (b_ BK110.out 3).trans rfl, (b_ BK110.out 4).trans rfl, (b_ BK110.out 5).trans rfl, (b_ BK110.out 6).trans rfl⟩ (fun hHeld => ?_); refine with_tabW bc_.tab10 bc_.bits10 (fun HT_ HW_ => ?_)
     generalize wr.drew = w19 at HO_5 HO_25 BK110 HB hHeld ⊢
     refine ay_ (i := 0) (N := some 36) (v := ?_) (a' := ?_) #[T_, F_, F_, F_, F_, F_, F_, F_, F_, F_, F_, F_, F_, F_, F_, F_] rfl rfl (cb_ HT_.out (by kernel_rfl)) (fun _ _ _ h => h) (Or.inl ⟨by rfl, ?_⟩) ?_ ?_
     rotate_left
     ·intro w'
      go_simp
      with_reducible rfl
     rotate_left
     ·simp only [Act.put, sA_, sB_, sC_, af_, ag_]
      rfl
     refine ay_ (i := 1) (N := some 37) (v := ?_) (a' := ?_) #[T_, T_, F_, F_, F_, F_, F_, F_, F_, F_, F_, F_, F_, F_, F_, F_] rfl rfl (cb_ HT_.out (by kernel_rfl)) (fun _ _ _ h => h) (Or.inl ⟨by rfl, ?_⟩) ?_ ?_
     rotate_left
     ·intro w'
      go_simp
      with_reducible rfl
     rotate_left
     ·simp only [Act.put, sA_, sB_, sC_, af_, ag_]
      rfl
     refine ay_ (i := 2) (N := some 38) (v := ?_) (a' := ?_) #[T_, T_, T_, F_, F_, F_, F_, F_, F_, F_, F_, F_, F_, F_, F_, F_] rfl rfl (cb_ HT_.out (by kernel_rfl)) (fun _ _ _ h => h) (Or.inl ⟨by rfl, ?_⟩) ?_ ?_
     rotate_left
     ·intro w'
      go_simp
      with_reducible rfl
     rotate_left
     ·simp only [Act.put, sA_, sB_, sC_, af_, ag_]
      rfl
     refine ay_ (i := 5) (N := some 41) (v := ?_) (a' := ?_) #[T_, T_, T_, F_, F_, T_, F_, F_, F_, F_, F_, F_, F_, F_, F_, F_] rfl rfl (cb_ HT_.out (by kernel_rfl)) (fun _ _ _ h => h) (Or.inl ⟨by rfl, ?_⟩) ?_ ?_
     rotate_left
     ·intro w'
      go_simp
      with_reducible rfl
     rotate_left
     ·simp only [Act.put, sA_, sB_, sC_, af_, ag_]
      rfl
     refine ay_ (i := 6) (N := some 42) (v := ?_) (a' := ?_) #[T_, T_, T_, F_, F_, T_, T_, F_, F_, F_, F_, F_, F_, F_, F_, F_] rfl rfl (cb_ HT_.out (by kernel_rfl)) (fun _ _ _ h => h) (Or.inl ⟨by rfl, ?_⟩) ?_ ?_
     rotate_left
     ·intro w'
      go_simp
      with_reducible rfl
     rotate_left
     ·simp only [Act.put, sA_, sB_, sC_, af_, ag_]
      rfl
     refine ay_ (i := 9) (N := some 45) (v := ?_) (a' := ?_) #[T_, T_, T_, F_, F_, T_, T_, F_, F_, T_, F_, F_, F_, F_, F_, F_] rfl rfl (cb_ HT_.out (by kernel_rfl)) (fun _ _ _ h => h) (Or.inl ⟨by rfl, ?_⟩) ?_ ?_
     rotate_left
     ·intro w'
      go_simp
      with_reducible rfl
     rotate_left
     ·simp only [Act.put, sA_, sB_, sC_, af_, ag_]
      rfl
     refine ay_ (i := 10) (N := some 46) (v := ?_) (a' := ?_) #[T_, T_, T_, F_, F_, T_, T_, F_, F_, T_, T_, F_, F_, F_, F_, F_] rfl rfl (cb_ HT_.out (by kernel_rfl)) (fun _ _ _ h => h) (Or.inl ⟨by rfl, ?_⟩) ?_ ?_
     rotate_left
     ·intro w'
      go_simp
      with_reducible rfl
     rotate_left
     ·simp only [Act.put, sA_, sB_, sC_, af_, ag_]
      rfl
     refine take_ (i := 3) (N := some 39) (v := ?_) (a' := ?_) #[T_, T_, T_, T_, F_, T_, T_, F_, F_, T_, T_, F_, F_, F_, F_, F_] rfl rfl (take_ofW HT_.out HW_.out (by kernel_rfl)) (fun _ _ _ h => h) (Or.inl ⟨by rfl, ?_⟩) hHeld ?_ ?_
     rotate_left
     ·rintro w' ⟨s0, s1, s2, s3, s4, s5, s6⟩
      go_simp
      with_reducible rfl
     rotate_left
     ·simp only [Act.put, sA_, sB_, sC_, af_, ag_]
      rfl
     refine take_ (i := 7) (N := some 43) (v := ?_) (a' := ?_) #[T_, T_, T_, T_, F_, T_, T_, T_, F_, T_, T_, F_, F_, F_, F_, F_] rfl rfl (take_ofW HT_.out HW_.out (by kernel_rfl)) (fun _ _ _ h => h) (Or.inl ⟨by rfl, ?_⟩) hHeld ?_ ?_
     rotate_left
     ·rintro w' ⟨s0, s1, s2, s3, s4, s5, s6⟩
      go_simp
      with_reducible rfl
     rotate_left
     ·simp only [Act.put, sA_, sB_, sC_, af_, ag_]
      rfl
     refine take_ (i := 11) (N := some 47) (v := ?_) (a' := ?_) #[T_, T_, T_, T_, F_, T_, T_, T_, F_, T_, T_, T_, F_, F_, F_, F_] rfl rfl (take_ofW HT_.out HW_.out (by kernel_rfl)) (fun _ _ _ h => h) (Or.inl ⟨by rfl, ?_⟩) hHeld ?_ ?_
     rotate_left
     ·rintro w' ⟨s0, s1, s2, s3, s4, s5, s6⟩
      go_simp
      with_reducible rfl
     rotate_left
     ·simp only [Act.put, sA_, sB_, sC_, af_, ag_]
      rfl
     refine ay_ (i := 12) (N := some 48) (v := ?_) (a' := ?_) #[T_, T_, T_, T_, F_, T_, T_, T_, F_, T_, T_, T_, T_, F_, F_, F_] rfl rfl (cb_ HT_.out (by kernel_rfl)) (fun _ _ _ h => h) (Or.inl ⟨by rfl, ?_⟩) ?_ ?_
     rotate_left
     ·intro w'
      go_simp
      with_reducible rfl
     rotate_left
     ·simp only [Act.put, sA_, sB_, sC_, af_, ag_]
      rfl
     refine ay_ (i := 13) (N := some 49) (v := ?_) (a' := ?_) #[T_, T_, T_, T_, F_, T_, T_, T_, F_, T_, T_, T_, T_, T_, F_, F_] rfl rfl (cb_ HT_.out (by kernel_rfl)) (fun _ _ _ h => h) (Or.inl ⟨by rfl, ?_⟩) ?_ ?_
     rotate_left
     ·intro w'
      go_simp
      with_reducible rfl
     rotate_left
     ·simp only [Act.put, sA_, sB_, sC_, af_, ag_]
      rfl
     refine one_ (i := 4) (N := some 40) #[T_, T_, T_, T_, T_, T_, T_, T_, F_, T_, T_, T_, T_, T_, F_, F_] rfl rfl (one_of HT_.out (by kernel_rfl)) (by decide) (fun K hK => ?_)
     refine goes_ Tryz.func32 (by kernel_rfl) rfl #[.slice Ao20 x5_1.length co20, .string a0_3] (by rfl) rfl rfl (by (try simp only [List.map_toArray, List.map_cons, List.map_nil]); first | done | rfl | (simp only [List.length_drop, List.length_take]; rfl)) ?_
     with_reducible refine (cy_.calls k1 _ _ x5_1 a0_3 t120 _ ?side1 ?side2 A16.out).mono ?_
     (case side1 => repeat (first | exact (Kd.R_reads' HO_5.out).2.2 | (with_reducible refine Kd.C_alloc ?_ _) | (with_reducible refine Kd.C_drewN ?_ _) | (with_reducible refine Kd.C_drew ?_)))
     (case side2 => exact (Kd.R_reads' HO_5.out).2.1)
     rintro e w21 ⟨v121, rfl, ho0, hb⟩
     refine ⟨_, rfl, ?_⟩
     have n0_ := c_.mk (Kd.R_elder' (HO_5.out) (Kd.R_base ho0) hb)
     have n1_ := c_.mk (Kd.R_below (HO_25.out) hb)
     have n2_ := c_.mk (Kd.R_lower (Kd.R_new' ho0 (Kd.R_lt (HO_5.out))) (v_ (HB.out)))
     have n3_ := c_.mk (s_ (g := gb110) (o := .cells #[.int .i64 a0_0, .int .i64 a0_1, .int .i64 a0_2, .string a0_3, .string a0_4, .slice A0_5 l0_5.length c0_5, .int .i64 a0_6] 74 (0, 0)) (BK110.out) hb)
     have n4_ := c_.mk (ac_ (HB.out) hb)
     clear HO_5
     clear HO_25
     clear BK110
     clear HB
     have HO_5 := n0_
     have HO_25 := n1_
     have HO122 := n2_
     have BK110 := n3_
     have HB := n4_
     clear n0_ n1_ n2_ n3_ n4_
     (try clear hb)
     (try clear hb2)
     (try clear hk)
     (try clear hi)
     (try clear ho0)
     obtain ⟨Ao22, co22, eo22⟩ := Kd.R_slice HO122.out
     (first | subst eo22 | (injection eo22 with f1_ f2_ f3_; have f4_ := f1_.symm; have f5_ := f3_.symm; clear f1_ f2_ f3_; subst f4_; subst f5_))
     refine hK.out _ _ ⟨(b_ BK110.out 0).trans rfl, (b_ BK110.out 1).trans rfl, (b_ BK110.out 2).trans rfl, (b_ BK110.out 3).trans rfl, (b_ BK110.out 4).trans rfl, (b_ BK110.out 5).trans rfl, (b_ BK110.out 6).trans rfl⟩ (fun hHeld => ?_)
     clear hK K
     refine norm_ (a' := ?_) ?_ ?_
     rotate_left
     ·show Act.put _ (some 40) _ = _
      simp only [Act.put, sA_, sB_, sC_, af_, ag_]
      rfl
     refine one_ (i := 8) (N := some 44) #[T_, T_, T_, T_, T_, T_, T_, T_, T_, T_, T_, T_, T_, T_, F_, F_] rfl rfl (one_of HT_.out (by kernel_rfl)) (by decide) (fun K hK => ?_)
     refine goes_ Tryz.func32 (by kernel_rfl) rfl #[.slice Ao22 t120.length co22, .string a0_4] (by rfl) rfl rfl (by (try simp only [List.map_toArray, List.map_cons, List.map_nil]); first | done | rfl | (simp only [List.length_drop, List.length_take]; rfl)) ?_
     with_reducible refine (cy_.calls k1 _ _ t120 a0_4 t123 _ ?side1 ?side2 A17.out).mono ?_
     (case side1 => repeat (first | exact (Kd.R_reads' HO122.out).2.2 | (with_reducible refine Kd.C_alloc ?_ _) | (with_reducible refine Kd.C_drewN ?_ _) | (with_reducible refine Kd.C_drew ?_)))
     (case side2 => exact (Kd.R_reads' HO122.out).2.1)
     rintro e w23 ⟨v124, rfl, ho0, hb⟩
     refine ⟨_, rfl, ?_⟩
     have n0_ := c_.mk (Kd.R_elder' (HO_5.out) (Kd.R_base ho0) hb)
     have n1_ := c_.mk (Kd.R_below (HO_25.out) hb)
     have n2_ := c_.mk (Kd.R_elder' (HO122.out) (Kd.R_base ho0) hb)
     have n3_ := c_.mk (Kd.R_lower (Kd.R_new' (Kd.R_new' ho0 (Kd.R_lt (HO_5.out))) (Kd.R_lt (HO122.out))) (v_ (HB.out)))
     have n4_ := c_.mk (s_ (g := gb110) (o := .cells #[.int .i64 a0_0, .int .i64 a0_1, .int .i64 a0_2, .string a0_3, .string a0_4, .slice A0_5 l0_5.length c0_5, .int .i64 a0_6] 74 (0, 0)) (BK110.out) hb)
     have n5_ := c_.mk (ac_ (HB.out) hb)
     clear HO_5
     clear HO_25
     clear HO122
     clear BK110
     clear HB
     have HO_5 := n0_
     have HO_25 := n1_
     have HO122 := n2_
     have HO125 := n3_
     have BK110 := n4_
     have HB := n5_
     clear n0_ n1_ n2_ n3_ n4_ n5_
     (try clear hb)
     (try clear hb2)
     (try clear hk)
     (try clear hi)
     (try clear ho0)
     obtain ⟨Ao24, co24, eo24⟩ := Kd.R_slice HO125.out
     (first | subst eo24 | (injection eo24 with f1_ f2_ f3_; have f4_ := f1_.symm; have f5_ := f3_.symm; clear f1_ f2_ f3_; subst f4_; subst f5_))
     refine hK.out _ _ ⟨(b_ BK110.out 0).trans rfl, (b_ BK110.out 1).trans rfl, (b_ BK110.out 2).trans rfl, (b_ BK110.out 3).trans rfl, (b_ BK110.out 4).trans rfl, (b_ BK110.out 5).trans rfl, (b_ BK110.out 6).trans rfl⟩ (fun hHeld => ?_)
     clear hK K
     refine norm_ (a' := ?_) ?_ ?_
     rotate_left
     ·show Act.put _ (some 44) _ = _
      simp only [Act.put, sA_, sB_, sC_, af_, ag_]
      rfl
     refine one_ (i := 14) (N := some 50) #[T_, T_, T_, T_, T_, T_, T_, T_, T_, T_, T_, T_, T_, T_, T_, F_] rfl rfl (one_of HT_.out (by kernel_rfl)) (by decide) (fun K hK => ?_)
     refine goes_ Tryz.func31 (by kernel_rfl) rfl #[.slice Ao24 t123.length co24, .int .u64 (IntKind.u64.wrap ((l0_5.length : Int)))] (by rfl) rfl rfl (by (try simp only [List.map_toArray, List.map_cons, List.map_nil]); first | done | rfl | (simp only [List.length_drop, List.length_take]; rfl)) ?_
     with_reducible refine (br_.calls k1 _ _ t123 (IntKind.u64.wrap ((l0_5.length : Int))) t126 _ ?side1 ?side2 A18.out).mono ?_
     (case side1 => repeat (first | exact (Kd.R_reads' HO125.out).2.2 | (with_reducible refine Kd.C_alloc ?_ _) | (with_reducible refine Kd.C_drewN ?_ _) | (with_reducible refine Kd.C_drew ?_)))
     (case side2 => exact (Kd.R_reads' HO125.out).2.1)
     rintro e w25 ⟨v127, rfl, ho0, hb⟩
     refine ⟨_, rfl, ?_⟩
     have n0_ := c_.mk (Kd.R_elder' (HO_5.out) (Kd.R_base ho0) hb)
     have n1_ := c_.mk (Kd.R_below (HO_25.out) hb)
     have n2_ := c_.mk (Kd.R_elder' (HO122.out) (Kd.R_base ho0) hb)
     have n3_ := c_.mk (Kd.R_elder' (HO125.out) (Kd.R_base ho0) hb)
     have n4_ := c_.mk (Kd.R_lower (Kd.R_new' (Kd.R_new' (Kd.R_new' ho0 (Kd.R_lt (HO_5.out))) (Kd.R_lt (HO122.out))) (Kd.R_lt (HO125.out))) (v_ (HB.out)))
     have n5_ := c_.mk (s_ (g := gb110) (o := .cells #[.int .i64 a0_0, .int .i64 a0_1, .int .i64 a0_2, .string a0_3, .string a0_4, .slice A0_5 l0_5.length c0_5, .int .i64 a0_6] 74 (0, 0)) (BK110.out) hb)
     have n6_ := c_.mk (ac_ (HB.out) hb)
     clear HO_5
     clear HO_25
     clear HO122
     clear HO125
     clear BK110
     clear HB
     have HO_5 := n0_
     have HO_25 := n1_
     have HO122 := n2_
     have HO125 := n3_
     have HO128 := n4_
     have BK110 := n5_
     have HB := n6_
     clear n0_ n1_ n2_ n3_ n4_ n5_ n6_
     (try clear hb)
     (try clear hb2)
     (try clear hk)
     (try clear hi)
     (try clear ho0)
     refine hK.out _ _ ⟨(b_ BK110.out 0).trans rfl, (b_ BK110.out 1).trans rfl, (b_ BK110.out 2).trans rfl, (b_ BK110.out 3).trans rfl, (b_ BK110.out 4).trans rfl, (b_ BK110.out 5).trans rfl, (b_ BK110.out 6).trans rfl⟩ (fun hHeld => ?_)
     clear hK K
     refine norm_ (a' := ?_) ?_ ?_
     rotate_left
     ·show Act.put _ (some 50) _ = _
      simp only [Act.put, sA_, sB_, sC_, af_, ag_]
      rfl
     refine ay_ (i := 15) (N := some 5) (v := ?_) (a' := ?_) #[T_, T_, T_, T_, T_, T_, T_, T_, T_, T_, T_, T_, T_, T_, T_, T_] rfl rfl (cb_ HT_.out (by kernel_rfl)) (fun _ _ _ h => h) (Or.inl ⟨by rfl, ?_⟩) ?_ ?_
     rotate_left
     ·intro w'
      go_simp
      with_reducible rfl
     rotate_left
     ·simp only [Act.put, sA_, sB_, sC_, af_, ag_]
      rfl
     refine done_ (done_of HT_.out (by kernel_rfl)) ?_
     have hcz26_0 : w25.cell? ⟨gb110, 0, none⟩ = some (.int .i64 a0_0) := (b_ BK110.out 0).trans rfl
     have hcz26_1 : w25.cell? ⟨gb110, 1, none⟩ = some (.int .i64 a0_1) := (b_ BK110.out 1).trans rfl
     have hcz26_2 : w25.cell? ⟨gb110, 2, none⟩ = some (.int .i64 a0_2) := (b_ BK110.out 2).trans rfl
     have hcz26_3 : w25.cell? ⟨gb110, 3, none⟩ = some (.string a0_3) := (b_ BK110.out 3).trans rfl
     have hcz26_4 : w25.cell? ⟨gb110, 4, none⟩ = some (.string a0_4) := (b_ BK110.out 4).trans rfl
     have hcz26_5 : w25.cell? ⟨gb110, 5, none⟩ = some (.slice A0_5 l0_5.length c0_5) := (b_ BK110.out 5).trans rfl
     have hcz26_6 : w25.cell? ⟨gb110, 6, none⟩ = some (.int .i64 a0_6) := (b_ BK110.out 6).trans rfl
     have hfz26_0 := a_ BK110.out 0
     have hfz26_1 := a_ BK110.out 1
     have hfz26_2 := a_ BK110.out 2
     have hfz26_3 := a_ BK110.out 3
     have hfz26_4 := a_ BK110.out 4
     have hfz26_5 := a_ BK110.out 5
     have hfz26_6 := a_ BK110.out 6
     try go_wp2
     go_loopg [5, 55] k1 (fun kq v5 v55 w' => ∃ (x5_2 : List Int) (x55_2 : Int), v55 = .int .i64 x55_2 ∧ c_ (bc_.l1 kq x5_2 l0_5 (l0_5.length : Int) x55_2 = some (r1, r2)) ∧ c_ (kq ≤ k1) ∧ c_ (Kd.R (Kd.int .u8) 5 w' w.heap.size (fun _ => True) v5 x5_2) ∧ c_ (w'.heap[gb110]? = some (.cells #[.int .i64 a0_0, .int .i64 a0_1, .int .i64 a0_2, .string a0_3, .string a0_4, (.slice A0_5 l0_5.length c0_5), .int .i64 a0_6] 74 (0, 0))) ∧ c_ (Below w.heap.size w w'))
     case atStart => exact ⟨(t126), (0), (by first | rfl | (simp; done) | (simp [*]; done)), H', ⟨Nat.le_refl _⟩, ⟨Kd.R_mono HO128.out (fun _ hk => trivial)⟩, ⟨BK110.out⟩, ⟨HB.out⟩⟩
     case round =>
      clear H'
      try clear c1
      try clear p1
      try clear q1
      try clear hx1
      try clear p2
      try clear c3
      try clear p6
      try clear c10
      try clear c10b0
      try clear c11
      try clear c11b0
      try clear p11
      try clear q11
      try clear hx11
      try clear c12
      try clear c12b0
      try clear c19
      try clear hcz26_0
      try clear hcz26_1
      try clear hcz26_2
      try clear hcz26_3
      try clear hcz26_4
      try clear hcz26_5
      try clear hcz26_6
      try clear hcz4_0
      try clear hcz4_1
      try clear hcz4_2
      try clear hcz4_3
      try clear hcz4_4
      try clear hcz4_5
      try clear hcz4_6
      try clear hcz6_0
      try clear hcz6_1
      try clear hcz6_2
      try clear hcz6_3
      try clear hcz6_4
      try clear hcz6_5
      try clear hcz6_6
      try clear hfz26_0
      try clear hfz26_1
      try clear hfz26_2
      try clear hfz26_3
      try clear hfz26_4
      try clear hfz26_5
      try clear hfz26_6
      try clear hfz4_0
      try clear hfz4_1
      try clear hfz4_2
      try clear hfz4_3
      try clear hfz4_4
      try clear hfz4_5
      try clear hfz4_6
      try clear hfz6_0
      try clear hfz6_1
      try clear hfz6_2
      try clear hfz6_3
      try clear hfz6_4
      try clear hfz6_5
      try clear hfz6_6
      try clear hx116_0
      try clear p116
      try clear p2
      try clear q1
      try clear q112
      try clear q116
      obtain ⟨x5_2, x55_2, rfl, HA, HK2, HO_5, BK110, HB⟩ := hrel
      cases gk with
      | zero => exact absurd HA.out (by simp [bc_.l1])
      | succ k2 =>
       have H := HA.out
       clear HA
       simp only [bc_.l1] at H
       by_cases c27 : x55_2 < (l0_5.length : Int)
       ·rw [if_pos c27] at H
        have c27b0 : decide (x55_2 < (l0_5.length : Int)) = true := decide_eq_true c27
        clear c27
        by_cases c28 : 0 ≤ x55_2
        ·rw [if_pos c28] at H
         have c28b0 : decide (0 ≤ x55_2) = true := decide_eq_true c28
         clear c28
         by_cases c29 : x55_2 < (l0_5.length : Int)
         ·rw [if_pos c29] at H
          have c29b0 : decide (x55_2 < (l0_5.length : Int)) = true := decide_eq_true c29
          clear c29
          replace H := Option.bind_eq_some_iff.mp H
          obtain ⟨t130, A300, H⟩ := H
          replace H : (bc_.l1 k2 t130 l0_5 (l0_5.length : Int) (wrap64 (x55_2 + 1))) = some (r1, r2) := H
          have A30 := c_.mk A300
          clear A300
          have H' := c_.mk H
          clear H
          have p129 : 0 ≤ (x55_2 : Int) := of_decide_eq_true (by first | (with_reducible assumption) | assumption)
          have q129 : x55_2 < (l0_5.length : Int) := of_decide_eq_true (by first | (with_reducible assumption) | assumption)
          obtain ⟨ad129, e129, hx129_0⟩ := Kd.at_string HR0_5.out x55_2 p129 q129
          cases e129
          replace hx129_0 := (HB.out.cell (World.block_lt_of_cell? w _ hx129_0)).trans hx129_0
          replace p129 := eq_true p129
          replace q129 := eq_true q129
          obtain ⟨Ao31, co31, eo31⟩ := Kd.R_slice HO_5.out
          subst eo31
          go_wp2_with (first | ((with_reducible refine ah_ (f := 32) rfl ?_); refine bm_ (some 61) rfl rfl Tryz.func32 (by kernel_rfl) rfl #[.slice Ao31 x5_2.length co31, .string (rdOf ByteArray.empty l0_5 x55_2)] rfl (by (try simp only [List.map_toArray, List.map_cons, List.map_nil]); first | done | rfl | (simp only [List.length_drop, List.length_take]; rfl)) ?_; (with_reducible refine (cy_.calls k2 _ _ x5_2 (rdOf ByteArray.empty l0_5 x55_2) t130 _ ?side1 ?side2 A30.out).mono ?_); (case side1 => repeat (first | exact (Kd.R_reads' HO_5.out).2.2 | (with_reducible refine Kd.C_alloc ?_ _) | (with_reducible refine Kd.C_drewN ?_ _) | (with_reducible refine Kd.C_drew ?_))); (case side2 => exact (Kd.R_reads' HO_5.out).2.1); rintro e w32 ⟨v131, rfl, ho0, hb⟩; refine ⟨_, rfl, ?_⟩; have n0_ := c_.mk (Kd.R_elder' (HO_5.out) (Kd.R_base ho0) hb); have n1_ := c_.mk (Kd.R_lower (Kd.R_new' ho0 (Kd.R_lt (HO_5.out))) (v_ (HB.out))); have n2_ := c_.mk (s_ (g := gb110) (o := .cells #[.int .i64 a0_0, .int .i64 a0_1, .int .i64 a0_2, .string a0_3, .string a0_4, .slice (some ad129) l0_5.length c0_5, .int .i64 a0_6] 74 (0, 0)) (BK110.out) hb); have n3_ := c_.mk (ac_ (HB.out) hb); clear HO_5; clear BK110; clear HB; have HO_5 := n0_; have HO132 := n1_; have BK110 := n2_; have HB := n3_; clear n0_ n1_ n2_ n3_; (try clear hb); (try clear hb2); (try clear hk); (try clear hi); (try clear ho0)))
          go_roundg k2
          case measure => have := HK1.out; have := HK2.out; omega
          case rel => exact ⟨(t130), (wrap64 (x55_2 + 1)), (by first | rfl | (simp; done) | (simp [*]; done)), H', ⟨by have := HK1.out; have := HK2.out; omega⟩, ⟨Kd.R_mono HO132.out (fun _ hk => trivial)⟩, ⟨BK110.out⟩, ⟨HB.out⟩⟩
         ·rw [if_neg c29] at H
          exact absurd H (by simp)
        ·rw [if_neg c28] at H
         exact absurd H (by simp)
       ·rw [if_neg c27] at H
        have c27b0 : decide (x55_2 < (l0_5.length : Int)) = false := decide_eq_false c27
        clear c27
        simp only [Option.some.injEq, Prod.mk.injEq] at H
        obtain ⟨rfl, rfl⟩ := H
        go_wp2
        go_ret2
        exact ⟨_, by first | rfl | (simp [i_, g_] <;> rfl) | (simp [*, i_, g_] <;> rfl), HO_5.out, HB.out⟩
 ·have H1 : (some (([] : List Int), some q112)) = some (r1, r2) := by rw [if_neg (show ¬ (some q112).isNone = true by simp)] at H; exact H
  clear H
  have H := H1
  clear H1
  try simp only [i_, g_]
  simp only [Option.some.injEq, Prod.mk.injEq] at H
  obtain ⟨rfl, rfl⟩ := H
  go_enter Tryz.func19, Tryz.ntmps19
  go_wp2_with (first | ((with_reducible refine be_ (N := 1) rfl ?_); refine bd_ ?hg (N := 1) ?hd (cs := #[.int .i64 a0_0, .int .i64 a0_1, .int .i64 a0_2, .string a0_3, .string a0_4, .slice A0_5 l0_5.length c0_5, .int .i64 a0_6]) (t := 74) ?hr ?_; (case hd => rfl); (case hg => rfl); (case hr => first | (go_simp; done) | (go_simp; rfl)); intro gb110 hg w33 hbox hb; have n0_ := c_.mk (ac_ (HB.out) hb); have n1_ := c_.mk (hbox); have n2_ := c_.mk ((by rw [hg]; exact (v_ (HB.out)) : w.heap.size ≤ gb110)); have n3_ := c_.mk ((by rw [hg]; exact (v_ (HB.out)) : w.heap.size ≤ gb110)); clear HB; have HB := n0_; have BK110 := n1_; have GW110 := n2_; have GE110 := n3_; clear n0_ n1_ n2_ n3_; clear hb hbox hg; have hcz34_0 : w33.cell? ⟨gb110, 0, none⟩ = some (.int .i64 a0_0) := (b_ BK110.out 0).trans rfl; have hcz34_1 : w33.cell? ⟨gb110, 1, none⟩ = some (.int .i64 a0_1) := (b_ BK110.out 1).trans rfl; have hcz34_2 : w33.cell? ⟨gb110, 2, none⟩ = some (.int .i64 a0_2) := (b_ BK110.out 2).trans rfl; have hcz34_3 : w33.cell? ⟨gb110, 3, none⟩ = some (.string a0_3) := (b_ BK110.out 3).trans rfl; have hcz34_4 : w33.cell? ⟨gb110, 4, none⟩ = some (.string a0_4) := (b_ BK110.out 4).trans rfl; have hcz34_5 : w33.cell? ⟨gb110, 5, none⟩ = some (.slice A0_5 l0_5.length c0_5) := (b_ BK110.out 5).trans rfl; have hcz34_6 : w33.cell? ⟨gb110, 6, none⟩ = some (.int .i64 a0_6) := (b_ BK110.out 6).trans rfl; have hfz34_0 := a_ BK110.out 0; have hfz34_1 := a_ BK110.out 1; have hfz34_2 := a_ BK110.out 2; have hfz34_3 := a_ BK110.out 3; have hfz34_4 := a_ BK110.out 4; have hfz34_5 := a_ BK110.out 5; have hfz34_6 := a_ BK110.out 6) | ((with_reducible refine ah_ (f := 30) rfl ?_); refine bm_ (some 11) rfl rfl Tryz.func30 (by kernel_rfl) rfl #[.agg #[.int .i64 a0_0, .int .i64 a0_1, .int .i64 a0_2, .string a0_3, .string a0_4, .slice A0_5 l0_5.length c0_5, .int .i64 a0_6]] rfl (by (try simp only [List.map_toArray, List.map_cons, List.map_nil]); first | done | rfl | (simp only [List.length_drop, List.length_take]; rfl)) ?_; (with_reducible refine (dq_.calls k a0_0 a0_1 a0_2 a0_3 a0_4 _ _ l0_5 a0_6 (some q112) _ ?side1 ?side2 A2.out).mono ?_); (case side1 => repeat (first | exact (Kd.C_below HR0_5.out HB.out) | (with_reducible refine Kd.C_alloc ?_ _) | (with_reducible refine Kd.C_drewN ?_ _) | (with_reducible refine Kd.C_drew ?_))); (case side2 => exact HC0_5.out); rintro e w35 ⟨rfl, hb⟩; refine ⟨_, rfl, ?_⟩; have n0_ := c_.mk (s_ (g := gb110) (o := .cells #[.int .i64 a0_0, .int .i64 a0_1, .int .i64 a0_2, .string a0_3, .string a0_4, .slice A0_5 l0_5.length c0_5, .int .i64 a0_6] 74 (0, 0)) (BK110.out) hb); have n1_ := c_.mk (ac_ (HB.out) hb); clear BK110; clear HB; have BK110 := n0_; have HB := n1_; clear n0_ n1_; (try clear hb); (try clear hb2); (try clear hk); (try clear hi); (try simp only [i_, g_])))
  go_ret2
  exact ⟨_, by first | rfl | (simp [i_, g_] <;> rfl) | (simp [*, i_, g_] <;> rfl), by first | exact Kd.R_nil _ _ _ _ _ | exact Kd.N_nil _ _ _ _ _ | exact Kd.V_nil _ _ _ _ _ | exact Kd.Q_nil _ _ _ _ _ | exact Kd.S_nil _ _ _ _ _, HB.out⟩
end Go.Proofs.YtlcfcaokihoplaaGreatDoor.Ms
