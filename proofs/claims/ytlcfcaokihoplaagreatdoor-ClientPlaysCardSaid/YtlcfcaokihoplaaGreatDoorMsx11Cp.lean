-- Cut.
import Derived.Test.YtlcfcaokihoplaaGreatDoorMsx1Cp
import Derived.Test.YtlcfcaokihoplaaGreatDoorMsx10Cp
namespace Go.Proofs.YtlcfcaokihoplaaGreatDoor.Ms
open Go.RowKit Go.Proofs.YzW.PrintWords Go.Proofs.YzW.PrintLast Go.Proofs.YzW.PrintMore
attribute [local go_sem] cg_ ce_ cw_ cv_ by_ bx_ cf_ cd_
set_option linter.unusedVariables false
set_option linter.unusedSimpArgs false
attribute [local go_sem] eqlErr neqErr eqlErrNil neqErrNil
open Go.Proofs.YtlcfcaokihoplaaGreatDoor.Mw
def ds_.f (k : Nat) (a0_0 : Int) (a0_1 : Int) (a0_2 : Int) (a0_3 : ByteArray) (a0_4 : ByteArray) (l0_5 : List ByteArray) (a0_6 : Int) : Option (Bool) := (aa_.f k a0_2 a0_3 a0_4 l0_5 a0_6).bind fun t174 => (if t174 = true then (if a0_0 ≥ 0 then (if a0_0 ≤ 7 then (if a0_1 ≥ 1 then (some (decide (a0_1 ≤ 1000))) else (some false)) else (some false)) else (some false)) else (some false))
set_option maxHeartbeats 8000000 in
set_option maxRecDepth 100000 in
theorem ds_.calls (k : Nat) (a0_0 : Int) (a0_1 : Int) (a0_2 : Int) (a0_3 : ByteArray) (a0_4 : ByteArray) (A0_5 : Option Addr) (c0_5 : Nat) (l0_5 : List ByteArray) (a0_6 : Int) (r : Bool) (w : World) (hr0_5 : Kd.C Kd.string w A0_5 l0_5.length l0_5) (hc0_5 : l0_5.length ≤ c0_5) (h : ds_.f k a0_0 a0_1 a0_2 a0_3 a0_4 l0_5 a0_6 = some r) :
  Calls Tryz.prog 20 #[.agg #[.int .i64 a0_0, .int .i64 a0_1, .int .i64 a0_2, .string a0_3, .string a0_4, .slice A0_5 l0_5.length c0_5, .int .i64 a0_6]] w fun e w' => e = .returned (.bool r) ∧ Below w.heap.size w w' := by
 have hu74 := Tryz.underlying74
 have hu36 := Tryz.underlying36
 have HR0_5 := c_.mk hr0_5
 have HC0_5 := c_.mk hc0_5
 clear hr0_5 hc0_5
 have HB := c_.mk (Below.refl w.heap.size w)
 have H : ((aa_.f k a0_2 a0_3 a0_4 l0_5 a0_6).bind fun t174 => (if t174 = true then (if a0_0 ≥ 0 then (if a0_0 ≤ 7 then (if a0_1 ≥ 1 then (some (decide (a0_1 ≤ 1000))) else (some false)) else (some false)) else (some false)) else (some false))) = some r := h
 clear h
 replace H := Option.bind_eq_some_iff.mp H
 obtain ⟨t174, A20, H⟩ := H
 replace H : (if t174 = true then (if a0_0 ≥ 0 then (if a0_0 ≤ 7 then (if a0_1 ≥ 1 then (some (decide (a0_1 ≤ 1000))) else (some false)) else (some false)) else (some false)) else (some false)) = some r := H
 have A2 := c_.mk A20
 clear A20
 by_cases c3 : t174 = true
 ·subst c3
  have H1 : (if a0_0 ≥ 0 then (if a0_0 ≤ 7 then (if a0_1 ≥ 1 then (some (decide (a0_1 ≤ 1000))) else (some false)) else (some false)) else (some false)) = some r := by first | (rw [if_pos rfl] at H; with_reducible exact H) | exact (if_pos rfl).symm.trans H | (simp only [if_true, eq_self_iff_true] at H ⊢; exact H)
  clear H
  have H := H1
  clear H1
  by_cases c4 : a0_0 ≥ 0
  ·rw [if_pos c4] at H
   have c4b0 : decide (0 ≤ a0_0) = true := decide_eq_true c4
   clear c4
   by_cases c5 : a0_0 ≤ 7
   ·rw [if_pos c5] at H
    have c5b0 : decide (a0_0 ≤ 7) = true := decide_eq_true c5
    clear c5
    by_cases c6 : a0_1 ≥ 1
    ·rw [if_pos c6] at H
     have c6b0 : decide (1 ≤ a0_1) = true := decide_eq_true c6
     clear c6
     obtain rfl := Option.some.inj H
     go_enter Tryz.func20, Tryz.ntmps20
     go_wp2_with (first | ((with_reducible refine be_ (N := 1) rfl ?_); refine bd_ ?hg (N := 1) ?hd (cs := #[.int .i64 a0_0, .int .i64 a0_1, .int .i64 a0_2, .string a0_3, .string a0_4, .slice A0_5 l0_5.length c0_5, .int .i64 a0_6]) (t := 74) ?hr ?_; (case hd => rfl); (case hg => rfl); (case hr => first | (go_simp; done) | (go_simp; rfl)); intro gb173 hg w7 hbox hb; have n0_ := c_.mk (ac_ (HB.out) hb); have n1_ := c_.mk (hbox); have n2_ := c_.mk ((by rw [hg]; exact (v_ (HB.out)) : w.heap.size ≤ gb173)); have n3_ := c_.mk ((by rw [hg]; exact (v_ (HB.out)) : w.heap.size ≤ gb173)); clear HB; have HB := n0_; have BK173 := n1_; have GW173 := n2_; have GE173 := n3_; clear n0_ n1_ n2_ n3_; clear hb hbox hg; have hcz8_0 : w7.cell? ⟨gb173, 0, none⟩ = some (.int .i64 a0_0) := (b_ BK173.out 0).trans rfl; have hcz8_1 : w7.cell? ⟨gb173, 1, none⟩ = some (.int .i64 a0_1) := (b_ BK173.out 1).trans rfl; have hcz8_2 : w7.cell? ⟨gb173, 2, none⟩ = some (.int .i64 a0_2) := (b_ BK173.out 2).trans rfl; have hcz8_3 : w7.cell? ⟨gb173, 3, none⟩ = some (.string a0_3) := (b_ BK173.out 3).trans rfl; have hcz8_4 : w7.cell? ⟨gb173, 4, none⟩ = some (.string a0_4) := (b_ BK173.out 4).trans rfl; have hcz8_5 : w7.cell? ⟨gb173, 5, none⟩ = some (.slice A0_5 l0_5.length c0_5) := (b_ BK173.out 5).trans rfl; have hcz8_6 : w7.cell? ⟨gb173, 6, none⟩ = some (.int .i64 a0_6) := (b_ BK173.out 6).trans rfl; have hfz8_0 := a_ BK173.out 0; have hfz8_1 := a_ BK173.out 1; have hfz8_2 := a_ BK173.out 2; have hfz8_3 := a_ BK173.out 3; have hfz8_4 := a_ BK173.out 4; have hfz8_5 := a_ BK173.out 5; have hfz8_6 := a_ BK173.out 6) | ((with_reducible refine ah_ (f := 33) rfl ?_); refine bm_ (some 6) rfl rfl Tryz.func33 (by kernel_rfl) rfl #[.agg #[.int .i64 a0_2, .string a0_3, .string a0_4, .slice A0_5 l0_5.length c0_5, .int .i64 a0_6]] rfl (by (try simp only [List.map_toArray, List.map_cons, List.map_nil]); first | done | rfl | (simp only [List.length_drop, List.length_take]; rfl)) ?_; (with_reducible refine (aa_.calls k a0_2 a0_3 a0_4 _ _ l0_5 a0_6 true _ ?side1 ?side2 A2.out).mono ?_); (case side1 => repeat (first | exact (Kd.C_below HR0_5.out HB.out) | (with_reducible refine Kd.C_alloc ?_ _) | (with_reducible refine Kd.C_drewN ?_ _) | (with_reducible refine Kd.C_drew ?_))); (case side2 => exact HC0_5.out); rintro e w9 ⟨rfl, hb⟩; refine ⟨_, rfl, ?_⟩; have n0_ := c_.mk (s_ (g := gb173) (o := .cells #[.int .i64 a0_0, .int .i64 a0_1, .int .i64 a0_2, .string a0_3, .string a0_4, .slice A0_5 l0_5.length c0_5, .int .i64 a0_6] 74 (0, 0)) (BK173.out) hb); have n1_ := c_.mk (ac_ (HB.out) hb); clear BK173; clear HB; have BK173 := n0_; have HB := n1_; clear n0_ n1_; (try clear hb); (try clear hb2); (try clear hk); (try clear hi); have hcz10_0 : w9.cell? ⟨gb173, 0, none⟩ = some (.int .i64 a0_0) := (b_ BK173.out 0).trans rfl; have hcz10_1 : w9.cell? ⟨gb173, 1, none⟩ = some (.int .i64 a0_1) := (b_ BK173.out 1).trans rfl; have hcz10_2 : w9.cell? ⟨gb173, 2, none⟩ = some (.int .i64 a0_2) := (b_ BK173.out 2).trans rfl; have hcz10_3 : w9.cell? ⟨gb173, 3, none⟩ = some (.string a0_3) := (b_ BK173.out 3).trans rfl; have hcz10_4 : w9.cell? ⟨gb173, 4, none⟩ = some (.string a0_4) := (b_ BK173.out 4).trans rfl; have hcz10_5 : w9.cell? ⟨gb173, 5, none⟩ = some (.slice A0_5 l0_5.length c0_5) := (b_ BK173.out 5).trans rfl; have hcz10_6 : w9.cell? ⟨gb173, 6, none⟩ = some (.int .i64 a0_6) := (b_ BK173.out 6).trans rfl; have hfz10_0 := a_ BK173.out 0; have hfz10_1 := a_ BK173.out 1; have hfz10_2 := a_ BK173.out 2; have hfz10_3 := a_ BK173.out 3; have hfz10_4 := a_ BK173.out 4; have hfz10_5 := a_ BK173.out 5; have hfz10_6 := a_ BK173.out 6))
     go_ret
     exact ⟨by first | rfl | (simp [i_, g_] <;> rfl) | (simp [*, i_, g_] <;> rfl), HB.out⟩
    ·rw [if_neg c6] at H
     have c6b0 : decide (1 ≤ a0_1) = false := decide_eq_false c6
     clear c6
     obtain rfl := Option.some.inj H
     go_enter Tryz.func20, Tryz.ntmps20
     go_wp2_with (first | ((with_reducible refine be_ (N := 1) rfl ?_); refine bd_ ?hg (N := 1) ?hd (cs := #[.int .i64 a0_0, .int .i64 a0_1, .int .i64 a0_2, .string a0_3, .string a0_4, .slice A0_5 l0_5.length c0_5, .int .i64 a0_6]) (t := 74) ?hr ?_; (case hd => rfl); (case hg => rfl); (case hr => first | (go_simp; done) | (go_simp; rfl)); intro gb173 hg w11 hbox hb; have n0_ := c_.mk (ac_ (HB.out) hb); have n1_ := c_.mk (hbox); have n2_ := c_.mk ((by rw [hg]; exact (v_ (HB.out)) : w.heap.size ≤ gb173)); have n3_ := c_.mk ((by rw [hg]; exact (v_ (HB.out)) : w.heap.size ≤ gb173)); clear HB; have HB := n0_; have BK173 := n1_; have GW173 := n2_; have GE173 := n3_; clear n0_ n1_ n2_ n3_; clear hb hbox hg; have hcz12_0 : w11.cell? ⟨gb173, 0, none⟩ = some (.int .i64 a0_0) := (b_ BK173.out 0).trans rfl; have hcz12_1 : w11.cell? ⟨gb173, 1, none⟩ = some (.int .i64 a0_1) := (b_ BK173.out 1).trans rfl; have hcz12_2 : w11.cell? ⟨gb173, 2, none⟩ = some (.int .i64 a0_2) := (b_ BK173.out 2).trans rfl; have hcz12_3 : w11.cell? ⟨gb173, 3, none⟩ = some (.string a0_3) := (b_ BK173.out 3).trans rfl; have hcz12_4 : w11.cell? ⟨gb173, 4, none⟩ = some (.string a0_4) := (b_ BK173.out 4).trans rfl; have hcz12_5 : w11.cell? ⟨gb173, 5, none⟩ = some (.slice A0_5 l0_5.length c0_5) := (b_ BK173.out 5).trans rfl; have hcz12_6 : w11.cell? ⟨gb173, 6, none⟩ = some (.int .i64 a0_6) := (b_ BK173.out 6).trans rfl; have hfz12_0 := a_ BK173.out 0; have hfz12_1 := a_ BK173.out 1; have hfz12_2 := a_ BK173.out 2; have hfz12_3 := a_ BK173.out 3; have hfz12_4 := a_ BK173.out 4; have hfz12_5 := a_ BK173.out 5; have hfz12_6 := a_ BK173.out 6) | ((with_reducible refine ah_ (f := 33) rfl ?_); refine bm_ (some 6) rfl rfl Tryz.func33 (by kernel_rfl) rfl #[.agg #[.int .i64 a0_2, .string a0_3, .string a0_4, .slice A0_5 l0_5.length c0_5, .int .i64 a0_6]] rfl (by (try simp only [List.map_toArray, List.map_cons, List.map_nil]); first | done | rfl | (simp only [List.length_drop, List.length_take]; rfl)) ?_; (with_reducible refine (aa_.calls k a0_2 a0_3 a0_4 _ _ l0_5 a0_6 true _ ?side1 ?side2 A2.out).mono ?_); (case side1 => repeat (first | exact (Kd.C_below HR0_5.out HB.out) | (with_reducible refine Kd.C_alloc ?_ _) | (with_reducible refine Kd.C_drewN ?_ _) | (with_reducible refine Kd.C_drew ?_))); (case side2 => exact HC0_5.out); rintro e w13 ⟨rfl, hb⟩; refine ⟨_, rfl, ?_⟩; have n0_ := c_.mk (s_ (g := gb173) (o := .cells #[.int .i64 a0_0, .int .i64 a0_1, .int .i64 a0_2, .string a0_3, .string a0_4, .slice A0_5 l0_5.length c0_5, .int .i64 a0_6] 74 (0, 0)) (BK173.out) hb); have n1_ := c_.mk (ac_ (HB.out) hb); clear BK173; clear HB; have BK173 := n0_; have HB := n1_; clear n0_ n1_; (try clear hb); (try clear hb2); (try clear hk); (try clear hi); have hcz14_0 : w13.cell? ⟨gb173, 0, none⟩ = some (.int .i64 a0_0) := (b_ BK173.out 0).trans rfl; have hcz14_1 : w13.cell? ⟨gb173, 1, none⟩ = some (.int .i64 a0_1) := (b_ BK173.out 1).trans rfl; have hcz14_2 : w13.cell? ⟨gb173, 2, none⟩ = some (.int .i64 a0_2) := (b_ BK173.out 2).trans rfl; have hcz14_3 : w13.cell? ⟨gb173, 3, none⟩ = some (.string a0_3) := (b_ BK173.out 3).trans rfl; have hcz14_4 : w13.cell? ⟨gb173, 4, none⟩ = some (.string a0_4) := (b_ BK173.out 4).trans rfl; have hcz14_5 : w13.cell? ⟨gb173, 5, none⟩ = some (.slice A0_5 l0_5.length c0_5) := (b_ BK173.out 5).trans rfl; have hcz14_6 : w13.cell? ⟨gb173, 6, none⟩ = some (.int .i64 a0_6) := (b_ BK173.out 6).trans rfl; have hfz14_0 := a_ BK173.out 0; have hfz14_1 := a_ BK173.out 1; have hfz14_2 := a_ BK173.out 2; have hfz14_3 := a_ BK173.out 3; have hfz14_4 := a_ BK173.out 4; have hfz14_5 := a_ BK173.out 5; have hfz14_6 := a_ BK173.out 6))
     go_ret
     exact ⟨by first | rfl | (simp [i_, g_] <;> rfl) | (simp [*, i_, g_] <;> rfl), HB.out⟩
   ·rw [if_neg c5] at H
    have c5b0 : decide (a0_0 ≤ 7) = false := decide_eq_false c5
    clear c5
    obtain rfl := Option.some.inj H
    go_enter Tryz.func20, Tryz.ntmps20
    go_wp2_with (first | ((with_reducible refine be_ (N := 1) rfl ?_); refine bd_ ?hg (N := 1) ?hd (cs := #[.int .i64 a0_0, .int .i64 a0_1, .int .i64 a0_2, .string a0_3, .string a0_4, .slice A0_5 l0_5.length c0_5, .int .i64 a0_6]) (t := 74) ?hr ?_; (case hd => rfl); (case hg => rfl); (case hr => first | (go_simp; done) | (go_simp; rfl)); intro gb173 hg w15 hbox hb; have n0_ := c_.mk (ac_ (HB.out) hb); have n1_ := c_.mk (hbox); have n2_ := c_.mk ((by rw [hg]; exact (v_ (HB.out)) : w.heap.size ≤ gb173)); have n3_ := c_.mk ((by rw [hg]; exact (v_ (HB.out)) : w.heap.size ≤ gb173)); clear HB; have HB := n0_; have BK173 := n1_; have GW173 := n2_; have GE173 := n3_; clear n0_ n1_ n2_ n3_; clear hb hbox hg; have hcz16_0 : w15.cell? ⟨gb173, 0, none⟩ = some (.int .i64 a0_0) := (b_ BK173.out 0).trans rfl; have hcz16_1 : w15.cell? ⟨gb173, 1, none⟩ = some (.int .i64 a0_1) := (b_ BK173.out 1).trans rfl; have hcz16_2 : w15.cell? ⟨gb173, 2, none⟩ = some (.int .i64 a0_2) := (b_ BK173.out 2).trans rfl; have hcz16_3 : w15.cell? ⟨gb173, 3, none⟩ = some (.string a0_3) := (b_ BK173.out 3).trans rfl; have hcz16_4 : w15.cell? ⟨gb173, 4, none⟩ = some (.string a0_4) := (b_ BK173.out 4).trans rfl; have hcz16_5 : w15.cell? ⟨gb173, 5, none⟩ = some (.slice A0_5 l0_5.length c0_5) := (b_ BK173.out 5).trans rfl; have hcz16_6 : w15.cell? ⟨gb173, 6, none⟩ = some (.int .i64 a0_6) := (b_ BK173.out 6).trans rfl; have hfz16_0 := a_ BK173.out 0; have hfz16_1 := a_ BK173.out 1; have hfz16_2 := a_ BK173.out 2; have hfz16_3 := a_ BK173.out 3; have hfz16_4 := a_ BK173.out 4; have hfz16_5 := a_ BK173.out 5; have hfz16_6 := a_ BK173.out 6) | ((with_reducible refine ah_ (f := 33) rfl ?_); refine bm_ (some 6) rfl rfl Tryz.func33 (by kernel_rfl) rfl #[.agg #[.int .i64 a0_2, .string a0_3, .string a0_4, .slice A0_5 l0_5.length c0_5, .int .i64 a0_6]] rfl (by (try simp only [List.map_toArray, List.map_cons, List.map_nil]); first | done | rfl | (simp only [List.length_drop, List.length_take]; rfl)) ?_; (with_reducible refine (aa_.calls k a0_2 a0_3 a0_4 _ _ l0_5 a0_6 true _ ?side1 ?side2 A2.out).mono ?_); (case side1 => repeat (first | exact (Kd.C_below HR0_5.out HB.out) | (with_reducible refine Kd.C_alloc ?_ _) | (with_reducible refine Kd.C_drewN ?_ _) | (with_reducible refine Kd.C_drew ?_))); (case side2 => exact HC0_5.out); rintro e w17 ⟨rfl, hb⟩; refine ⟨_, rfl, ?_⟩; have n0_ := c_.mk (s_ (g := gb173) (o := .cells #[.int .i64 a0_0, .int .i64 a0_1, .int .i64 a0_2, .string a0_3, .string a0_4, .slice A0_5 l0_5.length c0_5, .int .i64 a0_6] 74 (0, 0)) (BK173.out) hb); have n1_ := c_.mk (ac_ (HB.out) hb); clear BK173; clear HB; have BK173 := n0_; have HB := n1_; clear n0_ n1_; (try clear hb); (try clear hb2); (try clear hk); (try clear hi); have hcz18_0 : w17.cell? ⟨gb173, 0, none⟩ = some (.int .i64 a0_0) := (b_ BK173.out 0).trans rfl; have hcz18_1 : w17.cell? ⟨gb173, 1, none⟩ = some (.int .i64 a0_1) := (b_ BK173.out 1).trans rfl; have hcz18_2 : w17.cell? ⟨gb173, 2, none⟩ = some (.int .i64 a0_2) := (b_ BK173.out 2).trans rfl; have hcz18_3 : w17.cell? ⟨gb173, 3, none⟩ = some (.string a0_3) := (b_ BK173.out 3).trans rfl; have hcz18_4 : w17.cell? ⟨gb173, 4, none⟩ = some (.string a0_4) := (b_ BK173.out 4).trans rfl; have hcz18_5 : w17.cell? ⟨gb173, 5, none⟩ = some (.slice A0_5 l0_5.length c0_5) := (b_ BK173.out 5).trans rfl; have hcz18_6 : w17.cell? ⟨gb173, 6, none⟩ = some (.int .i64 a0_6) := (b_ BK173.out 6).trans rfl; have hfz18_0 := a_ BK173.out 0; have hfz18_1 := a_ BK173.out 1; have hfz18_2 := a_ BK173.out 2; have hfz18_3 := a_ BK173.out 3; have hfz18_4 := a_ BK173.out 4; have hfz18_5 := a_ BK173.out 5; have hfz18_6 := a_ BK173.out 6))
    go_ret
    exact ⟨by first | rfl | (simp [i_, g_] <;> rfl) | (simp [*, i_, g_] <;> rfl), HB.out⟩
  ·rw [if_neg c4] at H
   have c4b0 : decide (0 ≤ a0_0) = false := decide_eq_false c4
   clear c4
   obtain rfl := Option.some.inj H
   go_enter Tryz.func20, Tryz.ntmps20
   go_wp2_with (first | ((with_reducible refine be_ (N := 1) rfl ?_); refine bd_ ?hg (N := 1) ?hd (cs := #[.int .i64 a0_0, .int .i64 a0_1, .int .i64 a0_2, .string a0_3, .string a0_4, .slice A0_5 l0_5.length c0_5, .int .i64 a0_6]) (t := 74) ?hr ?_; (case hd => rfl); (case hg => rfl); (case hr => first | (go_simp; done) | (go_simp; rfl)); intro gb173 hg w19 hbox hb; have n0_ := c_.mk (ac_ (HB.out) hb); have n1_ := c_.mk (hbox); have n2_ := c_.mk ((by rw [hg]; exact (v_ (HB.out)) : w.heap.size ≤ gb173)); have n3_ := c_.mk ((by rw [hg]; exact (v_ (HB.out)) : w.heap.size ≤ gb173)); clear HB; have HB := n0_; have BK173 := n1_; have GW173 := n2_; have GE173 := n3_; clear n0_ n1_ n2_ n3_; clear hb hbox hg; have hcz20_0 : w19.cell? ⟨gb173, 0, none⟩ = some (.int .i64 a0_0) := (b_ BK173.out 0).trans rfl; have hcz20_1 : w19.cell? ⟨gb173, 1, none⟩ = some (.int .i64 a0_1) := (b_ BK173.out 1).trans rfl; have hcz20_2 : w19.cell? ⟨gb173, 2, none⟩ = some (.int .i64 a0_2) := (b_ BK173.out 2).trans rfl; have hcz20_3 : w19.cell? ⟨gb173, 3, none⟩ = some (.string a0_3) := (b_ BK173.out 3).trans rfl; have hcz20_4 : w19.cell? ⟨gb173, 4, none⟩ = some (.string a0_4) := (b_ BK173.out 4).trans rfl; have hcz20_5 : w19.cell? ⟨gb173, 5, none⟩ = some (.slice A0_5 l0_5.length c0_5) := (b_ BK173.out 5).trans rfl; have hcz20_6 : w19.cell? ⟨gb173, 6, none⟩ = some (.int .i64 a0_6) := (b_ BK173.out 6).trans rfl; have hfz20_0 := a_ BK173.out 0; have hfz20_1 := a_ BK173.out 1; have hfz20_2 := a_ BK173.out 2; have hfz20_3 := a_ BK173.out 3; have hfz20_4 := a_ BK173.out 4; have hfz20_5 := a_ BK173.out 5; have hfz20_6 := a_ BK173.out 6) | ((with_reducible refine ah_ (f := 33) rfl ?_); refine bm_ (some 6) rfl rfl Tryz.func33 (by kernel_rfl) rfl #[.agg #[.int .i64 a0_2, .string a0_3, .string a0_4, .slice A0_5 l0_5.length c0_5, .int .i64 a0_6]] rfl (by (try simp only [List.map_toArray, List.map_cons, List.map_nil]); first | done | rfl | (simp only [List.length_drop, List.length_take]; rfl)) ?_; (with_reducible refine (aa_.calls k a0_2 a0_3 a0_4 _ _ l0_5 a0_6 true _ ?side1 ?side2 A2.out).mono ?_); (case side1 => repeat (first | exact (Kd.C_below HR0_5.out HB.out) | (with_reducible refine Kd.C_alloc ?_ _) | (with_reducible refine Kd.C_drewN ?_ _) | (with_reducible refine Kd.C_drew ?_))); (case side2 => exact HC0_5.out); rintro e w21 ⟨rfl, hb⟩; refine ⟨_, rfl, ?_⟩; have n0_ := c_.mk (s_ (g := gb173) (o := .cells #[.int .i64 a0_0, .int .i64 a0_1, .int .i64 a0_2, .string a0_3, .string a0_4, .slice A0_5 l0_5.length c0_5, .int .i64 a0_6] 74 (0, 0)) (BK173.out) hb); have n1_ := c_.mk (ac_ (HB.out) hb); clear BK173; clear HB; have BK173 := n0_; have HB := n1_; clear n0_ n1_; (try clear hb); (try clear hb2); (try clear hk); (try clear hi); have hcz22_0 : w21.cell? ⟨gb173, 0, none⟩ = some (.int .i64 a0_0) := (b_ BK173.out 0).trans rfl; have hcz22_1 : w21.cell? ⟨gb173, 1, none⟩ = some (.int .i64 a0_1) := (b_ BK173.out 1).trans rfl; have hcz22_2 : w21.cell? ⟨gb173, 2, none⟩ = some (.int .i64 a0_2) := (b_ BK173.out 2).trans rfl; have hcz22_3 : w21.cell? ⟨gb173, 3, none⟩ = some (.string a0_3) := (b_ BK173.out 3).trans rfl; have hcz22_4 : w21.cell? ⟨gb173, 4, none⟩ = some (.string a0_4) := (b_ BK173.out 4).trans rfl; have hcz22_5 : w21.cell? ⟨gb173, 5, none⟩ = some (.slice A0_5 l0_5.length c0_5) := (b_ BK173.out 5).trans rfl; have hcz22_6 : w21.cell? ⟨gb173, 6, none⟩ = some (.int .i64 a0_6) := (b_ BK173.out 6).trans rfl; have hfz22_0 := a_ BK173.out 0; have hfz22_1 := a_ BK173.out 1; have hfz22_2 := a_ BK173.out 2; have hfz22_3 := a_ BK173.out 3; have hfz22_4 := a_ BK173.out 4; have hfz22_5 := a_ BK173.out 5; have hfz22_6 := a_ BK173.out 6))
   go_ret
   exact ⟨by first | rfl | (simp [i_, g_] <;> rfl) | (simp [*, i_, g_] <;> rfl), HB.out⟩
 ·replace c3 := Bool.eq_false_iff.mpr c3
  subst c3
  have H1 : (some false) = some r := by rw [if_neg (show ¬ (false = true) by decide)] at H; exact H
  clear H
  have H := H1
  clear H1
  obtain rfl := Option.some.inj H
  go_enter Tryz.func20, Tryz.ntmps20
  go_wp2_with (first | ((with_reducible refine be_ (N := 1) rfl ?_); refine bd_ ?hg (N := 1) ?hd (cs := #[.int .i64 a0_0, .int .i64 a0_1, .int .i64 a0_2, .string a0_3, .string a0_4, .slice A0_5 l0_5.length c0_5, .int .i64 a0_6]) (t := 74) ?hr ?_; (case hd => rfl); (case hg => rfl); (case hr => first | (go_simp; done) | (go_simp; rfl)); intro gb173 hg w23 hbox hb; have n0_ := c_.mk (ac_ (HB.out) hb); have n1_ := c_.mk (hbox); have n2_ := c_.mk ((by rw [hg]; exact (v_ (HB.out)) : w.heap.size ≤ gb173)); have n3_ := c_.mk ((by rw [hg]; exact (v_ (HB.out)) : w.heap.size ≤ gb173)); clear HB; have HB := n0_; have BK173 := n1_; have GW173 := n2_; have GE173 := n3_; clear n0_ n1_ n2_ n3_; clear hb hbox hg; have hcz24_0 : w23.cell? ⟨gb173, 0, none⟩ = some (.int .i64 a0_0) := (b_ BK173.out 0).trans rfl; have hcz24_1 : w23.cell? ⟨gb173, 1, none⟩ = some (.int .i64 a0_1) := (b_ BK173.out 1).trans rfl; have hcz24_2 : w23.cell? ⟨gb173, 2, none⟩ = some (.int .i64 a0_2) := (b_ BK173.out 2).trans rfl; have hcz24_3 : w23.cell? ⟨gb173, 3, none⟩ = some (.string a0_3) := (b_ BK173.out 3).trans rfl; have hcz24_4 : w23.cell? ⟨gb173, 4, none⟩ = some (.string a0_4) := (b_ BK173.out 4).trans rfl; have hcz24_5 : w23.cell? ⟨gb173, 5, none⟩ = some (.slice A0_5 l0_5.length c0_5) := (b_ BK173.out 5).trans rfl; have hcz24_6 : w23.cell? ⟨gb173, 6, none⟩ = some (.int .i64 a0_6) := (b_ BK173.out 6).trans rfl; have hfz24_0 := a_ BK173.out 0; have hfz24_1 := a_ BK173.out 1; have hfz24_2 := a_ BK173.out 2; have hfz24_3 := a_ BK173.out 3; have hfz24_4 := a_ BK173.out 4; have hfz24_5 := a_ BK173.out 5; have hfz24_6 := a_ BK173.out 6) | ((with_reducible refine ah_ (f := 33) rfl ?_); refine bm_ (some 6) rfl rfl Tryz.func33 (by kernel_rfl) rfl #[.agg #[.int .i64 a0_2, .string a0_3, .string a0_4, .slice A0_5 l0_5.length c0_5, .int .i64 a0_6]] rfl (by (try simp only [List.map_toArray, List.map_cons, List.map_nil]); first | done | rfl | (simp only [List.length_drop, List.length_take]; rfl)) ?_; (with_reducible refine (aa_.calls k a0_2 a0_3 a0_4 _ _ l0_5 a0_6 false _ ?side1 ?side2 A2.out).mono ?_); (case side1 => repeat (first | exact (Kd.C_below HR0_5.out HB.out) | (with_reducible refine Kd.C_alloc ?_ _) | (with_reducible refine Kd.C_drewN ?_ _) | (with_reducible refine Kd.C_drew ?_))); (case side2 => exact HC0_5.out); rintro e w25 ⟨rfl, hb⟩; refine ⟨_, rfl, ?_⟩; have n0_ := c_.mk (s_ (g := gb173) (o := .cells #[.int .i64 a0_0, .int .i64 a0_1, .int .i64 a0_2, .string a0_3, .string a0_4, .slice A0_5 l0_5.length c0_5, .int .i64 a0_6] 74 (0, 0)) (BK173.out) hb); have n1_ := c_.mk (ac_ (HB.out) hb); clear BK173; clear HB; have BK173 := n0_; have HB := n1_; clear n0_ n1_; (try clear hb); (try clear hb2); (try clear hk); (try clear hi)))
  go_ret
  exact ⟨by first | rfl | (simp [i_, g_] <;> rfl) | (simp [*, i_, g_] <;> rfl), HB.out⟩
mutual
def aj_.l0 : Nat → List Int → List Int → Int → Int → Int → Int → ByteArray → ByteArray → List ByteArray → Int → Option (List Int)
 | 0, _, _, _, _, _, _, _, _, _, _ => none
 | k + 1, x3, x4, x5, x176000, x176001, x176002, x176003, x176004, x176005, x176006 => if x5 < 4 then (if 0 ≤ x5 then (if x5 < (x3.length : Int) then ((av_.f k (IntKind.u64.wrap (rd x3 x5))).bind fun t180 => (if x4.length + t180.length < 140737488355328 then (aj_.l0 k x3 (x4 ++ t180) (wrap64 (x5 + 1)) x176000 x176001 x176002 x176003 x176004 x176005 x176006) else (none))) else (none)) else (none)) else ((bo_.f k x176003).bind fun t186 => (if x4.length + t186.length < 140737488355328 then ((some (x4 ++ t186 : List Int)).bind fun y189 => ((bo_.f k x176004).bind fun t192 => (if y189.length + t192.length < 140737488355328 then ((some (y189 ++ t192 : List Int)).bind fun y195 => ((av_.f k (IntKind.u64.wrap ((x176005.length : Int)))).bind fun t198 => (if y195.length + t198.length < 140737488355328 then (aj_.l1 k (y195 ++ t198) 0 x176000 x176001 x176002 x176003 x176004 x176005 x176006) else (none)))) else (none)))) else (none)))
def aj_.l1 : Nat → List Int → Int → Int → Int → Int → ByteArray → ByteArray → List ByteArray → Int → Option (List Int)
 | 0, _, _, _, _, _, _, _, _, _ => none
 | k + 1, x4, x6, x176000, x176001, x176002, x176003, x176004, x176005, x176006 => if x6 < (x176005.length : Int) then (if 0 ≤ x6 then ((bo_.f k (rdOf ByteArray.empty x176005 x6)).bind fun t205 => (if x4.length + t205.length < 140737488355328 then (aj_.l1 k (x4 ++ t205) (wrap64 (x6 + 1)) x176000 x176001 x176002 x176003 x176004 x176005 x176006) else (none))) else (none)) else (some x4)
end
def aj_.f (k : Nat) (a0_0 : Int) (a0_1 : Int) (a0_2 : Int) (a0_3 : ByteArray) (a0_4 : ByteArray) (l0_5 : List ByteArray) (a0_6 : Int) : Option (List Int) := aj_.l0 k (([a0_0, a0_1, a0_2, a0_6] : List Int)) ([] : List Int) 0 a0_0 a0_1 a0_2 a0_3 a0_4 l0_5 a0_6
set_option maxHeartbeats 8000000 in
set_option maxRecDepth 100000 in
theorem aj_.calls (k : Nat) (a0_0 : Int) (a0_1 : Int) (a0_2 : Int) (a0_3 : ByteArray) (a0_4 : ByteArray) (A0_5 : Option Addr) (c0_5 : Nat) (l0_5 : List ByteArray) (a0_6 : Int) (r : List Int) (w : World) (hr0_5 : Kd.C Kd.string w A0_5 l0_5.length l0_5) (hc0_5 : l0_5.length ≤ c0_5) (h : aj_.f k a0_0 a0_1 a0_2 a0_3 a0_4 l0_5 a0_6 = some r) :
  Calls Tryz.prog 21 #[.agg #[.int .i64 a0_0, .int .i64 a0_1, .int .i64 a0_2, .string a0_3, .string a0_4, .slice A0_5 l0_5.length c0_5, .int .i64 a0_6]] w fun e w' => ∃ v0_ : Value, e = .returned (v0_) ∧ Kd.R (Kd.int .u8) 5 w' w.heap.size (fun _ => True) v0_ r ∧ Below w.heap.size w w' := by
 have hu74 := Tryz.underlying74
 have HR0_5 := c_.mk hr0_5
 have HC0_5 := c_.mk hc0_5
 clear hr0_5 hc0_5
 have HB := c_.mk (Below.refl w.heap.size w)
 have H : (aj_.l0 k (([a0_0, a0_1, a0_2, a0_6] : List Int)) ([] : List Int) 0 a0_0 a0_1 a0_2 a0_3 a0_4 l0_5 a0_6) = some r := h
 clear h
 obtain ⟨y176, hy176⟩ : ∃ y_ : List Int, y_ = (([a0_0, a0_1, a0_2, a0_6] : List Int)) := ⟨_, rfl⟩
 replace H : (aj_.l0 k y176 ([] : List Int) 0 a0_0 a0_1 a0_2 a0_3 a0_4 l0_5 a0_6) = some r := by first | (rw [hy176]; with_reducible exact H) | (have H2_ := (Option.bind_some _ _).symm.trans H; rw [hy176]; with_reducible exact H2_) | (have H2_ := (Option.bind_some _ _).symm.trans H; with_reducible exact H2_) | with_reducible exact H | (rw [hy176]; exact H) | exact H
 have Ny176 := c_.mk hy176
 clear hy176
 have H' := c_.mk H
 clear H
 go_enter Tryz.func21, Tryz.ntmps21
 go_wp2_with (first | ((with_reducible refine be_ (N := 1) rfl ?_); refine bd_ ?hg (N := 1) ?hd (cs := #[.int .i64 a0_0, .int .i64 a0_1, .int .i64 a0_2, .string a0_3, .string a0_4, .slice A0_5 l0_5.length c0_5, .int .i64 a0_6]) (t := 74) ?hr ?_; (case hd => rfl); (case hg => rfl); (case hr => first | (go_simp; done) | (go_simp; rfl)); intro gb175 hg w2 hbox hb; have n0_ := c_.mk (ac_ (HB.out) hb); have n1_ := c_.mk (hbox); have n2_ := c_.mk ((by rw [hg]; exact (v_ (HB.out)) : w.heap.size ≤ gb175)); have n3_ := c_.mk ((by rw [hg]; exact (v_ (HB.out)) : w.heap.size ≤ gb175)); clear HB; have HB := n0_; have BK175 := n1_; have GW175 := n2_; have GE175 := n3_; clear n0_ n1_ n2_ n3_; clear hb hbox hg; have hcz3_0 : w2.cell? ⟨gb175, 0, none⟩ = some (.int .i64 a0_0) := (b_ BK175.out 0).trans rfl; have hcz3_1 : w2.cell? ⟨gb175, 1, none⟩ = some (.int .i64 a0_1) := (b_ BK175.out 1).trans rfl; have hcz3_2 : w2.cell? ⟨gb175, 2, none⟩ = some (.int .i64 a0_2) := (b_ BK175.out 2).trans rfl; have hcz3_3 : w2.cell? ⟨gb175, 3, none⟩ = some (.string a0_3) := (b_ BK175.out 3).trans rfl; have hcz3_4 : w2.cell? ⟨gb175, 4, none⟩ = some (.string a0_4) := (b_ BK175.out 4).trans rfl; have hcz3_5 : w2.cell? ⟨gb175, 5, none⟩ = some (.slice A0_5 l0_5.length c0_5) := (b_ BK175.out 5).trans rfl; have hcz3_6 : w2.cell? ⟨gb175, 6, none⟩ = some (.int .i64 a0_6) := (b_ BK175.out 6).trans rfl; have hfz3_0 := a_ BK175.out 0; have hfz3_1 := a_ BK175.out 1; have hfz3_2 := a_ BK175.out 2; have hfz3_3 := a_ BK175.out 3; have hfz3_4 := a_ BK175.out 4; have hfz3_5 := a_ BK175.out 5; have hfz3_6 := a_ BK175.out 6) | ((with_reducible refine be_ (N := 17) rfl ?_); refine Kd.R_lit (Kd.int .i64) _ 3 ?hg (N := 17) ?hd (xs := ([a0_0, a0_1, a0_2, a0_6] : List Int)) (inner := [.int .i64 a0_0, .int .i64 a0_1, .int .i64 a0_2, .int .i64 a0_6]) (ok := fun _ => True) (okp := fun _ => True) ?hr ?hp (fun _ hk => hk) trivial (Below.refl _ _) (Nat.le_refl _) (by simp) ?_; (case hd => rfl); (case hg => rfl); (case hr => first | (go_simp; done) | (go_simp; rfl)); (case hp => exact (dh_.one (show Kd.M (Kd.int .i64) _ _ _ a0_0 [.int .i64 a0_0] from rfl) (dh_.one (show Kd.M (Kd.int .i64) _ _ _ a0_1 [.int .i64 a0_1] from rfl) (dh_.one (show Kd.M (Kd.int .i64) _ _ _ a0_2 [.int .i64 a0_2] from rfl) (dh_.one (show Kd.M (Kd.int .i64) _ _ _ a0_6 [.int .i64 a0_6] from rfl) (dh_.none _ _)))))); intro v177 w4 ho5 hb hg_ hnew_; clear hg_ hnew_; (first | rw [← Ny176.out] at ho5 | (simp only [Int.reduceToNat] at ho5; rw [← Ny176.out] at ho5)); have n0_ := c_.mk (Kd.R_lower ho5 (v_ (HB.out))); have n1_ := c_.mk (s_ (g := gb175) (o := .cells #[.int .i64 a0_0, .int .i64 a0_1, .int .i64 a0_2, .string a0_3, .string a0_4, .slice A0_5 l0_5.length c0_5, .int .i64 a0_6] 74 (0, 0)) (BK175.out) hb); have n2_ := c_.mk (ac_ (HB.out) hb); clear BK175; clear HB; have HO178 := n0_; have BK175 := n1_; have HB := n2_; clear n0_ n1_ n2_; clear hb ho5))
 go_loopg [4, 5] k (fun kq v4 v5 w' => ∃ (x4_1 : List Int) (x5_1 : Int), v5 = .int .i64 x5_1 ∧ c_ (aj_.l0 kq y176 x4_1 x5_1 a0_0 a0_1 a0_2 a0_3 a0_4 l0_5 a0_6 = some r) ∧ c_ (kq ≤ k) ∧ c_ (Kd.R (Kd.int .i64) 3 w' w.heap.size (fun _ => True) v177 y176) ∧ c_ (Kd.R (Kd.int .u8) 5 w' w.heap.size (fun _ => True) v4 x4_1) ∧ c_ (w'.heap[gb175]? = some (.cells #[.int .i64 a0_0, .int .i64 a0_1, .int .i64 a0_2, .string a0_3, .string a0_4, (.slice A0_5 l0_5.length c0_5), .int .i64 a0_6] 74 (0, 0))) ∧ c_ (Below w.heap.size w w'))
 case atStart => exact ⟨(([] : List Int)), (0), (by first | rfl | (simp; done) | (simp [*]; done)), H', ⟨Nat.le_refl _⟩, ⟨HO178.out⟩, ⟨by first | exact Kd.R_nil _ _ _ _ _ | exact Kd.N_nil _ _ _ _ _ | exact Kd.V_nil _ _ _ _ _ | exact Kd.Q_nil _ _ _ _ _ | exact Kd.S_nil _ _ _ _ _⟩, ⟨BK175.out⟩, ⟨HB.out⟩⟩
 case round =>
  clear H'
  try clear c2
  try clear p2
  try clear hcz3_0
  try clear hcz3_1
  try clear hcz3_2
  try clear hcz3_3
  try clear hcz3_4
  try clear hcz3_5
  try clear hcz3_6
  try clear hfz3_0
  try clear hfz3_1
  try clear hfz3_2
  try clear hfz3_3
  try clear hfz3_4
  try clear hfz3_5
  try clear hfz3_6
  obtain ⟨x4_1, x5_1, rfl, HA, HK1, HO_3, HO_4, BK175, HB⟩ := hrel
  cases gk with
  | zero => exact absurd HA.out (by simp [aj_.l0])
  | succ k1 =>
   have H := HA.out
   clear HA
   simp only [aj_.l0] at H
   by_cases c6 : x5_1 < 4
   ·rw [if_pos c6] at H
    have c6b0 : decide (x5_1 < 4) = true := decide_eq_true c6
    clear c6
    by_cases c7 : 0 ≤ x5_1
    ·rw [if_pos c7] at H
     have c7b0 : decide (0 ≤ x5_1) = true := decide_eq_true c7
     clear c7
     by_cases c8 : x5_1 < (y176.length : Int)
     ·rw [if_pos c8] at H
      have c8b0 : decide (x5_1 < (y176.length : Int)) = true := decide_eq_true c8
      clear c8
      replace H := Option.bind_eq_some_iff.mp H
      obtain ⟨t180, A90, H⟩ := H
      replace H : (if x4_1.length + t180.length < 140737488355328 then (aj_.l0 k1 y176 (x4_1 ++ t180) (wrap64 (x5_1 + 1)) a0_0 a0_1 a0_2 a0_3 a0_4 l0_5 a0_6) else (none)) = some r := H
      have A9 := c_.mk A90
      clear A90
      by_cases c10 : x4_1.length + t180.length < 140737488355328
      ·rw [if_pos c10] at H
       have LMc10 := c_.mk c10
       clear c10
       obtain ⟨y183, hy183⟩ : ∃ y_ : List Int, y_ = (x4_1 ++ t180) := ⟨_, rfl⟩
       replace H : (aj_.l0 k1 y176 y183 (wrap64 (x5_1 + 1)) a0_0 a0_1 a0_2 a0_3 a0_4 l0_5 a0_6) = some r := by first | (rw [hy183]; with_reducible exact H) | (have H2_ := (Option.bind_some _ _).symm.trans H; rw [hy183]; with_reducible exact H2_) | (have H2_ := (Option.bind_some _ _).symm.trans H; with_reducible exact H2_) | with_reducible exact H | (rw [hy183]; exact H) | exact H
       have Ny183 := c_.mk hy183
       clear hy183
       have H' := c_.mk H
       clear H
       obtain ⟨Ao11, co11, eo11⟩ := Kd.R_slice HO_3.out
       subst eo11
       have p179 : 0 ≤ (x5_1 : Int) := of_decide_eq_true (by first | (with_reducible assumption) | assumption)
       have q179 : x5_1 < (y176.length : Int) := of_decide_eq_true (by first | (with_reducible assumption) | assumption)
       obtain ⟨ad179, e179, hx179_0⟩ := Kd.at_int (Kd.R_reads' HO_3.out).2.2 x5_1 p179 q179
       cases e179
       replace p179 := eq_true p179
       replace q179 := eq_true q179
       go_wp2_with (first | ((with_reducible refine ah_ (f := 34) rfl ?_); refine bm_ (some 28) rfl rfl Tryz.func34 (by kernel_rfl) rfl #[.int .u64 (IntKind.u64.wrap (rd y176 x5_1))] rfl (by (try simp only [List.map_toArray, List.map_cons, List.map_nil]); first | done | rfl | (simp only [List.length_drop, List.length_take]; rfl)) ?_; (with_reducible refine (av_.calls k1 (IntKind.u64.wrap (rd y176 x5_1)) t180 _ A9.out).mono ?_); rintro e w12 ⟨v181, rfl, ho0, hb⟩; refine ⟨_, rfl, ?_⟩; have n0_ := c_.mk (Kd.R_below (HO_3.out) hb); have n1_ := c_.mk (Kd.R_elder' (HO_4.out) (Kd.R_base ho0) hb); have n2_ := c_.mk (Kd.R_lower (Kd.R_new' ho0 (Kd.R_lt (HO_4.out))) (v_ (HB.out))); have n3_ := c_.mk (s_ (g := gb175) (o := .cells #[.int .i64 a0_0, .int .i64 a0_1, .int .i64 a0_2, .string a0_3, .string a0_4, .slice A0_5 l0_5.length c0_5, .int .i64 a0_6] 74 (0, 0)) (BK175.out) hb); have n4_ := c_.mk (ac_ (HB.out) hb); clear HO_3; clear HO_4; clear BK175; clear HB; have HO_3 := n0_; have HO_4 := n1_; have HO182 := n2_; have BK175 := n3_; have HB := n4_; clear n0_ n1_ n2_ n3_ n4_; (try clear hb); (try clear hb2); (try clear hk); (try clear hi); (try clear ho0); obtain ⟨Ao14, co14, eo14⟩ := Kd.R_slice HO182.out; subst eo14) | ((with_reducible refine bw_ (b := .append) (xs := #[.tmp 22, .tmp 28]) rfl ?_); at_builtin; refine Kd.R_append_rows (Kd.int .u8) (w0 := w) w.heap.size rfl (.tmp 22) (.tmp 28) 70 5 (.int .u8 0) 1 rfl Tryz.underlying70 info5 rfl (by decide) (by omega) u4 x4_1 t180 _ _ _ (fun k_ => some k_ ≠ (.slice Ao14 t180.length co14 : Value).ownBlock) (fun _ => False) rfl rfl ?aO ?aR (fun _ _ h => h) (fun _ h => h.elim) ?aF ?aB ?aS ?aL ?_; (case aR => repeat (first | exact (Kd.R_reads' HO182.out).2.2 | (with_reducible refine Kd.C_alloc ?_ _) | (with_reducible refine Kd.C_drewN ?_ _) | (with_reducible refine Kd.C_drew ?_))); (case aB => exact (HB.out)); (case aF => exact (fun k_ hk => Kd.fresh' (Kd.R_lt (HO182.out)) k_ hk)); (case aO => exact (Kd.R_mono HO_4.out (fun _ hk => hk.2))); (case aS => exact (v_ (HB.out))); (case aL => have := LMc10.out; omega); intro v184 w13 ho hb hg hat; rw [← Ny183.out] at ho; have n0_ := c_.mk (Kd.R_over' (HO_3.out) (Kd.R_typed (HO_4.out)) (by decide) hg); have n1_ := c_.mk (bu_ (g := gb175) (o := .cells #[.int .i64 a0_0, .int .i64 a0_1, .int .i64 a0_2, .string a0_3, .string a0_4, .slice A0_5 l0_5.length c0_5, .int .i64 a0_6] 74 (0, 0)) (BK175.out) hg (Kd.R_ne HO_4.out BK175.out (by decide))); have n2_ := c_.mk (Kd.R_after (ok := (fun _ => True)) (HO182.out) hg hat); have n3_ := c_.mk (hb); have n4_ := c_.mk (ho); clear HO_3; clear BK175; clear HO182; clear HB; clear HO_4; have HO_3 := n0_; have BK175 := n1_; have HO182 := n2_; have HB := n3_; have HO185 := n4_; clear n0_ n1_ n2_ n3_ n4_; clear ho hb hg hat))
       go_roundg k1
       case measure => have := HK1.out; omega
       case rel => exact ⟨(y183), (wrap64 (x5_1 + 1)), (by first | rfl | (simp; done) | (simp [*]; done)), H', ⟨by have := HK1.out; omega⟩, ⟨HO_3.out⟩, ⟨Kd.R_mono HO185.out (fun _ hk => trivial)⟩, ⟨BK175.out⟩, ⟨HB.out⟩⟩
      ·rw [if_neg c10] at H
       exact absurd H (by simp)
     ·rw [if_neg c8] at H
      exact absurd H (by simp)
    ·rw [if_neg c7] at H
     exact absurd H (by simp)
   ·rw [if_neg c6] at H
    have c6b0 : decide (x5_1 < 4) = false := decide_eq_false c6
    clear c6
    replace H := Option.bind_eq_some_iff.mp H
    obtain ⟨t186, A150, H⟩ := H
    replace H : (if x4_1.length + t186.length < 140737488355328 then ((some (x4_1 ++ t186 : List Int)).bind fun y189 => ((bo_.f k1 a0_4).bind fun t192 => (if y189.length + t192.length < 140737488355328 then ((some (y189 ++ t192 : List Int)).bind fun y195 => ((av_.f k1 (IntKind.u64.wrap ((l0_5.length : Int)))).bind fun t198 => (if y195.length + t198.length < 140737488355328 then (aj_.l1 k1 (y195 ++ t198) 0 a0_0 a0_1 a0_2 a0_3 a0_4 l0_5 a0_6) else (none)))) else (none)))) else (none)) = some r := H
    have A15 := c_.mk A150
    clear A150
    by_cases c16 : x4_1.length + t186.length < 140737488355328
    ·rw [if_pos c16] at H
     have LMc16 := c_.mk c16
     clear c16
     obtain ⟨y189, hy189⟩ : ∃ y_ : List Int, y_ = (x4_1 ++ t186) := ⟨_, rfl⟩
     replace H : ((bo_.f k1 a0_4).bind fun t192 => (if y189.length + t192.length < 140737488355328 then ((some (y189 ++ t192 : List Int)).bind fun y195 => ((av_.f k1 (IntKind.u64.wrap ((l0_5.length : Int)))).bind fun t198 => (if y195.length + t198.length < 140737488355328 then (aj_.l1 k1 (y195 ++ t198) 0 a0_0 a0_1 a0_2 a0_3 a0_4 l0_5 a0_6) else (none)))) else (none))) = some r := by first | (rw [hy189]; with_reducible exact H) | (have H2_ := (Option.bind_some _ _).symm.trans H; rw [hy189]; with_reducible exact H2_) | (have H2_ := (Option.bind_some _ _).symm.trans H; with_reducible exact H2_) | with_reducible exact H | (rw [hy189]; exact H) | exact H
     have Ny189 := c_.mk hy189
     clear hy189
     replace H := Option.bind_eq_some_iff.mp H
     obtain ⟨t192, A170, H⟩ := H
     replace H : (if y189.length + t192.length < 140737488355328 then ((some (y189 ++ t192 : List Int)).bind fun y195 => ((av_.f k1 (IntKind.u64.wrap ((l0_5.length : Int)))).bind fun t198 => (if y195.length + t198.length < 140737488355328 then (aj_.l1 k1 (y195 ++ t198) 0 a0_0 a0_1 a0_2 a0_3 a0_4 l0_5 a0_6) else (none)))) else (none)) = some r := H
     have A17 := c_.mk A170
     clear A170
     by_cases c18 : y189.length + t192.length < 140737488355328
     ·rw [if_pos c18] at H
      have LMc18 := c_.mk c18
      clear c18
      obtain ⟨y195, hy195⟩ : ∃ y_ : List Int, y_ = (y189 ++ t192) := ⟨_, rfl⟩
      replace H : ((av_.f k1 (IntKind.u64.wrap ((l0_5.length : Int)))).bind fun t198 => (if y195.length + t198.length < 140737488355328 then (aj_.l1 k1 (y195 ++ t198) 0 a0_0 a0_1 a0_2 a0_3 a0_4 l0_5 a0_6) else (none))) = some r := by first | (rw [hy195]; with_reducible exact H) | (have H2_ := (Option.bind_some _ _).symm.trans H; rw [hy195]; with_reducible exact H2_) | (have H2_ := (Option.bind_some _ _).symm.trans H; with_reducible exact H2_) | with_reducible exact H | (rw [hy195]; exact H) | exact H
      have Ny195 := c_.mk hy195
      clear hy195
      replace H := Option.bind_eq_some_iff.mp H
      obtain ⟨t198, A190, H⟩ := H
      replace H : (if y195.length + t198.length < 140737488355328 then (aj_.l1 k1 (y195 ++ t198) 0 a0_0 a0_1 a0_2 a0_3 a0_4 l0_5 a0_6) else (none)) = some r := H
      have A19 := c_.mk A190
      clear A190
      by_cases c20 : y195.length + t198.length < 140737488355328
      ·rw [if_pos c20] at H
       have LMc20 := c_.mk c20
       clear c20
       obtain ⟨y201, hy201⟩ : ∃ y_ : List Int, y_ = (y195 ++ t198) := ⟨_, rfl⟩
       replace H : (aj_.l1 k1 y201 0 a0_0 a0_1 a0_2 a0_3 a0_4 l0_5 a0_6) = some r := by first | (rw [hy201]; with_reducible exact H) | (have H2_ := (Option.bind_some _ _).symm.trans H; rw [hy201]; with_reducible exact H2_) | (have H2_ := (Option.bind_some _ _).symm.trans H; with_reducible exact H2_) | with_reducible exact H | (rw [hy201]; exact H) | exact H
       have Ny201 := c_.mk hy201
       clear hy201
       have H' := c_.mk H
       clear H
       have hcz21_0 : wr.cell? ⟨gb175, 0, none⟩ = some (.int .i64 a0_0) := (b_ BK175.out 0).trans rfl
       have hcz21_1 : wr.cell? ⟨gb175, 1, none⟩ = some (.int .i64 a0_1) := (b_ BK175.out 1).trans rfl
       have hcz21_2 : wr.cell? ⟨gb175, 2, none⟩ = some (.int .i64 a0_2) := (b_ BK175.out 2).trans rfl
       have hcz21_3 : wr.cell? ⟨gb175, 3, none⟩ = some (.string a0_3) := (b_ BK175.out 3).trans rfl
       have hcz21_4 : wr.cell? ⟨gb175, 4, none⟩ = some (.string a0_4) := (b_ BK175.out 4).trans rfl
       have hcz21_5 : wr.cell? ⟨gb175, 5, none⟩ = some (.slice A0_5 l0_5.length c0_5) := (b_ BK175.out 5).trans rfl
       have hcz21_6 : wr.cell? ⟨gb175, 6, none⟩ = some (.int .i64 a0_6) := (b_ BK175.out 6).trans rfl
       have hfz21_0 := a_ BK175.out 0
       have hfz21_1 := a_ BK175.out 1
       have hfz21_2 := a_ BK175.out 2
       have hfz21_3 := a_ BK175.out 3
       have hfz21_4 := a_ BK175.out 4
       have hfz21_5 := a_ BK175.out 5
       have hfz21_6 := a_ BK175.out 6
       go_wp2_with (first | ((with_reducible refine ah_ (f := 35) rfl ?_); refine bm_ (some 34) rfl rfl Tryz.func35 (by kernel_rfl) rfl #[.string a0_3] rfl (by (try simp only [List.map_toArray, List.map_cons, List.map_nil]); first | done | rfl | (simp only [List.length_drop, List.length_take]; rfl)) ?_; (with_reducible refine (bo_.calls k1 a0_3 t186 _ A15.out).mono ?_); rintro e w22 ⟨v187, rfl, ho0, hb⟩; refine ⟨_, rfl, ?_⟩; have n0_ := c_.mk (Kd.R_below (HO_3.out) hb); have n1_ := c_.mk (Kd.R_elder' (HO_4.out) (Kd.R_base ho0) hb); have n2_ := c_.mk (Kd.R_lower (Kd.R_new' ho0 (Kd.R_lt (HO_4.out))) (v_ (HB.out))); have n3_ := c_.mk (s_ (g := gb175) (o := .cells #[.int .i64 a0_0, .int .i64 a0_1, .int .i64 a0_2, .string a0_3, .string a0_4, .slice A0_5 l0_5.length c0_5, .int .i64 a0_6] 74 (0, 0)) (BK175.out) hb); have n4_ := c_.mk (ac_ (HB.out) hb); clear HO_3; clear HO_4; clear BK175; clear HB; have HO_3 := n0_; have HO_4 := n1_; have HO188 := n2_; have BK175 := n3_; have HB := n4_; clear n0_ n1_ n2_ n3_ n4_; (try clear hb); (try clear hb2); (try clear hk); (try clear hi); (try clear ho0); obtain ⟨Ao24, co24, eo24⟩ := Kd.R_slice HO188.out; subst eo24) | ((with_reducible refine bw_ (b := .append) (xs := #[.tmp 30, .tmp 34]) rfl ?_); at_builtin; refine Kd.R_append_rows (Kd.int .u8) (w0 := w) w.heap.size rfl (.tmp 30) (.tmp 34) 70 5 (.int .u8 0) 1 rfl Tryz.underlying70 info5 rfl (by decide) (by omega) u4 x4_1 t186 _ _ _ (fun k_ => some k_ ≠ (.slice Ao24 t186.length co24 : Value).ownBlock) (fun _ => False) rfl rfl ?aO ?aR (fun _ _ h => h) (fun _ h => h.elim) ?aF ?aB ?aS ?aL ?_; (case aR => repeat (first | exact (Kd.R_reads' HO188.out).2.2 | (with_reducible refine Kd.C_alloc ?_ _) | (with_reducible refine Kd.C_drewN ?_ _) | (with_reducible refine Kd.C_drew ?_))); (case aB => exact (HB.out)); (case aF => exact (fun k_ hk => Kd.fresh' (Kd.R_lt (HO188.out)) k_ hk)); (case aO => exact (Kd.R_mono HO_4.out (fun _ hk => hk.2))); (case aS => exact (v_ (HB.out))); (case aL => have := LMc16.out; omega); intro v190 w23 ho hb hg hat; rw [← Ny189.out] at ho; have n0_ := c_.mk (Kd.R_over' (HO_3.out) (Kd.R_typed (HO_4.out)) (by decide) hg); have n1_ := c_.mk (bu_ (g := gb175) (o := .cells #[.int .i64 a0_0, .int .i64 a0_1, .int .i64 a0_2, .string a0_3, .string a0_4, .slice A0_5 l0_5.length c0_5, .int .i64 a0_6] 74 (0, 0)) (BK175.out) hg (Kd.R_ne HO_4.out BK175.out (by decide))); have n2_ := c_.mk (Kd.R_after (ok := (fun _ => True)) (HO188.out) hg hat); have n3_ := c_.mk (hb); have n4_ := c_.mk (ho); clear HO_3; clear BK175; clear HO188; clear HB; clear HO_4; have HO_3 := n0_; have BK175 := n1_; have HO188 := n2_; have HB := n3_; have HO191 := n4_; clear n0_ n1_ n2_ n3_ n4_; clear ho hb hg hat; have hcz25_0 : w23.cell? ⟨gb175, 0, none⟩ = some (.int .i64 a0_0) := (b_ BK175.out 0).trans rfl; have hcz25_1 : w23.cell? ⟨gb175, 1, none⟩ = some (.int .i64 a0_1) := (b_ BK175.out 1).trans rfl; have hcz25_2 : w23.cell? ⟨gb175, 2, none⟩ = some (.int .i64 a0_2) := (b_ BK175.out 2).trans rfl; have hcz25_3 : w23.cell? ⟨gb175, 3, none⟩ = some (.string a0_3) := (b_ BK175.out 3).trans rfl; have hcz25_4 : w23.cell? ⟨gb175, 4, none⟩ = some (.string a0_4) := (b_ BK175.out 4).trans rfl; have hcz25_5 : w23.cell? ⟨gb175, 5, none⟩ = some (.slice A0_5 l0_5.length c0_5) := (b_ BK175.out 5).trans rfl; have hcz25_6 : w23.cell? ⟨gb175, 6, none⟩ = some (.int .i64 a0_6) := (b_ BK175.out 6).trans rfl; have hfz25_0 := a_ BK175.out 0; have hfz25_1 := a_ BK175.out 1; have hfz25_2 := a_ BK175.out 2; have hfz25_3 := a_ BK175.out 3; have hfz25_4 := a_ BK175.out 4; have hfz25_5 := a_ BK175.out 5; have hfz25_6 := a_ BK175.out 6) | ((with_reducible refine ah_ (f := 35) rfl ?_); refine bm_ (some 40) rfl rfl Tryz.func35 (by kernel_rfl) rfl #[.string a0_4] rfl (by (try simp only [List.map_toArray, List.map_cons, List.map_nil]); first | done | rfl | (simp only [List.length_drop, List.length_take]; rfl)) ?_; (with_reducible refine (bo_.calls k1 a0_4 t192 _ A17.out).mono ?_); rintro e w26 ⟨v193, rfl, ho0, hb⟩; refine ⟨_, rfl, ?_⟩; have n0_ := c_.mk (Kd.R_below (HO_3.out) hb); have n1_ := c_.mk (Kd.R_elder' (HO188.out) (Kd.R_base ho0) hb); have n2_ := c_.mk (Kd.R_elder' (HO191.out) (Kd.R_base ho0) hb); have n3_ := c_.mk (Kd.R_lower (Kd.R_new' (Kd.R_new' ho0 (Kd.R_lt (HO188.out))) (Kd.R_lt (HO191.out))) (v_ (HB.out))); have n4_ := c_.mk (s_ (g := gb175) (o := .cells #[.int .i64 a0_0, .int .i64 a0_1, .int .i64 a0_2, .string a0_3, .string a0_4, .slice A0_5 l0_5.length c0_5, .int .i64 a0_6] 74 (0, 0)) (BK175.out) hb); have n5_ := c_.mk (ac_ (HB.out) hb); clear HO_3; clear HO188; clear HO191; clear BK175; clear HB; have HO_3 := n0_; have HO188 := n1_; have HO191 := n2_; have HO194 := n3_; have BK175 := n4_; have HB := n5_; clear n0_ n1_ n2_ n3_ n4_ n5_; (try clear hb); (try clear hb2); (try clear hk); (try clear hi); (try clear ho0); obtain ⟨Ao28, co28, eo28⟩ := Kd.R_slice HO194.out; subst eo28) | ((with_reducible refine bw_ (b := .append) (xs := #[.tmp 36, .tmp 40]) rfl ?_); at_builtin; refine Kd.R_append_rows (Kd.int .u8) (w0 := w) w.heap.size rfl (.tmp 36) (.tmp 40) 70 5 (.int .u8 0) 1 rfl Tryz.underlying70 info5 rfl (by decide) (by omega) v190 y189 t192 _ _ _ (fun k_ => some k_ ≠ (.slice Ao24 t186.length co24 : Value).ownBlock ∧ some k_ ≠ (.slice Ao28 t192.length co28 : Value).ownBlock) (fun _ => False) rfl rfl ?aO ?aR (fun _ _ h => h) (fun _ h => h.elim) ?aF ?aB ?aS ?aL ?_; (case aR => repeat (first | exact (Kd.R_reads' HO194.out).2.2 | (with_reducible refine Kd.C_alloc ?_ _) | (with_reducible refine Kd.C_drewN ?_ _) | (with_reducible refine Kd.C_drew ?_))); (case aB => exact (HB.out)); (case aF => exact (fun k_ hk => ⟨Kd.fresh' (Kd.R_lt (HO188.out)) k_ hk, Kd.fresh' (Kd.R_lt (HO194.out)) k_ hk⟩)); (case aO => exact (HO191.out)); (case aS => exact (v_ (HB.out))); (case aL => have := LMc18.out; omega); intro v196 w27 ho hb hg hat; rw [← Ny195.out] at ho; have n0_ := c_.mk (Kd.R_over' (HO_3.out) (Kd.R_typed (HO191.out)) (by decide) hg); have n1_ := c_.mk (bu_ (g := gb175) (o := .cells #[.int .i64 a0_0, .int .i64 a0_1, .int .i64 a0_2, .string a0_3, .string a0_4, .slice A0_5 l0_5.length c0_5, .int .i64 a0_6] 74 (0, 0)) (BK175.out) hg (Kd.R_ne HO191.out BK175.out (by decide))); have n2_ := c_.mk (Kd.R_after (ok := (fun k_ => some k_ ≠ (.slice Ao28 t192.length co28 : Value).ownBlock)) (Kd.R_mono HO188.out (fun _ hk => ⟨hk.2, hk.1.2⟩)) hg hat); have n3_ := c_.mk (Kd.R_after (ok := (fun k_ => some k_ ≠ (.slice Ao24 t186.length co24 : Value).ownBlock)) (Kd.R_mono HO194.out (fun _ hk => ⟨hk.1.2, hk.2⟩)) hg hat); have n4_ := c_.mk (hb); have n5_ := c_.mk (ho); clear HO_3; clear BK175; clear HO188; clear HO194; clear HB; clear HO191; have HO_3 := n0_; have BK175 := n1_; have HO188 := n2_; have HO194 := n3_; have HB := n4_; have HO197 := n5_; clear n0_ n1_ n2_ n3_ n4_ n5_; clear ho hb hg hat; have hcz29_0 : w27.cell? ⟨gb175, 0, none⟩ = some (.int .i64 a0_0) := (b_ BK175.out 0).trans rfl; have hcz29_1 : w27.cell? ⟨gb175, 1, none⟩ = some (.int .i64 a0_1) := (b_ BK175.out 1).trans rfl; have hcz29_2 : w27.cell? ⟨gb175, 2, none⟩ = some (.int .i64 a0_2) := (b_ BK175.out 2).trans rfl; have hcz29_3 : w27.cell? ⟨gb175, 3, none⟩ = some (.string a0_3) := (b_ BK175.out 3).trans rfl; have hcz29_4 : w27.cell? ⟨gb175, 4, none⟩ = some (.string a0_4) := (b_ BK175.out 4).trans rfl; have hcz29_5 : w27.cell? ⟨gb175, 5, none⟩ = some (.slice A0_5 l0_5.length c0_5) := (b_ BK175.out 5).trans rfl; have hcz29_6 : w27.cell? ⟨gb175, 6, none⟩ = some (.int .i64 a0_6) := (b_ BK175.out 6).trans rfl; have hfz29_0 := a_ BK175.out 0; have hfz29_1 := a_ BK175.out 1; have hfz29_2 := a_ BK175.out 2; have hfz29_3 := a_ BK175.out 3; have hfz29_4 := a_ BK175.out 4; have hfz29_5 := a_ BK175.out 5; have hfz29_6 := a_ BK175.out 6) | ((with_reducible refine ah_ (f := 34) rfl ?_); refine bm_ (some 48) rfl rfl Tryz.func34 (by kernel_rfl) rfl #[.int .u64 (IntKind.u64.wrap ((l0_5.length : Int)))] rfl (by (try simp only [List.map_toArray, List.map_cons, List.map_nil]); first | done | rfl | (simp only [List.length_drop, List.length_take]; rfl)) ?_; (with_reducible refine (av_.calls k1 (IntKind.u64.wrap ((l0_5.length : Int))) t198 _ A19.out).mono ?_); rintro e w30 ⟨v199, rfl, ho0, hb⟩; refine ⟨_, rfl, ?_⟩; have n0_ := c_.mk (Kd.R_below (HO_3.out) hb); have n1_ := c_.mk (Kd.R_elder' (HO188.out) (Kd.R_base ho0) hb); have n2_ := c_.mk (Kd.R_elder' (HO194.out) (Kd.R_base ho0) hb); have n3_ := c_.mk (Kd.R_elder' (HO197.out) (Kd.R_base ho0) hb); have n4_ := c_.mk (Kd.R_lower (Kd.R_new' (Kd.R_new' (Kd.R_new' ho0 (Kd.R_lt (HO188.out))) (Kd.R_lt (HO194.out))) (Kd.R_lt (HO197.out))) (v_ (HB.out))); have n5_ := c_.mk (s_ (g := gb175) (o := .cells #[.int .i64 a0_0, .int .i64 a0_1, .int .i64 a0_2, .string a0_3, .string a0_4, .slice A0_5 l0_5.length c0_5, .int .i64 a0_6] 74 (0, 0)) (BK175.out) hb); have n6_ := c_.mk (ac_ (HB.out) hb); clear HO_3; clear HO188; clear HO194; clear HO197; clear BK175; clear HB; have HO_3 := n0_; have HO188 := n1_; have HO194 := n2_; have HO197 := n3_; have HO200 := n4_; have BK175 := n5_; have HB := n6_; clear n0_ n1_ n2_ n3_ n4_ n5_ n6_; (try clear hb); (try clear hb2); (try clear hk); (try clear hi); (try clear ho0); obtain ⟨Ao32, co32, eo32⟩ := Kd.R_slice HO200.out; subst eo32) | ((with_reducible refine bw_ (b := .append) (xs := #[.tmp 42, .tmp 48]) rfl ?_); at_builtin; refine Kd.R_append_rows (Kd.int .u8) (w0 := w) w.heap.size rfl (.tmp 42) (.tmp 48) 70 5 (.int .u8 0) 1 rfl Tryz.underlying70 info5 rfl (by decide) (by omega) v196 y195 t198 _ _ _ (fun k_ => some k_ ≠ (.slice Ao24 t186.length co24 : Value).ownBlock ∧ some k_ ≠ (.slice Ao28 t192.length co28 : Value).ownBlock ∧ some k_ ≠ (.slice Ao32 t198.length co32 : Value).ownBlock) (fun _ => False) rfl rfl ?aO ?aR (fun _ _ h => h) (fun _ h => h.elim) ?aF ?aB ?aS ?aL ?_; (case aR => repeat (first | exact (Kd.R_reads' HO200.out).2.2 | (with_reducible refine Kd.C_alloc ?_ _) | (with_reducible refine Kd.C_drewN ?_ _) | (with_reducible refine Kd.C_drew ?_))); (case aB => exact (HB.out)); (case aF => exact (fun k_ hk => ⟨Kd.fresh' (Kd.R_lt (HO188.out)) k_ hk, Kd.fresh' (Kd.R_lt (HO194.out)) k_ hk, Kd.fresh' (Kd.R_lt (HO200.out)) k_ hk⟩)); (case aO => exact (Kd.R_mono HO197.out (fun _ hk => ⟨hk.1.1, ⟨hk.1.2, hk.2⟩⟩))); (case aS => exact (v_ (HB.out))); (case aL => have := LMc20.out; omega); intro v202 w31 ho hb hg hat; rw [← Ny201.out] at ho; have n0_ := c_.mk (Kd.R_over' (HO_3.out) (Kd.R_typed (HO197.out)) (by decide) hg); have n1_ := c_.mk (bu_ (g := gb175) (o := .cells #[.int .i64 a0_0, .int .i64 a0_1, .int .i64 a0_2, .string a0_3, .string a0_4, .slice A0_5 l0_5.length c0_5, .int .i64 a0_6] 74 (0, 0)) (BK175.out) hg (Kd.R_ne HO197.out BK175.out (by decide))); have n2_ := c_.mk (Kd.R_after (ok := (fun k_ => some k_ ≠ (.slice Ao28 t192.length co28 : Value).ownBlock ∧ some k_ ≠ (.slice Ao32 t198.length co32 : Value).ownBlock)) (Kd.R_mono HO188.out (fun _ hk => ⟨⟨hk.1.1, hk.2⟩, hk.1.2⟩)) hg hat); have n3_ := c_.mk (Kd.R_after (ok := (fun k_ => some k_ ≠ (.slice Ao24 t186.length co24 : Value).ownBlock ∧ some k_ ≠ (.slice Ao32 t198.length co32 : Value).ownBlock)) (Kd.R_mono HO194.out (fun _ hk => ⟨⟨hk.1.1, hk.2⟩, hk.1.2⟩)) hg hat); have n4_ := c_.mk (Kd.R_after (ok := (fun k_ => some k_ ≠ (.slice Ao24 t186.length co24 : Value).ownBlock ∧ some k_ ≠ (.slice Ao28 t192.length co28 : Value).ownBlock)) (Kd.R_mono HO200.out (fun _ hk => ⟨⟨hk.1.1.2, hk.1.2⟩, hk.2⟩)) hg hat); have n5_ := c_.mk (hb); have n6_ := c_.mk (ho); clear HO_3; clear BK175; clear HO188; clear HO194; clear HO200; clear HB; clear HO197; have HO_3 := n0_; have BK175 := n1_; have HO188 := n2_; have HO194 := n3_; have HO200 := n4_; have HB := n5_; have HO203 := n6_; clear n0_ n1_ n2_ n3_ n4_ n5_ n6_; clear ho hb hg hat))
       go_loopg [4, 6] k1 (fun kq v4 v6 w' => ∃ (x4_2 : List Int) (x6_2 : Int), v6 = .int .i64 x6_2 ∧ c_ (aj_.l1 kq x4_2 x6_2 a0_0 a0_1 a0_2 a0_3 a0_4 l0_5 a0_6 = some r) ∧ c_ (kq ≤ k1) ∧ c_ (Kd.R (Kd.int .u8) 5 w' w.heap.size (fun _ => True) v4 x4_2) ∧ c_ (w'.heap[gb175]? = some (.cells #[.int .i64 a0_0, .int .i64 a0_1, .int .i64 a0_2, .string a0_3, .string a0_4, (.slice A0_5 l0_5.length c0_5), .int .i64 a0_6] 74 (0, 0))) ∧ c_ (Below w.heap.size w w'))
       case atStart => exact ⟨(y201), (0), (by first | rfl | (simp; done) | (simp [*]; done)), H', ⟨Nat.le_refl _⟩, ⟨Kd.R_mono HO203.out (fun _ hk => trivial)⟩, ⟨BK175.out⟩, ⟨HB.out⟩⟩
       case round =>
        clear H'
        try clear c1
        try clear p1
        try clear q1
        try clear hx1
        try clear c2
        try clear p2
        try clear c3
        try clear c6
        try clear c6b0
        try clear p6
        try clear c7
        try clear c7b0
        try clear c8
        try clear c8b0
        try clear c10
        try clear c16
        try clear p17
        try clear q17
        try clear hx17
        try clear c18
        try clear c20
        try clear c21
        try clear hcz21_0
        try clear hcz21_1
        try clear hcz21_2
        try clear hcz21_3
        try clear hcz21_4
        try clear hcz21_5
        try clear hcz21_6
        try clear hcz25_0
        try clear hcz25_1
        try clear hcz25_2
        try clear hcz25_3
        try clear hcz25_4
        try clear hcz25_5
        try clear hcz25_6
        try clear hcz29_0
        try clear hcz29_1
        try clear hcz29_2
        try clear hcz29_3
        try clear hcz29_4
        try clear hcz29_5
        try clear hcz29_6
        try clear hcz3_0
        try clear hcz3_1
        try clear hcz3_2
        try clear hcz3_3
        try clear hcz3_4
        try clear hcz3_5
        try clear hcz3_6
        try clear hfz21_0
        try clear hfz21_1
        try clear hfz21_2
        try clear hfz21_3
        try clear hfz21_4
        try clear hfz21_5
        try clear hfz21_6
        try clear hfz25_0
        try clear hfz25_1
        try clear hfz25_2
        try clear hfz25_3
        try clear hfz25_4
        try clear hfz25_5
        try clear hfz25_6
        try clear hfz29_0
        try clear hfz29_1
        try clear hfz29_2
        try clear hfz29_3
        try clear hfz29_4
        try clear hfz29_5
        try clear hfz29_6
        try clear hfz3_0
        try clear hfz3_1
        try clear hfz3_2
        try clear hfz3_3
        try clear hfz3_4
        try clear hfz3_5
        try clear hfz3_6
        try clear hx179_0
        try clear p179
        try clear p2
        try clear q179
        obtain ⟨x4_2, x6_2, rfl, HA, HK2, HO_4, BK175, HB⟩ := hrel
        cases gk with
        | zero => exact absurd HA.out (by simp [aj_.l1])
        | succ k2 =>
         have H := HA.out
         clear HA
         simp only [aj_.l1] at H
         by_cases c33 : x6_2 < (l0_5.length : Int)
         ·rw [if_pos c33] at H
          have c33b0 : decide (x6_2 < (l0_5.length : Int)) = true := decide_eq_true c33
          clear c33
          by_cases c34 : 0 ≤ x6_2
          ·rw [if_pos c34] at H
           have c34b0 : decide (0 ≤ x6_2) = true := decide_eq_true c34
           clear c34
           replace H := Option.bind_eq_some_iff.mp H
           obtain ⟨t205, A350, H⟩ := H
           replace H : (if x4_2.length + t205.length < 140737488355328 then (aj_.l1 k2 (x4_2 ++ t205) (wrap64 (x6_2 + 1)) a0_0 a0_1 a0_2 a0_3 a0_4 l0_5 a0_6) else (none)) = some r := H
           have A35 := c_.mk A350
           clear A350
           by_cases c36 : x4_2.length + t205.length < 140737488355328
           ·rw [if_pos c36] at H
            have LMc36 := c_.mk c36
            clear c36
            obtain ⟨y208, hy208⟩ : ∃ y_ : List Int, y_ = (x4_2 ++ t205) := ⟨_, rfl⟩
            replace H : (aj_.l1 k2 y208 (wrap64 (x6_2 + 1)) a0_0 a0_1 a0_2 a0_3 a0_4 l0_5 a0_6) = some r := by first | (rw [hy208]; with_reducible exact H) | (have H2_ := (Option.bind_some _ _).symm.trans H; rw [hy208]; with_reducible exact H2_) | (have H2_ := (Option.bind_some _ _).symm.trans H; with_reducible exact H2_) | with_reducible exact H | (rw [hy208]; exact H) | exact H
            have Ny208 := c_.mk hy208
            clear hy208
            have H' := c_.mk H
            clear H
            have hcz37_0 : wr.cell? ⟨gb175, 0, none⟩ = some (.int .i64 a0_0) := (b_ BK175.out 0).trans rfl
            have hcz37_1 : wr.cell? ⟨gb175, 1, none⟩ = some (.int .i64 a0_1) := (b_ BK175.out 1).trans rfl
            have hcz37_2 : wr.cell? ⟨gb175, 2, none⟩ = some (.int .i64 a0_2) := (b_ BK175.out 2).trans rfl
            have hcz37_3 : wr.cell? ⟨gb175, 3, none⟩ = some (.string a0_3) := (b_ BK175.out 3).trans rfl
            have hcz37_4 : wr.cell? ⟨gb175, 4, none⟩ = some (.string a0_4) := (b_ BK175.out 4).trans rfl
            have hcz37_5 : wr.cell? ⟨gb175, 5, none⟩ = some (.slice A0_5 l0_5.length c0_5) := (b_ BK175.out 5).trans rfl
            have hcz37_6 : wr.cell? ⟨gb175, 6, none⟩ = some (.int .i64 a0_6) := (b_ BK175.out 6).trans rfl
            have hfz37_0 := a_ BK175.out 0
            have hfz37_1 := a_ BK175.out 1
            have hfz37_2 := a_ BK175.out 2
            have hfz37_3 := a_ BK175.out 3
            have hfz37_4 := a_ BK175.out 4
            have hfz37_5 := a_ BK175.out 5
            have hfz37_6 := a_ BK175.out 6
            have p204 : 0 ≤ (x6_2 : Int) := of_decide_eq_true (by first | (with_reducible assumption) | assumption)
            have q204 : x6_2 < (l0_5.length : Int) := of_decide_eq_true (by first | (with_reducible assumption) | assumption)
            obtain ⟨ad204, e204, hx204_0⟩ := Kd.at_string HR0_5.out x6_2 p204 q204
            cases e204
            replace hx204_0 := (HB.out.cell (World.block_lt_of_cell? w _ hx204_0)).trans hx204_0
            replace p204 := eq_true p204
            replace q204 := eq_true q204
            go_wp2_with (first | ((with_reducible refine ah_ (f := 35) rfl ?_); refine bm_ (some 65) rfl rfl Tryz.func35 (by kernel_rfl) rfl #[.string (rdOf ByteArray.empty l0_5 x6_2)] rfl (by (try simp only [List.map_toArray, List.map_cons, List.map_nil]); first | done | rfl | (simp only [List.length_drop, List.length_take]; rfl)) ?_; (with_reducible refine (bo_.calls k2 (rdOf ByteArray.empty l0_5 x6_2) t205 _ A35.out).mono ?_); rintro e w38 ⟨v206, rfl, ho0, hb⟩; refine ⟨_, rfl, ?_⟩; have n0_ := c_.mk (Kd.R_elder' (HO_4.out) (Kd.R_base ho0) hb); have n1_ := c_.mk (Kd.R_lower (Kd.R_new' ho0 (Kd.R_lt (HO_4.out))) (v_ (HB.out))); have n2_ := c_.mk (s_ (g := gb175) (o := .cells #[.int .i64 a0_0, .int .i64 a0_1, .int .i64 a0_2, .string a0_3, .string a0_4, .slice (some ad204) l0_5.length c0_5, .int .i64 a0_6] 74 (0, 0)) (BK175.out) hb); have n3_ := c_.mk (ac_ (HB.out) hb); clear HO_4; clear BK175; clear HB; have HO_4 := n0_; have HO207 := n1_; have BK175 := n2_; have HB := n3_; clear n0_ n1_ n2_ n3_; (try clear hb); (try clear hb2); (try clear hk); (try clear hi); (try clear ho0); obtain ⟨Ao40, co40, eo40⟩ := Kd.R_slice HO207.out; subst eo40) | ((with_reducible refine bw_ (b := .append) (xs := #[.tmp 58, .tmp 65]) rfl ?_); at_builtin; refine Kd.R_append_rows (Kd.int .u8) (w0 := w) w.heap.size rfl (.tmp 58) (.tmp 65) 70 5 (.int .u8 0) 1 rfl Tryz.underlying70 info5 rfl (by decide) (by omega) u4 x4_2 t205 _ _ _ (fun k_ => some k_ ≠ (.slice Ao40 t205.length co40 : Value).ownBlock) (fun _ => False) rfl rfl ?aO ?aR (fun _ _ h => h) (fun _ h => h.elim) ?aF ?aB ?aS ?aL ?_; (case aR => repeat (first | exact (Kd.R_reads' HO207.out).2.2 | (with_reducible refine Kd.C_alloc ?_ _) | (with_reducible refine Kd.C_drewN ?_ _) | (with_reducible refine Kd.C_drew ?_))); (case aB => exact (HB.out)); (case aF => exact (fun k_ hk => Kd.fresh' (Kd.R_lt (HO207.out)) k_ hk)); (case aO => exact (Kd.R_mono HO_4.out (fun _ hk => hk.2))); (case aS => exact (v_ (HB.out))); (case aL => have := LMc36.out; omega); intro v209 w39 ho hb hg hat; rw [← Ny208.out] at ho; have n0_ := c_.mk (bu_ (g := gb175) (o := .cells #[.int .i64 a0_0, .int .i64 a0_1, .int .i64 a0_2, .string a0_3, .string a0_4, .slice (some ad204) l0_5.length c0_5, .int .i64 a0_6] 74 (0, 0)) (BK175.out) hg (Kd.R_ne HO_4.out BK175.out (by decide))); have n1_ := c_.mk (Kd.R_after (ok := (fun _ => True)) (HO207.out) hg hat); have n2_ := c_.mk (hb); have n3_ := c_.mk (ho); clear BK175; clear HO207; clear HB; clear HO_4; have BK175 := n0_; have HO207 := n1_; have HB := n2_; have HO210 := n3_; clear n0_ n1_ n2_ n3_; clear ho hb hg hat))
            go_roundg k2
            case measure => have := HK1.out; have := HK2.out; omega
            case rel => exact ⟨(y208), (wrap64 (x6_2 + 1)), (by first | rfl | (simp; done) | (simp [*]; done)), H', ⟨by have := HK1.out; have := HK2.out; omega⟩, ⟨Kd.R_mono HO210.out (fun _ hk => trivial)⟩, ⟨BK175.out⟩, ⟨HB.out⟩⟩
           ·rw [if_neg c36] at H
            exact absurd H (by simp)
          ·rw [if_neg c34] at H
           exact absurd H (by simp)
         ·rw [if_neg c33] at H
          have c33b0 : decide (x6_2 < (l0_5.length : Int)) = false := decide_eq_false c33
          clear c33
          obtain rfl := Option.some.inj H
          have hcz41_0 : wr.cell? ⟨gb175, 0, none⟩ = some (.int .i64 a0_0) := (b_ BK175.out 0).trans rfl
          have hcz41_1 : wr.cell? ⟨gb175, 1, none⟩ = some (.int .i64 a0_1) := (b_ BK175.out 1).trans rfl
          have hcz41_2 : wr.cell? ⟨gb175, 2, none⟩ = some (.int .i64 a0_2) := (b_ BK175.out 2).trans rfl
          have hcz41_3 : wr.cell? ⟨gb175, 3, none⟩ = some (.string a0_3) := (b_ BK175.out 3).trans rfl
          have hcz41_4 : wr.cell? ⟨gb175, 4, none⟩ = some (.string a0_4) := (b_ BK175.out 4).trans rfl
          have hcz41_5 : wr.cell? ⟨gb175, 5, none⟩ = some (.slice A0_5 l0_5.length c0_5) := (b_ BK175.out 5).trans rfl
          have hcz41_6 : wr.cell? ⟨gb175, 6, none⟩ = some (.int .i64 a0_6) := (b_ BK175.out 6).trans rfl
          have hfz41_0 := a_ BK175.out 0
          have hfz41_1 := a_ BK175.out 1
          have hfz41_2 := a_ BK175.out 2
          have hfz41_3 := a_ BK175.out 3
          have hfz41_4 := a_ BK175.out 4
          have hfz41_5 := a_ BK175.out 5
          have hfz41_6 := a_ BK175.out 6
          go_wp2
          go_ret
          exact ⟨_, by first | rfl | (simp [i_, g_] <;> rfl) | (simp [*, i_, g_] <;> rfl), HO_4.out, HB.out⟩
      ·rw [if_neg c20] at H
       exact absurd H (by simp)
     ·rw [if_neg c18] at H
      exact absurd H (by simp)
    ·rw [if_neg c16] at H
     exact absurd H (by simp)
end Go.Proofs.YtlcfcaokihoplaaGreatDoor.Ms
