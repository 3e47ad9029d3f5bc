-- Cut.
import Derived.Test.YtlcfcaokihoplaaGreatDoorMsx1Cp
import Derived.Test.YtlcfcaokihoplaaGreatDoorMsx5Cp
namespace Go.Proofs.YtlcfcaokihoplaaGreatDoor.Ms
open Go.RowKit Go.Proofs.YzW.PrintWords Go.Proofs.YzW.PrintLast Go.Proofs.YzW.PrintMore
attribute [local go_sem] cg_ ce_ cw_ cv_ by_ bx_ cf_ cd_
set_option linter.unusedVariables false
set_option linter.unusedSimpArgs false
attribute [local go_sem] eqlErr neqErr eqlErrNil neqErrNil
open Go.Proofs.YtlcfcaokihoplaaGreatDoor.Mw
mutual
def ai_.j0 : Nat → Bool → Int → Int → Int → Int → ByteArray → List (S90) → List (S69) → Option (Bool)
 | 0, _, _, _, _, _, _, _, _ => none
 | k + 1, x22, x150000, x150001, x150002, x150003, x150004, x150005, x150006 => if x22 = true then (some false) else (ai_.l0 k 0 x150000 x150001 x150002 x150003 x150004 x150005 x150006)
def ai_.l0 : Nat → Int → Int → Int → Int → Int → ByteArray → List (S90) → List (S69) → Option (Bool)
 | 0, _, _, _, _, _, _, _, _ => none
 | k + 1, x4, x150000, x150001, x150002, x150003, x150004, x150005, x150006 => if x4 < (x150006.length : Int) then (if 0 ≤ x4 then ((ba_.f k ((rd_T69 x150006 x4).f2)).bind fun t152 => (if t152 = true then (ai_.l0 k (wrap64 (x4 + 1)) x150000 x150001 x150002 x150003 x150004 x150005 x150006) else (some false))) else (none)) else (some true)
end
def ai_.f (k : Nat) (a0_0 : Int) (a0_1 : Int) (a0_2 : Int) (a0_3 : Int) (a0_4 : ByteArray) (l0_5 : List (S90)) (l0_6 : List (S69)) : Option (Bool) := (ba_.f k l0_5).bind fun t150 => (if t150 = true then (if (a0_4.size : Int) > 5000 then (ai_.j0 k true a0_0 a0_1 a0_2 a0_3 a0_4 l0_5 l0_6) else (ai_.j0 k (decide ((l0_6.length : Int) > 50)) a0_0 a0_1 a0_2 a0_3 a0_4 l0_5 l0_6)) else (ai_.j0 k true a0_0 a0_1 a0_2 a0_3 a0_4 l0_5 l0_6))
set_option maxHeartbeats 8000000 in
set_option maxRecDepth 100000 in
theorem ai_.calls (k : Nat) (a0_0 : Int) (a0_1 : Int) (a0_2 : Int) (a0_3 : Int) (a0_4 : ByteArray) (A0_5 : Option Addr) (c0_5 : Nat) (l0_5 : List (S90)) (A0_6 : Option Addr) (c0_6 : Nat) (l0_6 : List (S69)) (r : Bool) (w : World) (hr0_5 : Kd.C k90 w A0_5 l0_5.length l0_5) (hc0_5 : l0_5.length ≤ c0_5) (hr0_6 : Kd.C k69 w A0_6 l0_6.length l0_6) (hc0_6 : l0_6.length ≤ c0_6) (h : ai_.f k a0_0 a0_1 a0_2 a0_3 a0_4 l0_5 l0_6 = some r) :
  Calls Tryz.prog 7 #[.agg #[.int .i64 a0_0, .int .i64 a0_1, .int .i64 a0_2, .int .i64 a0_3, .string a0_4, .slice A0_5 l0_5.length c0_5, .slice A0_6 l0_6.length c0_6]] w fun e w' => e = .returned (.bool r) ∧ Below w.heap.size w w' := by
 have hu40 := Tryz.underlying40
 have HR0_5 := c_.mk hr0_5
 have HC0_5 := c_.mk hc0_5
 clear hr0_5 hc0_5
 have HR0_6 := c_.mk hr0_6
 have HC0_6 := c_.mk hc0_6
 clear hr0_6 hc0_6
 have HB := c_.mk (Below.refl w.heap.size w)
 have H : ((ba_.f k l0_5).bind fun t150 => (if t150 = true then (if (a0_4.size : Int) > 5000 then (ai_.j0 k true a0_0 a0_1 a0_2 a0_3 a0_4 l0_5 l0_6) else (ai_.j0 k (decide ((l0_6.length : Int) > 50)) a0_0 a0_1 a0_2 a0_3 a0_4 l0_5 l0_6)) else (ai_.j0 k true a0_0 a0_1 a0_2 a0_3 a0_4 l0_5 l0_6))) = some r := h
 clear h
 replace H := Option.bind_eq_some_iff.mp H
 obtain ⟨t150, A20, H⟩ := H
 replace H : (if t150 = true then (if (a0_4.size : Int) > 5000 then (ai_.j0 k true a0_0 a0_1 a0_2 a0_3 a0_4 l0_5 l0_6) else (ai_.j0 k (decide ((l0_6.length : Int) > 50)) a0_0 a0_1 a0_2 a0_3 a0_4 l0_5 l0_6)) else (ai_.j0 k true a0_0 a0_1 a0_2 a0_3 a0_4 l0_5 l0_6)) = some r := H
 have A2 := c_.mk A20
 clear A20
 have HC3 := c_.mk H
 clear H
 go_enter Tryz.func7, Tryz.ntmps7
 go_upto_region 2 with (first | ((with_reducible refine be_ (N := 1) rfl ?_); (try (refine cm_ (by rfl) ?_; dsimp only)); refine bd_ ?hg (N := 1) ?hd (cs := #[.int .i64 a0_0, .int .i64 a0_1, .int .i64 a0_2, .int .i64 a0_3, .string a0_4, .slice A0_5 l0_5.length c0_5, .slice A0_6 l0_6.length c0_6]) (t := 40) ?hr ?_; (case hd => rfl); (case hg => rfl); (case hr => first | (go_simp; done) | (go_simp; rfl)); intro gb149 hg w4 hbox hb; have n0_ := c_.mk (ac_ (HB.out) hb); have n1_ := c_.mk (hbox); have n2_ := c_.mk ((by rw [hg]; exact (v_ (HB.out)) : w.heap.size ≤ gb149)); have n3_ := c_.mk ((by rw [hg]; exact (v_ (HB.out)) : w.heap.size ≤ gb149)); clear HB; have HB := n0_; have BK149 := n1_; have GW149 := n2_; have GE149 := n3_; clear n0_ n1_ n2_ n3_; clear hb hbox hg; have hcz5_0 : w4.cell? ⟨gb149, 0, none⟩ = some (.int .i64 a0_0) := (b_ BK149.out 0).trans rfl; have hcz5_1 : w4.cell? ⟨gb149, 1, none⟩ = some (.int .i64 a0_1) := (b_ BK149.out 1).trans rfl; have hcz5_2 : w4.cell? ⟨gb149, 2, none⟩ = some (.int .i64 a0_2) := (b_ BK149.out 2).trans rfl; have hcz5_3 : w4.cell? ⟨gb149, 3, none⟩ = some (.int .i64 a0_3) := (b_ BK149.out 3).trans rfl; have hcz5_4 : w4.cell? ⟨gb149, 4, none⟩ = some (.string a0_4) := (b_ BK149.out 4).trans rfl; have hcz5_5 : w4.cell? ⟨gb149, 5, none⟩ = some (.slice A0_5 l0_5.length c0_5) := (b_ BK149.out 5).trans rfl; have hcz5_6 : w4.cell? ⟨gb149, 6, none⟩ = some (.slice A0_6 l0_6.length c0_6) := (b_ BK149.out 6).trans rfl; have hfz5_0 := a_ BK149.out 0; have hfz5_1 := a_ BK149.out 1; have hfz5_2 := a_ BK149.out 2; have hfz5_3 := a_ BK149.out 3; have hfz5_4 := a_ BK149.out 4; have hfz5_5 := a_ BK149.out 5; have hfz5_6 := a_ BK149.out 6) | ((with_reducible refine ah_ (f := 18) rfl ?_); refine bm_ (some 8) rfl rfl Tryz.func18 (by kernel_rfl) rfl #[.slice A0_5 l0_5.length c0_5] rfl (by (try simp only [List.map_toArray, List.map_cons, List.map_nil]); first | done | rfl | (simp only [List.length_drop, List.length_take]; rfl)) ?_; (with_reducible refine (ba_.calls k _ _ l0_5 t150 _ ?side1 ?side2 A2.out).mono ?_); (case side1 => repeat (first | exact (Kd.C_below HR0_5.out HB.out) | (with_reducible refine Kd.C_alloc ?_ _) | (with_reducible refine Kd.C_drewN ?_ _) | (with_reducible refine Kd.C_drew ?_))); (case side2 => exact HC0_5.out); rintro e w' ⟨rfl, ⟨nd, rfl⟩⟩; refine ⟨_, rfl, ?_⟩))
 (try simp only [Act.put, sA_, sB_, sC_])
 go_cut [22] (fun v22 wc => ∃ (kq : Nat) (x22_2 : Bool), v22 = .bool x22_2 ∧ c_ (ai_.j0 kq x22_2 a0_0 a0_1 a0_2 a0_3 a0_4 l0_5 l0_6 = some r) ∧ c_ (kq ≤ k) ∧ c_ (wc.heap[gb149]? = some (.cells #[.int .i64 a0_0, .int .i64 a0_1, .int .i64 a0_2, .int .i64 a0_3, .string a0_4, (.slice A0_5 l0_5.length c0_5), (.slice A0_6 l0_6.length c0_6)] 40 (0, 0))) ∧ c_ (Below w.heap.size w wc))
 case first =>
  have H := HC3.out
  clear HC3
  by_cases c6 : t150 = true
  ·subst c6
   have H1 : (if (a0_4.size : Int) > 5000 then (ai_.j0 k true a0_0 a0_1 a0_2 a0_3 a0_4 l0_5 l0_6) else (ai_.j0 k (decide ((l0_6.length : Int) > 50)) a0_0 a0_1 a0_2 a0_3 a0_4 l0_5 l0_6)) = some r := by first | (rw [if_pos rfl] at H; with_reducible exact H) | exact (if_pos rfl).symm.trans H | (simp only [if_true, eq_self_iff_true] at H ⊢; exact H)
   clear H
   have H := H1
   clear H1
   by_cases c7 : (a0_4.size : Int) > 5000
   ·rw [if_pos c7] at H
    have c7b0 : decide (5000 < (a0_4.size : Int)) = true := decide_eq_true c7
    have c7b1 : decide (5000 < a0_4.size) = true := decide_eq_true (by omega)
    clear c7
    (first | rw [c7b0] | (simp only [af_, ag_]; rw [c7b0]) | skip)
    have H' := c_.mk H
    clear H
    have hcz8_0 : w4.cell? ⟨gb149, 0, none⟩ = some (.int .i64 a0_0) := (b_ BK149.out 0).trans rfl
    have hcz8_1 : w4.cell? ⟨gb149, 1, none⟩ = some (.int .i64 a0_1) := (b_ BK149.out 1).trans rfl
    have hcz8_2 : w4.cell? ⟨gb149, 2, none⟩ = some (.int .i64 a0_2) := (b_ BK149.out 2).trans rfl
    have hcz8_3 : w4.cell? ⟨gb149, 3, none⟩ = some (.int .i64 a0_3) := (b_ BK149.out 3).trans rfl
    have hcz8_4 : w4.cell? ⟨gb149, 4, none⟩ = some (.string a0_4) := (b_ BK149.out 4).trans rfl
    have hcz8_5 : w4.cell? ⟨gb149, 5, none⟩ = some (.slice A0_5 l0_5.length c0_5) := (b_ BK149.out 5).trans rfl
    have hcz8_6 : w4.cell? ⟨gb149, 6, none⟩ = some (.slice A0_6 l0_6.length c0_6) := (b_ BK149.out 6).trans rfl
    have hfz8_0 := a_ BK149.out 0
    have hfz8_1 := a_ BK149.out 1
    have hfz8_2 := a_ BK149.out 2
    have hfz8_3 := a_ BK149.out 3
    have hfz8_4 := a_ BK149.out 4
    have hfz8_5 := a_ BK149.out 5
    have hfz8_6 := a_ BK149.out 6
    go_wp2
    go_meet
    case rel => exact ⟨_, (true), (by first | rfl | (simp; done) | (simp [*]; done)), H', ⟨by first | omega | exact Nat.le_refl _⟩, ⟨by (with_reducible repeat (first | refine u_ ?_ _ | refine o_ ?_ | refine x_ ?_ _)); exact BK149.out⟩, ⟨by repeat (first | (with_reducible first | exact HB.out | apply l_ | apply d_ | apply m_ | refine f_ ?_ GE149.out) | exact HB.out)⟩⟩
   ·rw [if_neg c7] at H
    have c7b0 : decide (5000 < (a0_4.size : Int)) = false := decide_eq_false c7
    have c7b1 : decide (5000 < a0_4.size) = false := decide_eq_false (by omega)
    clear c7
    (first | rw [c7b0] | (simp only [af_, ag_]; rw [c7b0]) | skip)
    have H' := c_.mk H
    clear H
    have hcz9_0 : w4.cell? ⟨gb149, 0, none⟩ = some (.int .i64 a0_0) := (b_ BK149.out 0).trans rfl
    have hcz9_1 : w4.cell? ⟨gb149, 1, none⟩ = some (.int .i64 a0_1) := (b_ BK149.out 1).trans rfl
    have hcz9_2 : w4.cell? ⟨gb149, 2, none⟩ = some (.int .i64 a0_2) := (b_ BK149.out 2).trans rfl
    have hcz9_3 : w4.cell? ⟨gb149, 3, none⟩ = some (.int .i64 a0_3) := (b_ BK149.out 3).trans rfl
    have hcz9_4 : w4.cell? ⟨gb149, 4, none⟩ = some (.string a0_4) := (b_ BK149.out 4).trans rfl
    have hcz9_5 : w4.cell? ⟨gb149, 5, none⟩ = some (.slice A0_5 l0_5.length c0_5) := (b_ BK149.out 5).trans rfl
    have hcz9_6 : w4.cell? ⟨gb149, 6, none⟩ = some (.slice A0_6 l0_6.length c0_6) := (b_ BK149.out 6).trans rfl
    have hfz9_0 := a_ BK149.out 0
    have hfz9_1 := a_ BK149.out 1
    have hfz9_2 := a_ BK149.out 2
    have hfz9_3 := a_ BK149.out 3
    have hfz9_4 := a_ BK149.out 4
    have hfz9_5 := a_ BK149.out 5
    have hfz9_6 := a_ BK149.out 6
    go_wp2
    go_meet
    case rel => exact ⟨_, (decide ((l0_6.length : Int) > 50)), (by first | rfl | (simp; done) | (simp [*]; done)), H', ⟨by first | omega | exact Nat.le_refl _⟩, ⟨by (with_reducible repeat (first | refine u_ ?_ _ | refine o_ ?_ | refine x_ ?_ _)); exact BK149.out⟩, ⟨by repeat (first | (with_reducible first | exact HB.out | apply l_ | apply d_ | apply m_ | refine f_ ?_ GE149.out) | exact HB.out)⟩⟩
  ·replace c6 := Bool.eq_false_iff.mpr c6
   subst c6
   have H1 : (ai_.j0 k true a0_0 a0_1 a0_2 a0_3 a0_4 l0_5 l0_6) = some r := by rw [if_neg (show ¬ (false = true) by decide)] at H; exact H
   clear H
   have H := H1
   clear H1
   have H' := c_.mk H
   clear H
   go_wp2
   go_meet
   case rel => exact ⟨_, (true), (by first | rfl | (simp; done) | (simp [*]; done)), H', ⟨by first | omega | exact Nat.le_refl _⟩, ⟨by (with_reducible repeat (first | refine u_ ?_ _ | refine o_ ?_ | refine x_ ?_ _)); exact BK149.out⟩, ⟨by repeat (first | (with_reducible first | exact HB.out | apply l_ | apply d_ | apply m_ | refine f_ ?_ GE149.out) | exact HB.out)⟩⟩
 case rest =>
  clear HC3
  try clear c1
  try clear p2
  try clear c6
  try clear c7
  try clear c7b0
  try clear c7b1
  try clear hcz5_0
  try clear hcz5_1
  try clear hcz5_2
  try clear hcz5_3
  try clear hcz5_4
  try clear hcz5_5
  try clear hcz5_6
  try clear hcz8_0
  try clear hcz8_1
  try clear hcz8_2
  try clear hcz8_3
  try clear hcz8_4
  try clear hcz8_5
  try clear hcz8_6
  try clear hcz9_0
  try clear hcz9_1
  try clear hcz9_2
  try clear hcz9_3
  try clear hcz9_4
  try clear hcz9_5
  try clear hcz9_6
  try clear hfz5_0
  try clear hfz5_1
  try clear hfz5_2
  try clear hfz5_3
  try clear hfz5_4
  try clear hfz5_5
  try clear hfz5_6
  try clear hfz8_0
  try clear hfz8_1
  try clear hfz8_2
  try clear hfz8_3
  try clear hfz8_4
  try clear hfz8_5
  try clear hfz8_6
  try clear hfz9_0
  try clear hfz9_1
  try clear hfz9_2
  try clear hfz9_3
  try clear hfz9_4
  try clear hfz9_5
  try clear hfz9_6
  obtain ⟨kq, x22_2, rfl, HA, HJ2, BK149, HB⟩ := hcut
  cases kq with
  | zero => exact absurd HA.out (by simp [ai_.j0])
  | succ kj2 =>
   have H := HA.out
   clear HA
   simp only [ai_.j0] at H
   by_cases c10 : x22_2 = true
   ·subst c10
    have H1 : (some false) = some r := by first | (rw [if_pos rfl] at H; with_reducible exact H) | exact (if_pos rfl).symm.trans H | (simp only [if_true, eq_self_iff_true] at H ⊢; exact H)
    clear H
    have H := H1
    clear H1
    obtain rfl := Option.some.inj H
    go_wp2
    go_ret
    exact ⟨by first | rfl | (simp [i_, g_] <;> rfl) | (simp [*, i_, g_] <;> rfl), HB.out⟩
   ·replace c10 := Bool.eq_false_iff.mpr c10
    subst c10
    have H1 : (ai_.l0 kj2 0 a0_0 a0_1 a0_2 a0_3 a0_4 l0_5 l0_6) = some r := by rw [if_neg (show ¬ (false = true) by decide)] at H; exact H
    clear H
    have H := H1
    clear H1
    have H' := c_.mk H
    clear H
    go_wp2
    go_loopg [4] kj2 (fun kq v4 w' => ∃ (x4_2 : Int), v4 = .int .i64 x4_2 ∧ c_ (ai_.l0 kq x4_2 a0_0 a0_1 a0_2 a0_3 a0_4 l0_5 l0_6 = some r) ∧ c_ (kq ≤ kj2) ∧ c_ (w'.heap[gb149]? = some (.cells #[.int .i64 a0_0, .int .i64 a0_1, .int .i64 a0_2, .int .i64 a0_3, .string a0_4, (.slice A0_5 l0_5.length c0_5), (.slice A0_6 l0_6.length c0_6)] 40 (0, 0))) ∧ c_ (Below w.heap.size w w'))
    case atStart => exact ⟨(0), (by first | rfl | (simp; done) | (simp [*]; done)), H', ⟨Nat.le_refl _⟩, ⟨BK149.out⟩, ⟨HB.out⟩⟩
    case round =>
     clear H'
     try clear c1
     try clear p2
     try clear c6
     try clear c7
     try clear c7b0
     try clear c7b1
     try clear c10
     try clear hcz5_0
     try clear hcz5_1
     try clear hcz5_2
     try clear hcz5_3
     try clear hcz5_4
     try clear hcz5_5
     try clear hcz5_6
     try clear hcz8_0
     try clear hcz8_1
     try clear hcz8_2
     try clear hcz8_3
     try clear hcz8_4
     try clear hcz8_5
     try clear hcz8_6
     try clear hcz9_0
     try clear hcz9_1
     try clear hcz9_2
     try clear hcz9_3
     try clear hcz9_4
     try clear hcz9_5
     try clear hcz9_6
     try clear hfz5_0
     try clear hfz5_1
     try clear hfz5_2
     try clear hfz5_3
     try clear hfz5_4
     try clear hfz5_5
     try clear hfz5_6
     try clear hfz8_0
     try clear hfz8_1
     try clear hfz8_2
     try clear hfz8_3
     try clear hfz8_4
     try clear hfz8_5
     try clear hfz8_6
     try clear hfz9_0
     try clear hfz9_1
     try clear hfz9_2
     try clear hfz9_3
     try clear hfz9_4
     try clear hfz9_5
     try clear hfz9_6
     try clear p2
     obtain ⟨x4_2, rfl, HA, HK2, BK149, HB⟩ := hrel
     cases gk with
     | zero => exact absurd HA.out (by simp [ai_.l0])
     | succ k2 =>
      have H := HA.out
      clear HA
      simp only [ai_.l0] at H
      by_cases c11 : x4_2 < (l0_6.length : Int)
      ·rw [if_pos c11] at H
       have c11b0 : decide (x4_2 < (l0_6.length : Int)) = true := decide_eq_true c11
       clear c11
       by_cases c12 : 0 ≤ x4_2
       ·rw [if_pos c12] at H
        have c12b0 : decide (0 ≤ x4_2) = true := decide_eq_true c12
        clear c12
        replace H := Option.bind_eq_some_iff.mp H
        obtain ⟨t152, A130, H⟩ := H
        replace H : (if t152 = true then (ai_.l0 k2 (wrap64 (x4_2 + 1)) a0_0 a0_1 a0_2 a0_3 a0_4 l0_5 l0_6) else (some false)) = some r := H
        have A13 := c_.mk A130
        clear A130
        by_cases c14 : t152 = true
        ·subst c14
         have H1 : (ai_.l0 k2 (wrap64 (x4_2 + 1)) a0_0 a0_1 a0_2 a0_3 a0_4 l0_5 l0_6) = some r := by first | (rw [if_pos rfl] at H; with_reducible exact H) | exact (if_pos rfl).symm.trans H | (simp only [if_true, eq_self_iff_true] at H ⊢; exact H)
         clear H
         have H := H1
         clear H1
         have H' := c_.mk H
         clear H
         have hcz15_0 : wr.cell? ⟨gb149, 0, none⟩ = some (.int .i64 a0_0) := (b_ BK149.out 0).trans rfl
         have hcz15_1 : wr.cell? ⟨gb149, 1, none⟩ = some (.int .i64 a0_1) := (b_ BK149.out 1).trans rfl
         have hcz15_2 : wr.cell? ⟨gb149, 2, none⟩ = some (.int .i64 a0_2) := (b_ BK149.out 2).trans rfl
         have hcz15_3 : wr.cell? ⟨gb149, 3, none⟩ = some (.int .i64 a0_3) := (b_ BK149.out 3).trans rfl
         have hcz15_4 : wr.cell? ⟨gb149, 4, none⟩ = some (.string a0_4) := (b_ BK149.out 4).trans rfl
         have hcz15_5 : wr.cell? ⟨gb149, 5, none⟩ = some (.slice A0_5 l0_5.length c0_5) := (b_ BK149.out 5).trans rfl
         have hcz15_6 : wr.cell? ⟨gb149, 6, none⟩ = some (.slice A0_6 l0_6.length c0_6) := (b_ BK149.out 6).trans rfl
         have hfz15_0 := a_ BK149.out 0
         have hfz15_1 := a_ BK149.out 1
         have hfz15_2 := a_ BK149.out 2
         have hfz15_3 := a_ BK149.out 3
         have hfz15_4 := a_ BK149.out 4
         have hfz15_5 := a_ BK149.out 5
         have hfz15_6 := a_ BK149.out 6
         have p151 : 0 ≤ (x4_2 : Int) := of_decide_eq_true (by first | (with_reducible assumption) | assumption)
         have q151 : x4_2 < (l0_6.length : Int) := of_decide_eq_true (by first | (with_reducible assumption) | assumption)
         obtain ⟨ad151, A151_2, c151_2, e151, hx151_0, hx151_1, hx151_2, hl151_2, hi151_2⟩ := at_T69 HR0_6.out x4_2 p151 q151
         cases e151
         replace hx151_0 := (HB.out.cell (World.block_lt_of_cell? w _ hx151_0)).trans hx151_0
         replace hx151_1 := (HB.out.cell (World.block_lt_of_cell? w _ hx151_1)).trans hx151_1
         replace hx151_2 := (HB.out.cell (World.block_lt_of_cell? w _ hx151_2)).trans hx151_2
         have HR151_2 := c_.mk hi151_2
         have HC151_2 := c_.mk hl151_2
         clear hi151_2 hl151_2
         replace p151 := eq_true p151
         replace q151 := eq_true q151
         go_wp2_with (first | ((with_reducible refine ah_ (f := 18) rfl ?_); refine bm_ (some 36) rfl rfl Tryz.func18 (by kernel_rfl) rfl #[.slice A151_2 ((rd_T69 l0_6 x4_2).f2).length c151_2] rfl (by (try simp only [List.map_toArray, List.map_cons, List.map_nil]); first | done | rfl | (simp only [List.length_drop, List.length_take]; rfl)) ?_; (with_reducible refine (ba_.calls k2 _ _ ((rd_T69 l0_6 x4_2).f2) true _ ?side1 ?side2 A13.out).mono ?_); (case side1 => repeat (first | exact (Kd.C_below HR151_2.out HB.out) | (with_reducible refine Kd.C_alloc ?_ _) | (with_reducible refine Kd.C_drewN ?_ _) | (with_reducible refine Kd.C_drew ?_))); (case side2 => exact HC151_2.out); rintro e w' ⟨rfl, ⟨nd, rfl⟩⟩; refine ⟨_, rfl, ?_⟩))
         go_roundg k2
         case measure => have := HJ2.out; have := HK2.out; omega
         case rel => exact ⟨(wrap64 (x4_2 + 1)), (by first | rfl | (simp; done) | (simp [*]; done)), H', ⟨by have := HJ2.out; have := HK2.out; omega⟩, ⟨by (with_reducible repeat (first | refine u_ ?_ _ | refine o_ ?_ | refine x_ ?_ _)); exact BK149.out⟩, ⟨by repeat (first | (with_reducible first | exact HB.out | apply l_ | apply d_ | apply m_ | refine f_ ?_ GE149.out) | exact HB.out)⟩⟩
        ·replace c14 := Bool.eq_false_iff.mpr c14
         subst c14
         have H1 : (some false) = some r := by rw [if_neg (show ¬ (false = true) by decide)] at H; exact H
         clear H
         have H := H1
         clear H1
         obtain rfl := Option.some.inj H
         have hcz16_0 : wr.cell? ⟨gb149, 0, none⟩ = some (.int .i64 a0_0) := (b_ BK149.out 0).trans rfl
         have hcz16_1 : wr.cell? ⟨gb149, 1, none⟩ = some (.int .i64 a0_1) := (b_ BK149.out 1).trans rfl
         have hcz16_2 : wr.cell? ⟨gb149, 2, none⟩ = some (.int .i64 a0_2) := (b_ BK149.out 2).trans rfl
         have hcz16_3 : wr.cell? ⟨gb149, 3, none⟩ = some (.int .i64 a0_3) := (b_ BK149.out 3).trans rfl
         have hcz16_4 : wr.cell? ⟨gb149, 4, none⟩ = some (.string a0_4) := (b_ BK149.out 4).trans rfl
         have hcz16_5 : wr.cell? ⟨gb149, 5, none⟩ = some (.slice A0_5 l0_5.length c0_5) := (b_ BK149.out 5).trans rfl
         have hcz16_6 : wr.cell? ⟨gb149, 6, none⟩ = some (.slice A0_6 l0_6.length c0_6) := (b_ BK149.out 6).trans rfl
         have hfz16_0 := a_ BK149.out 0
         have hfz16_1 := a_ BK149.out 1
         have hfz16_2 := a_ BK149.out 2
         have hfz16_3 := a_ BK149.out 3
         have hfz16_4 := a_ BK149.out 4
         have hfz16_5 := a_ BK149.out 5
         have hfz16_6 := a_ BK149.out 6
         have p151 : 0 ≤ (x4_2 : Int) := of_decide_eq_true (by first | (with_reducible assumption) | assumption)
         have q151 : x4_2 < (l0_6.length : Int) := of_decide_eq_true (by first | (with_reducible assumption) | assumption)
         obtain ⟨ad151, A151_2, c151_2, e151, hx151_0, hx151_1, hx151_2, hl151_2, hi151_2⟩ := at_T69 HR0_6.out x4_2 p151 q151
         cases e151
         replace hx151_0 := (HB.out.cell (World.block_lt_of_cell? w _ hx151_0)).trans hx151_0
         replace hx151_1 := (HB.out.cell (World.block_lt_of_cell? w _ hx151_1)).trans hx151_1
         replace hx151_2 := (HB.out.cell (World.block_lt_of_cell? w _ hx151_2)).trans hx151_2
         have HR151_2 := c_.mk hi151_2
         have HC151_2 := c_.mk hl151_2
         clear hi151_2 hl151_2
         replace p151 := eq_true p151
         replace q151 := eq_true q151
         go_wp2_with (first | ((with_reducible refine ah_ (f := 18) rfl ?_); refine bm_ (some 36) rfl rfl Tryz.func18 (by kernel_rfl) rfl #[.slice A151_2 ((rd_T69 l0_6 x4_2).f2).length c151_2] rfl (by (try simp only [List.map_toArray, List.map_cons, List.map_nil]); first | done | rfl | (simp only [List.length_drop, List.length_take]; rfl)) ?_; (with_reducible refine (ba_.calls k2 _ _ ((rd_T69 l0_6 x4_2).f2) false _ ?side1 ?side2 A13.out).mono ?_); (case side1 => repeat (first | exact (Kd.C_below HR151_2.out HB.out) | (with_reducible refine Kd.C_alloc ?_ _) | (with_reducible refine Kd.C_drewN ?_ _) | (with_reducible refine Kd.C_drew ?_))); (case side2 => exact HC151_2.out); rintro e w' ⟨rfl, ⟨nd, rfl⟩⟩; refine ⟨_, rfl, ?_⟩))
         go_ret
         exact ⟨by first | rfl | (simp [i_, g_] <;> rfl) | (simp [*, i_, g_] <;> rfl), by repeat (first | (with_reducible first | exact HB.out | apply l_ | apply d_ | apply m_ | refine f_ ?_ GE149.out) | exact HB.out)⟩
       ·rw [if_neg c12] at H
        exact absurd H (by simp)
      ·rw [if_neg c11] at H
       have c11b0 : decide (x4_2 < (l0_6.length : Int)) = false := decide_eq_false c11
       clear c11
       obtain rfl := Option.some.inj H
       have hcz17_0 : wr.cell? ⟨gb149, 0, none⟩ = some (.int .i64 a0_0) := (b_ BK149.out 0).trans rfl
       have hcz17_1 : wr.cell? ⟨gb149, 1, none⟩ = some (.int .i64 a0_1) := (b_ BK149.out 1).trans rfl
       have hcz17_2 : wr.cell? ⟨gb149, 2, none⟩ = some (.int .i64 a0_2) := (b_ BK149.out 2).trans rfl
       have hcz17_3 : wr.cell? ⟨gb149, 3, none⟩ = some (.int .i64 a0_3) := (b_ BK149.out 3).trans rfl
       have hcz17_4 : wr.cell? ⟨gb149, 4, none⟩ = some (.string a0_4) := (b_ BK149.out 4).trans rfl
       have hcz17_5 : wr.cell? ⟨gb149, 5, none⟩ = some (.slice A0_5 l0_5.length c0_5) := (b_ BK149.out 5).trans rfl
       have hcz17_6 : wr.cell? ⟨gb149, 6, none⟩ = some (.slice A0_6 l0_6.length c0_6) := (b_ BK149.out 6).trans rfl
       have hfz17_0 := a_ BK149.out 0
       have hfz17_1 := a_ BK149.out 1
       have hfz17_2 := a_ BK149.out 2
       have hfz17_3 := a_ BK149.out 3
       have hfz17_4 := a_ BK149.out 4
       have hfz17_5 := a_ BK149.out 5
       have hfz17_6 := a_ BK149.out 6
       go_wp2
       go_ret
       exact ⟨by first | rfl | (simp [i_, g_] <;> rfl) | (simp [*, i_, g_] <;> rfl), HB.out⟩
def dk_.f (a0 : Int) (a1 : Int) : Option (Int) := if a0 < 0 then (if a1 = 0 then (none) else (some (Int.tmod (wrap64 (-(wrap64 (a0 + 1)))) a1))) else (if a1 = 0 then (none) else (some (Int.tmod a0 a1)))
set_option maxHeartbeats 8000000 in
set_option maxRecDepth 100000 in
theorem dk_.calls (a0 : Int) (a1 : Int) (r : Int) (w : World) (h : dk_.f a0 a1 = some r) :
  Calls Tryz.prog 8 #[.int .i64 a0, .int .i64 a1] w fun e w' => e = .returned (.int .i64 r) ∧ ax_ w w' := by
 have H : (if a0 < 0 then (if a1 = 0 then (none) else (some (Int.tmod (wrap64 (-(wrap64 (a0 + 1)))) a1))) else (if a1 = 0 then (none) else (some (Int.tmod a0 a1)))) = some r := h
 clear h
 by_cases c3 : a0 < 0
 ·rw [if_pos c3] at H
  have c3b0 : decide (a0 < 0) = true := decide_eq_true c3
  clear c3
  by_cases c4 : a1 = 0
  ·rw [if_pos c4] at H
   exact absurd H (by simp)
  ·rw [if_neg c4] at H
   have c4b0 : (a1 == 0) = false := beq_eq_false_iff_ne.mpr c4
   have c4b1 : (a1 != 0) = true := bne_iff_ne.mpr c4
   obtain rfl := Option.some.inj H
   go_enter Tryz.func8, Tryz.ntmps8
   go_wp2
   go_ret
   exact eD_
 ·rw [if_neg c3] at H
  have c3b0 : decide (a0 < 0) = false := decide_eq_false c3
  clear c3
  by_cases c5 : a1 = 0
  ·rw [if_pos c5] at H
   exact absurd H (by simp)
  ·rw [if_neg c5] at H
   have c5b0 : (a1 == 0) = false := beq_eq_false_iff_ne.mpr c5
   have c5b1 : (a1 != 0) = true := bne_iff_ne.mpr c5
   obtain rfl := Option.some.inj H
   go_enter Tryz.func8, Tryz.ntmps8
   go_wp2
   go_ret
   exact eD_
end Go.Proofs.YtlcfcaokihoplaaGreatDoor.Ms
