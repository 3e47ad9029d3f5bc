-- Cut by a program of this session (wip/shake.py) out of a text of this seat: what this claim doesn't reach is struck out. Lean checks it.
import Derived.Test.YtpbbgbikebcnbaaMsx0Cw
import Derived.Test.YtpbbgbikebcnbaaMsx13Cw
import Derived.Test.YtpbbgbikebcnbaaMsx20Cw
import Derived.Test.YtpbbgbikebcnbaaMsx21Cw
namespace Go.Proofs.Ytpbbgbikebcnbaa.Ms
open Go.RowKit Go.Proofs.YtpbbgbikebcnbaaW.PrintWords Go.Proofs.YtpbbgbikebcnbaaW.PrintLast Go.Proofs.YtpbbgbikebcnbaaW.PrintMore
attribute [local go_sem] max2_int min2_int max_two min_two max_three min_three max_four min_four   -- for this text's walks alone
set_option linter.unusedVariables false
set_option linter.unusedSimpArgs false
attribute [local go_sem] eqlErr neqErr eqlErrNil neqErrNil
open Go.Proofs.Ytpbbgbikebcnbaa.Mw
def msg_PutAnswer.f (k : Nat) (a0_0 : Int) (a0_1 : Int) (l0_2 : List ByteArray) (l0_3 : List ByteArray) (l0_4 : List (S58)) : Option (ByteArray) := (msg_fits.f a0_0 a0_1 l0_2 l0_3 l0_4).bind fun t684 => (if t684 = true then ((msg_written.f k a0_0 a0_1 l0_2 l0_3 l0_4).bind fun t685 => (if (t685.length : Int) ≤ 4096 then (some (strOfNums t685)) else ((msg_written.f k 7 0 ([] : List ByteArray) ([] : List ByteArray) ([] : List (S58))).bind fun t688 => (some (strOfNums t688))))) else ((msg_written.f k 7 0 ([] : List ByteArray) ([] : List ByteArray) ([] : List (S58))).bind fun t691 => (some (strOfNums t691))))
theorem V_string_msg_PutAnswer {P : Program} {w : World} {base E : Nat} {ok : Nat → Prop} {src dst e : TypeId} {v : Value} {xs : List Int} (hs : P.underlying src = some (.slice e)) (he : P.underlying e = some (.int .u8)) (hd : P.underlying dst = some .string) (h : (Kd.int .u8).V E w base ok v xs) : (convert src dst v).run P w = .ok (.string (strOfNums xs)) w := by
 obtain ⟨A, c, rfl, hc, hF⟩ := h
 exact Kd.C_string hs he hd (Kd.F_now hF)
set_option maxHeartbeats 8000000 in
set_option maxRecDepth 100000 in
theorem msg_PutAnswer.calls (k : Nat) (a0_0 : Int) (a0_1 : Int) (A0_2 : Option Addr) (c0_2 : Nat) (l0_2 : List ByteArray) (A0_3 : Option Addr) (c0_3 : Nat) (l0_3 : List ByteArray) (A0_4 : Option Addr) (c0_4 : Nat) (l0_4 : List (S58)) (r : ByteArray) (w : World) (hr0_2 : Kd.C Kd.string w A0_2 l0_2.length l0_2) (hc0_2 : l0_2.length ≤ c0_2) (hr0_3 : Kd.C Kd.string w A0_3 l0_3.length l0_3) (hc0_3 : l0_3.length ≤ c0_3) (hr0_4 : Kd.C k58 w A0_4 l0_4.length l0_4) (hc0_4 : l0_4.length ≤ c0_4) (h : msg_PutAnswer.f k a0_0 a0_1 l0_2 l0_3 l0_4 = some r) :
  Calls Try.prog 21 #[.agg #[.int .i64 a0_0, .int .i64 a0_1, .slice A0_2 l0_2.length c0_2, .slice A0_3 l0_3.length c0_3, .slice A0_4 l0_4.length c0_4]] w fun e w' => e = .returned (.string r) ∧ Below w.heap.size w w' := by
 have hu48 := Try.underlying48
 have HR0_2 := Aside0.mk hr0_2
 have HC0_2 := Aside0.mk hc0_2
 clear hr0_2 hc0_2
 have HR0_3 := Aside0.mk hr0_3
 have HC0_3 := Aside0.mk hc0_3
 clear hr0_3 hc0_3
 have HR0_4 := Aside0.mk hr0_4
 have HC0_4 := Aside0.mk hc0_4
 clear hr0_4 hc0_4
 have HB := Aside0.mk (Below.refl w.heap.size w)
 have H : ((msg_fits.f a0_0 a0_1 l0_2 l0_3 l0_4).bind fun t684 => (if t684 = true then ((msg_written.f k a0_0 a0_1 l0_2 l0_3 l0_4).bind fun t685 => (if (t685.length : Int) ≤ 4096 then (some (strOfNums t685)) else ((msg_written.f k 7 0 ([] : List ByteArray) ([] : List ByteArray) ([] : List (S58))).bind fun t688 => (some (strOfNums t688))))) else ((msg_written.f k 7 0 ([] : List ByteArray) ([] : List ByteArray) ([] : List (S58))).bind fun t691 => (some (strOfNums t691))))) = some r := h
 clear h
 replace H := Option.bind_eq_some_iff.mp H
 obtain ⟨t684, A20, H⟩ := H
 replace H : (if t684 = true then ((msg_written.f k a0_0 a0_1 l0_2 l0_3 l0_4).bind fun t685 => (if (t685.length : Int) ≤ 4096 then (some (strOfNums t685)) else ((msg_written.f k 7 0 ([] : List ByteArray) ([] : List ByteArray) ([] : List (S58))).bind fun t688 => (some (strOfNums t688))))) else ((msg_written.f k 7 0 ([] : List ByteArray) ([] : List ByteArray) ([] : List (S58))).bind fun t691 => (some (strOfNums t691)))) = some r := H
 have A2 := Aside0.mk A20
 clear A20
 by_cases c3 : t684 = true
 ·subst c3
  have H1 : ((msg_written.f k a0_0 a0_1 l0_2 l0_3 l0_4).bind fun t685 => (if (t685.length : Int) ≤ 4096 then (some (strOfNums t685)) else ((msg_written.f k 7 0 ([] : List ByteArray) ([] : List ByteArray) ([] : List (S58))).bind fun t688 => (some (strOfNums t688))))) = some r := by first | (rw [if_pos rfl] at H; with_reducible exact H) | exact (if_pos rfl).symm.trans H | (simp only [if_true, eq_self_iff_true] at H ⊢; exact H)
  clear H
  have H := H1
  clear H1
  replace H := Option.bind_eq_some_iff.mp H
  obtain ⟨t685, A40, H⟩ := H
  replace H : (if (t685.length : Int) ≤ 4096 then (some (strOfNums t685)) else ((msg_written.f k 7 0 ([] : List ByteArray) ([] : List ByteArray) ([] : List (S58))).bind fun t688 => (some (strOfNums t688)))) = some r := H
  have A4 := Aside0.mk A40
  clear A40
  by_cases c5 : (t685.length : Int) ≤ 4096
  ·rw [if_pos c5] at H
   have c5b0 : decide ((t685.length : Int) ≤ 4096) = true := decide_eq_true c5
   have c5b1 : decide (t685.length ≤ 4096) = true := decide_eq_true (by omega)
   clear c5
   obtain rfl := Option.some.inj H
   go_enter Try.func21, Try.ntmps21
   go_wp2_with (first | ((with_reducible refine gate_dst (N := 1) rfl ?_); refine box_event ?hg (N := 1) ?hd (cs := #[.int .i64 a0_0, .int .i64 a0_1, .slice A0_2 l0_2.length c0_2, .slice A0_3 l0_3.length c0_3, .slice A0_4 l0_4.length c0_4]) (t := 48) ?hr ?_; (case hd => rfl); (case hg => rfl); (case hr => first | (go_simp; done) | (go_simp; rfl)); intro gb683 hg w6 hbox hb; have n0_ := Aside0.mk (below_step (HB.out) hb); have n1_ := Aside0.mk (hbox); have n2_ := Aside0.mk ((by rw [hg]; exact (below_size (HB.out)) : w.heap.size ≤ gb683)); have n3_ := Aside0.mk ((by rw [hg]; exact (below_size (HB.out)) : w.heap.size ≤ gb683)); clear HB; have HB := n0_; have BK683 := n1_; have GW683 := n2_; have GE683 := n3_; clear n0_ n1_ n2_ n3_; clear hb hbox hg; have hcz7_0 : w6.cell? ⟨gb683, 0, none⟩ = some (.int .i64 a0_0) := (blk_cell BK683.out 0).trans rfl; have hcz7_1 : w6.cell? ⟨gb683, 1, none⟩ = some (.int .i64 a0_1) := (blk_cell BK683.out 1).trans rfl; have hcz7_2 : w6.cell? ⟨gb683, 2, none⟩ = some (.slice A0_2 l0_2.length c0_2) := (blk_cell BK683.out 2).trans rfl; have hcz7_3 : w6.cell? ⟨gb683, 3, none⟩ = some (.slice A0_3 l0_3.length c0_3) := (blk_cell BK683.out 3).trans rfl; have hcz7_4 : w6.cell? ⟨gb683, 4, none⟩ = some (.slice A0_4 l0_4.length c0_4) := (blk_cell BK683.out 4).trans rfl; have hfz7_0 := blk_frozen BK683.out 0; have hfz7_1 := blk_frozen BK683.out 1; have hfz7_2 := blk_frozen BK683.out 2; have hfz7_3 := blk_frozen BK683.out 3; have hfz7_4 := blk_frozen BK683.out 4) | ((with_reducible refine gate_callee (f := 48) rfl ?_); refine goesL_ (some 5) rfl rfl Try.func48 (by kernel_rfl) rfl #[.agg #[.int .i64 a0_0, .int .i64 a0_1, .slice A0_2 l0_2.length c0_2, .slice A0_3 l0_3.length c0_3, .slice A0_4 l0_4.length c0_4]] rfl (by (try simp only [List.map_toArray, List.map_cons, List.map_nil]); first | done | rfl | (simp only [List.length_drop, List.length_take]; rfl)) ?_; (with_reducible refine (msg_fits.calls a0_0 a0_1 _ _ l0_2 _ _ l0_3 _ _ l0_4 true _ ?side1 ?side2 ?side3 ?side4 ?side5 ?side6 A2.out).mono ?_); (case side1 => repeat (first | exact (Kd.C_below HR0_2.out HB.out) | (with_reducible refine Kd.C_alloc ?_ _) | (with_reducible refine Kd.C_drewN ?_ _) | (with_reducible refine Kd.C_drew ?_))); (case side2 => exact HC0_2.out); (case side3 => repeat (first | exact (Kd.C_below HR0_3.out HB.out) | (with_reducible refine Kd.C_alloc ?_ _) | (with_reducible refine Kd.C_drewN ?_ _) | (with_reducible refine Kd.C_drew ?_))); (case side4 => exact HC0_3.out); (case side5 => repeat (first | exact (Kd.C_below HR0_4.out HB.out) | (with_reducible refine Kd.C_alloc ?_ _) | (with_reducible refine Kd.C_drewN ?_ _) | (with_reducible refine Kd.C_drew ?_))); (case side6 => exact HC0_4.out); rintro e w8 ⟨rfl, hb⟩; refine ⟨_, rfl, ?_⟩; have n0_ := Aside0.mk (blk_below (g := gb683) (o := .cells #[.int .i64 a0_0, .int .i64 a0_1, .slice A0_2 l0_2.length c0_2, .slice A0_3 l0_3.length c0_3, .slice A0_4 l0_4.length c0_4] 48 (0, 0)) (BK683.out) hb); have n1_ := Aside0.mk (below_step (HB.out) hb); clear BK683; clear HB; have BK683 := n0_; have HB := n1_; clear n0_ n1_; (try clear hb); (try clear hb2); (try clear hk); (try clear hi); have hcz9_0 : w8.cell? ⟨gb683, 0, none⟩ = some (.int .i64 a0_0) := (blk_cell BK683.out 0).trans rfl; have hcz9_1 : w8.cell? ⟨gb683, 1, none⟩ = some (.int .i64 a0_1) := (blk_cell BK683.out 1).trans rfl; have hcz9_2 : w8.cell? ⟨gb683, 2, none⟩ = some (.slice A0_2 l0_2.length c0_2) := (blk_cell BK683.out 2).trans rfl; have hcz9_3 : w8.cell? ⟨gb683, 3, none⟩ = some (.slice A0_3 l0_3.length c0_3) := (blk_cell BK683.out 3).trans rfl; have hcz9_4 : w8.cell? ⟨gb683, 4, none⟩ = some (.slice A0_4 l0_4.length c0_4) := (blk_cell BK683.out 4).trans rfl; have hfz9_0 := blk_frozen BK683.out 0; have hfz9_1 := blk_frozen BK683.out 1; have hfz9_2 := blk_frozen BK683.out 2; have hfz9_3 := blk_frozen BK683.out 3; have hfz9_4 := blk_frozen BK683.out 4) | ((with_reducible refine gate_callee (f := 49) rfl ?_); refine goesL_ (some 7) rfl rfl Try.func49 (by kernel_rfl) rfl #[.agg #[.int .i64 a0_0, .int .i64 a0_1, .slice A0_2 l0_2.length c0_2, .slice A0_3 l0_3.length c0_3, .slice A0_4 l0_4.length c0_4]] rfl (by (try simp only [List.map_toArray, List.map_cons, List.map_nil]); first | done | rfl | (simp only [List.length_drop, List.length_take]; rfl)) ?_; (with_reducible refine (msg_written.calls k a0_0 a0_1 _ _ l0_2 _ _ l0_3 _ _ l0_4 t685 _ ?side1 ?side2 ?side3 ?side4 ?side5 ?side6 A4.out).mono ?_); (case side1 => repeat (first | exact (Kd.C_below HR0_2.out HB.out) | (with_reducible refine Kd.C_alloc ?_ _) | (with_reducible refine Kd.C_drewN ?_ _) | (with_reducible refine Kd.C_drew ?_))); (case side2 => exact HC0_2.out); (case side3 => repeat (first | exact (Kd.C_below HR0_3.out HB.out) | (with_reducible refine Kd.C_alloc ?_ _) | (with_reducible refine Kd.C_drewN ?_ _) | (with_reducible refine Kd.C_drew ?_))); (case side4 => exact HC0_3.out); (case side5 => repeat (first | exact (Kd.C_below HR0_4.out HB.out) | (with_reducible refine Kd.C_alloc ?_ _) | (with_reducible refine Kd.C_drewN ?_ _) | (with_reducible refine Kd.C_drew ?_))); (case side6 => exact HC0_4.out); rintro e w10 ⟨v686, rfl, ho0, hb⟩; refine ⟨_, rfl, ?_⟩; have n0_ := Aside0.mk (Kd.V_lower (Kd.V_mono (ok' := fun k_ => k_ ≠ gb683) ho0 (fun k_ hk_ => (Kd.freshB (g := gb683) (o := .cells #[.int .i64 a0_0, .int .i64 a0_1, .slice A0_2 l0_2.length c0_2, .slice A0_3 l0_3.length c0_3, .slice A0_4 l0_4.length c0_4] 48 (0, 0)) (BK683.out) k_ hk_))) (below_size (HB.out))); have n1_ := Aside0.mk (blk_below (g := gb683) (o := .cells #[.int .i64 a0_0, .int .i64 a0_1, .slice A0_2 l0_2.length c0_2, .slice A0_3 l0_3.length c0_3, .slice A0_4 l0_4.length c0_4] 48 (0, 0)) (BK683.out) hb); have n2_ := Aside0.mk (below_step (HB.out) hb); clear BK683; clear HB; have HO687 := n0_; have BK683 := n1_; have HB := n2_; clear n0_ n1_ n2_; (try clear hb); (try clear hb2); (try clear hk); (try clear hi); (try clear ho0); obtain ⟨Ao11, co11, eo11⟩ := Kd.V_slice HO687.out; subst eo11; (first | have hcv12 := own_string (P := Try.prog) Try.underlying31 Try.underlying5 Try.underlying9 (Kd.own_of_R HO687.out) | have hcv12 := V_string_msg_PutAnswer (P := Try.prog) Try.underlying31 Try.underlying5 Try.underlying9 HO687.out); (first | have hcv13 := fun n_ : Nat => own_string (P := Try.prog) Try.underlying31 Try.underlying5 Try.underlying9 (Kd.own_of_R (Kd.R_drewN HO687.out n_)) | have hcv13 := fun n_ : Nat => V_string_msg_PutAnswer (P := Try.prog) Try.underlying31 Try.underlying5 Try.underlying9 (Kd.V_drewN HO687.out n_))))
   go_ret
   exact ⟨by first | rfl | (simp [errW_none, errW_some] <;> rfl) | (simp [*, errW_none, errW_some] <;> rfl), HB.out⟩
  ·rw [if_neg c5] at H
   have c5b0 : decide ((t685.length : Int) ≤ 4096) = false := decide_eq_false c5
   have c5b1 : decide (t685.length ≤ 4096) = false := decide_eq_false (by omega)
   clear c5
   replace H := Option.bind_eq_some_iff.mp H
   obtain ⟨t688, A140, H⟩ := H
   replace H : (some (strOfNums t688)) = some r := H
   have A14 := Aside0.mk A140
   clear A140
   obtain rfl := Option.some.inj H
   go_enter Try.func21, Try.ntmps21
   go_wp2_with (first | ((with_reducible refine gate_dst (N := 1) rfl ?_); refine box_event ?hg (N := 1) ?hd (cs := #[.int .i64 a0_0, .int .i64 a0_1, .slice A0_2 l0_2.length c0_2, .slice A0_3 l0_3.length c0_3, .slice A0_4 l0_4.length c0_4]) (t := 48) ?hr ?_; (case hd => rfl); (case hg => rfl); (case hr => first | (go_simp; done) | (go_simp; rfl)); intro gb683 hg w15 hbox hb; have n0_ := Aside0.mk (below_step (HB.out) hb); have n1_ := Aside0.mk (hbox); have n2_ := Aside0.mk ((by rw [hg]; exact (below_size (HB.out)) : w.heap.size ≤ gb683)); have n3_ := Aside0.mk ((by rw [hg]; exact (below_size (HB.out)) : w.heap.size ≤ gb683)); clear HB; have HB := n0_; have BK683 := n1_; have GW683 := n2_; have GE683 := n3_; clear n0_ n1_ n2_ n3_; clear hb hbox hg; have hcz16_0 : w15.cell? ⟨gb683, 0, none⟩ = some (.int .i64 a0_0) := (blk_cell BK683.out 0).trans rfl; have hcz16_1 : w15.cell? ⟨gb683, 1, none⟩ = some (.int .i64 a0_1) := (blk_cell BK683.out 1).trans rfl; have hcz16_2 : w15.cell? ⟨gb683, 2, none⟩ = some (.slice A0_2 l0_2.length c0_2) := (blk_cell BK683.out 2).trans rfl; have hcz16_3 : w15.cell? ⟨gb683, 3, none⟩ = some (.slice A0_3 l0_3.length c0_3) := (blk_cell BK683.out 3).trans rfl; have hcz16_4 : w15.cell? ⟨gb683, 4, none⟩ = some (.slice A0_4 l0_4.length c0_4) := (blk_cell BK683.out 4).trans rfl; have hfz16_0 := blk_frozen BK683.out 0; have hfz16_1 := blk_frozen BK683.out 1; have hfz16_2 := blk_frozen BK683.out 2; have hfz16_3 := blk_frozen BK683.out 3; have hfz16_4 := blk_frozen BK683.out 4) | ((with_reducible refine gate_callee (f := 48) rfl ?_); refine goesL_ (some 5) rfl rfl Try.func48 (by kernel_rfl) rfl #[.agg #[.int .i64 a0_0, .int .i64 a0_1, .slice A0_2 l0_2.length c0_2, .slice A0_3 l0_3.length c0_3, .slice A0_4 l0_4.length c0_4]] rfl (by (try simp only [List.map_toArray, List.map_cons, List.map_nil]); first | done | rfl | (simp only [List.length_drop, List.length_take]; rfl)) ?_; (with_reducible refine (msg_fits.calls a0_0 a0_1 _ _ l0_2 _ _ l0_3 _ _ l0_4 true _ ?side1 ?side2 ?side3 ?side4 ?side5 ?side6 A2.out).mono ?_); (case side1 => repeat (first | exact (Kd.C_below HR0_2.out HB.out) | (with_reducible refine Kd.C_alloc ?_ _) | (with_reducible refine Kd.C_drewN ?_ _) | (with_reducible refine Kd.C_drew ?_))); (case side2 => exact HC0_2.out); (case side3 => repeat (first | exact (Kd.C_below HR0_3.out HB.out) | (with_reducible refine Kd.C_alloc ?_ _) | (with_reducible refine Kd.C_drewN ?_ _) | (with_reducible refine Kd.C_drew ?_))); (case side4 => exact HC0_3.out); (case side5 => repeat (first | exact (Kd.C_below HR0_4.out HB.out) | (with_reducible refine Kd.C_alloc ?_ _) | (with_reducible refine Kd.C_drewN ?_ _) | (with_reducible refine Kd.C_drew ?_))); (case side6 => exact HC0_4.out); rintro e w17 ⟨rfl, hb⟩; refine ⟨_, rfl, ?_⟩; have n0_ := Aside0.mk (blk_below (g := gb683) (o := .cells #[.int .i64 a0_0, .int .i64 a0_1, .slice A0_2 l0_2.length c0_2, .slice A0_3 l0_3.length c0_3, .slice A0_4 l0_4.length c0_4] 48 (0, 0)) (BK683.out) hb); have n1_ := Aside0.mk (below_step (HB.out) hb); clear BK683; clear HB; have BK683 := n0_; have HB := n1_; clear n0_ n1_; (try clear hb); (try clear hb2); (try clear hk); (try clear hi); have hcz18_0 : w17.cell? ⟨gb683, 0, none⟩ = some (.int .i64 a0_0) := (blk_cell BK683.out 0).trans rfl; have hcz18_1 : w17.cell? ⟨gb683, 1, none⟩ = some (.int .i64 a0_1) := (blk_cell BK683.out 1).trans rfl; have hcz18_2 : w17.cell? ⟨gb683, 2, none⟩ = some (.slice A0_2 l0_2.length c0_2) := (blk_cell BK683.out 2).trans rfl; have hcz18_3 : w17.cell? ⟨gb683, 3, none⟩ = some (.slice A0_3 l0_3.length c0_3) := (blk_cell BK683.out 3).trans rfl; have hcz18_4 : w17.cell? ⟨gb683, 4, none⟩ = some (.slice A0_4 l0_4.length c0_4) := (blk_cell BK683.out 4).trans rfl; have hfz18_0 := blk_frozen BK683.out 0; have hfz18_1 := blk_frozen BK683.out 1; have hfz18_2 := blk_frozen BK683.out 2; have hfz18_3 := blk_frozen BK683.out 3; have hfz18_4 := blk_frozen BK683.out 4) | ((with_reducible refine gate_callee (f := 49) rfl ?_); refine goesL_ (some 7) rfl rfl Try.func49 (by kernel_rfl) rfl #[.agg #[.int .i64 a0_0, .int .i64 a0_1, .slice A0_2 l0_2.length c0_2, .slice A0_3 l0_3.length c0_3, .slice A0_4 l0_4.length c0_4]] rfl (by (try simp only [List.map_toArray, List.map_cons, List.map_nil]); first | done | rfl | (simp only [List.length_drop, List.length_take]; rfl)) ?_; (with_reducible refine (msg_written.calls k a0_0 a0_1 _ _ l0_2 _ _ l0_3 _ _ l0_4 t685 _ ?side1 ?side2 ?side3 ?side4 ?side5 ?side6 A4.out).mono ?_); (case side1 => repeat (first | exact (Kd.C_below HR0_2.out HB.out) | (with_reducible refine Kd.C_alloc ?_ _) | (with_reducible refine Kd.C_drewN ?_ _) | (with_reducible refine Kd.C_drew ?_))); (case side2 => exact HC0_2.out); (case side3 => repeat (first | exact (Kd.C_below HR0_3.out HB.out) | (with_reducible refine Kd.C_alloc ?_ _) | (with_reducible refine Kd.C_drewN ?_ _) | (with_reducible refine Kd.C_drew ?_))); (case side4 => exact HC0_3.out); (case side5 => repeat (first | exact (Kd.C_below HR0_4.out HB.out) | (with_reducible refine Kd.C_alloc ?_ _) | (with_reducible refine Kd.C_drewN ?_ _) | (with_reducible refine Kd.C_drew ?_))); (case side6 => exact HC0_4.out); rintro e w19 ⟨v686, rfl, ho0, hb⟩; refine ⟨_, rfl, ?_⟩; have n0_ := Aside0.mk (Kd.V_lower (Kd.V_mono (ok' := fun k_ => k_ ≠ gb683) ho0 (fun k_ hk_ => (Kd.freshB (g := gb683) (o := .cells #[.int .i64 a0_0, .int .i64 a0_1, .slice A0_2 l0_2.length c0_2, .slice A0_3 l0_3.length c0_3, .slice A0_4 l0_4.length c0_4] 48 (0, 0)) (BK683.out) k_ hk_))) (below_size (HB.out))); have n1_ := Aside0.mk (blk_below (g := gb683) (o := .cells #[.int .i64 a0_0, .int .i64 a0_1, .slice A0_2 l0_2.length c0_2, .slice A0_3 l0_3.length c0_3, .slice A0_4 l0_4.length c0_4] 48 (0, 0)) (BK683.out) hb); have n2_ := Aside0.mk (below_step (HB.out) hb); clear BK683; clear HB; have HO687 := n0_; have BK683 := n1_; have HB := n2_; clear n0_ n1_ n2_; (try clear hb); (try clear hb2); (try clear hk); (try clear hi); (try clear ho0); obtain ⟨Ao20, co20, eo20⟩ := Kd.V_slice HO687.out; subst eo20) | ((with_reducible refine gate_callee (f := 49) rfl ?_); refine goesL_ (some 14) rfl rfl Try.func49 (by kernel_rfl) rfl #[.agg #[.int .i64 7, .int .i64 0, .slice none 0 0, .slice none 0 0, .slice none 0 0]] rfl (by (try simp only [List.map_toArray, List.map_cons, List.map_nil]); first | done | rfl | (simp only [List.length_drop, List.length_take]; rfl)) ?_; (refine (msg_written.calls k 7 0 _ _ ([] : List ByteArray) _ _ ([] : List ByteArray) _ _ ([] : List (S58)) t688 _ ?side1 ?side2 ?side3 ?side4 ?side5 ?side6 A14.out).mono ?_); (case side1 => exact Kd.C_nil _ _); (case side2 => exact Nat.le_refl _); (case side3 => exact Kd.C_nil _ _); (case side4 => exact Nat.le_refl _); (case side5 => exact Kd.C_nil _ _); (case side6 => exact Nat.le_refl _); rintro e w21 ⟨v689, rfl, ho0, hb⟩; refine ⟨_, rfl, ?_⟩; have n0_ := Aside0.mk (Kd.V_below (HO687.out) hb); have n1_ := Aside0.mk (Kd.V_lower (Kd.V_mono (ok' := fun k_ => k_ ≠ gb683) ho0 (fun k_ hk_ => (Kd.freshB (g := gb683) (o := .cells #[.int .i64 a0_0, .int .i64 a0_1, .slice A0_2 l0_2.length c0_2, .slice A0_3 l0_3.length c0_3, .slice A0_4 l0_4.length c0_4] 48 (0, 0)) (BK683.out) k_ hk_))) (below_size (HB.out))); have n2_ := Aside0.mk (blk_below (g := gb683) (o := .cells #[.int .i64 a0_0, .int .i64 a0_1, .slice A0_2 l0_2.length c0_2, .slice A0_3 l0_3.length c0_3, .slice A0_4 l0_4.length c0_4] 48 (0, 0)) (BK683.out) hb); have n3_ := Aside0.mk (below_step (HB.out) hb); clear HO687; clear BK683; clear HB; have HO687 := n0_; have HO690 := n1_; have BK683 := n2_; have HB := n3_; clear n0_ n1_ n2_ n3_; (try clear hb); (try clear hb2); (try clear hk); (try clear hi); (try clear ho0); (first | have hcv22 := own_string (P := Try.prog) Try.underlying31 Try.underlying5 Try.underlying9 (Kd.own_of_R HO690.out) | have hcv22 := V_string_msg_PutAnswer (P := Try.prog) Try.underlying31 Try.underlying5 Try.underlying9 HO690.out); (first | have hcv23 := fun n_ : Nat => own_string (P := Try.prog) Try.underlying31 Try.underlying5 Try.underlying9 (Kd.own_of_R (Kd.R_drewN HO690.out n_)) | have hcv23 := fun n_ : Nat => V_string_msg_PutAnswer (P := Try.prog) Try.underlying31 Try.underlying5 Try.underlying9 (Kd.V_drewN HO690.out n_))))
   go_ret
   exact ⟨by first | rfl | (simp [errW_none, errW_some] <;> rfl) | (simp [*, errW_none, errW_some] <;> rfl), HB.out⟩
 ·replace c3 := Bool.eq_false_iff.mpr c3
  subst c3
  have H1 : ((msg_written.f k 7 0 ([] : List ByteArray) ([] : List ByteArray) ([] : List (S58))).bind fun t691 => (some (strOfNums t691))) = some r := by rw [if_neg (show ¬ (false = true) by decide)] at H; exact H
  clear H
  have H := H1
  clear H1
  replace H := Option.bind_eq_some_iff.mp H
  obtain ⟨t691, A240, H⟩ := H
  replace H : (some (strOfNums t691)) = some r := H
  have A24 := Aside0.mk A240
  clear A240
  obtain rfl := Option.some.inj H
  go_enter Try.func21, Try.ntmps21
  go_wp2_with (first | ((with_reducible refine gate_dst (N := 1) rfl ?_); refine box_event ?hg (N := 1) ?hd (cs := #[.int .i64 a0_0, .int .i64 a0_1, .slice A0_2 l0_2.length c0_2, .slice A0_3 l0_3.length c0_3, .slice A0_4 l0_4.length c0_4]) (t := 48) ?hr ?_; (case hd => rfl); (case hg => rfl); (case hr => first | (go_simp; done) | (go_simp; rfl)); intro gb683 hg w25 hbox hb; have n0_ := Aside0.mk (below_step (HB.out) hb); have n1_ := Aside0.mk (hbox); have n2_ := Aside0.mk ((by rw [hg]; exact (below_size (HB.out)) : w.heap.size ≤ gb683)); have n3_ := Aside0.mk ((by rw [hg]; exact (below_size (HB.out)) : w.heap.size ≤ gb683)); clear HB; have HB := n0_; have BK683 := n1_; have GW683 := n2_; have GE683 := n3_; clear n0_ n1_ n2_ n3_; clear hb hbox hg; have hcz26_0 : w25.cell? ⟨gb683, 0, none⟩ = some (.int .i64 a0_0) := (blk_cell BK683.out 0).trans rfl; have hcz26_1 : w25.cell? ⟨gb683, 1, none⟩ = some (.int .i64 a0_1) := (blk_cell BK683.out 1).trans rfl; have hcz26_2 : w25.cell? ⟨gb683, 2, none⟩ = some (.slice A0_2 l0_2.length c0_2) := (blk_cell BK683.out 2).trans rfl; have hcz26_3 : w25.cell? ⟨gb683, 3, none⟩ = some (.slice A0_3 l0_3.length c0_3) := (blk_cell BK683.out 3).trans rfl; have hcz26_4 : w25.cell? ⟨gb683, 4, none⟩ = some (.slice A0_4 l0_4.length c0_4) := (blk_cell BK683.out 4).trans rfl; have hfz26_0 := blk_frozen BK683.out 0; have hfz26_1 := blk_frozen BK683.out 1; have hfz26_2 := blk_frozen BK683.out 2; have hfz26_3 := blk_frozen BK683.out 3; have hfz26_4 := blk_frozen BK683.out 4) | ((with_reducible refine gate_callee (f := 48) rfl ?_); refine goesL_ (some 5) rfl rfl Try.func48 (by kernel_rfl) rfl #[.agg #[.int .i64 a0_0, .int .i64 a0_1, .slice A0_2 l0_2.length c0_2, .slice A0_3 l0_3.length c0_3, .slice A0_4 l0_4.length c0_4]] rfl (by (try simp only [List.map_toArray, List.map_cons, List.map_nil]); first | done | rfl | (simp only [List.length_drop, List.length_take]; rfl)) ?_; (with_reducible refine (msg_fits.calls a0_0 a0_1 _ _ l0_2 _ _ l0_3 _ _ l0_4 false _ ?side1 ?side2 ?side3 ?side4 ?side5 ?side6 A2.out).mono ?_); (case side1 => repeat (first | exact (Kd.C_below HR0_2.out HB.out) | (with_reducible refine Kd.C_alloc ?_ _) | (with_reducible refine Kd.C_drewN ?_ _) | (with_reducible refine Kd.C_drew ?_))); (case side2 => exact HC0_2.out); (case side3 => repeat (first | exact (Kd.C_below HR0_3.out HB.out) | (with_reducible refine Kd.C_alloc ?_ _) | (with_reducible refine Kd.C_drewN ?_ _) | (with_reducible refine Kd.C_drew ?_))); (case side4 => exact HC0_3.out); (case side5 => repeat (first | exact (Kd.C_below HR0_4.out HB.out) | (with_reducible refine Kd.C_alloc ?_ _) | (with_reducible refine Kd.C_drewN ?_ _) | (with_reducible refine Kd.C_drew ?_))); (case side6 => exact HC0_4.out); rintro e w27 ⟨rfl, hb⟩; refine ⟨_, rfl, ?_⟩; have n0_ := Aside0.mk (blk_below (g := gb683) (o := .cells #[.int .i64 a0_0, .int .i64 a0_1, .slice A0_2 l0_2.length c0_2, .slice A0_3 l0_3.length c0_3, .slice A0_4 l0_4.length c0_4] 48 (0, 0)) (BK683.out) hb); have n1_ := Aside0.mk (below_step (HB.out) hb); clear BK683; clear HB; have BK683 := n0_; have HB := n1_; clear n0_ n1_; (try clear hb); (try clear hb2); (try clear hk); (try clear hi)) | ((with_reducible refine gate_callee (f := 49) rfl ?_); refine goesL_ (some 14) rfl rfl Try.func49 (by kernel_rfl) rfl #[.agg #[.int .i64 7, .int .i64 0, .slice none 0 0, .slice none 0 0, .slice none 0 0]] rfl (by (try simp only [List.map_toArray, List.map_cons, List.map_nil]); first | done | rfl | (simp only [List.length_drop, List.length_take]; rfl)) ?_; (refine (msg_written.calls k 7 0 _ _ ([] : List ByteArray) _ _ ([] : List ByteArray) _ _ ([] : List (S58)) t691 _ ?side1 ?side2 ?side3 ?side4 ?side5 ?side6 A24.out).mono ?_); (case side1 => exact Kd.C_nil _ _); (case side2 => exact Nat.le_refl _); (case side3 => exact Kd.C_nil _ _); (case side4 => exact Nat.le_refl _); (case side5 => exact Kd.C_nil _ _); (case side6 => exact Nat.le_refl _); rintro e w28 ⟨v692, rfl, ho0, hb⟩; refine ⟨_, rfl, ?_⟩; have n0_ := Aside0.mk (Kd.V_lower (Kd.V_mono (ok' := fun k_ => k_ ≠ gb683) ho0 (fun k_ hk_ => (Kd.freshB (g := gb683) (o := .cells #[.int .i64 a0_0, .int .i64 a0_1, .slice A0_2 l0_2.length c0_2, .slice A0_3 l0_3.length c0_3, .slice A0_4 l0_4.length c0_4] 48 (0, 0)) (BK683.out) k_ hk_))) (below_size (HB.out))); have n1_ := Aside0.mk (blk_below (g := gb683) (o := .cells #[.int .i64 a0_0, .int .i64 a0_1, .slice A0_2 l0_2.length c0_2, .slice A0_3 l0_3.length c0_3, .slice A0_4 l0_4.length c0_4] 48 (0, 0)) (BK683.out) hb); have n2_ := Aside0.mk (below_step (HB.out) hb); clear BK683; clear HB; have HO693 := n0_; have BK683 := n1_; have HB := n2_; clear n0_ n1_ n2_; (try clear hb); (try clear hb2); (try clear hk); (try clear hi); (try clear ho0); (first | have hcv29 := own_string (P := Try.prog) Try.underlying31 Try.underlying5 Try.underlying9 (Kd.own_of_R HO693.out) | have hcv29 := V_string_msg_PutAnswer (P := Try.prog) Try.underlying31 Try.underlying5 Try.underlying9 HO693.out); (first | have hcv30 := fun n_ : Nat => own_string (P := Try.prog) Try.underlying31 Try.underlying5 Try.underlying9 (Kd.own_of_R (Kd.R_drewN HO693.out n_)) | have hcv30 := fun n_ : Nat => V_string_msg_PutAnswer (P := Try.prog) Try.underlying31 Try.underlying5 Try.underlying9 (Kd.V_drewN HO693.out n_))))
  go_ret
  exact ⟨by first | rfl | (simp [errW_none, errW_some] <;> rfl) | (simp [*, errW_none, errW_some] <;> rfl), HB.out⟩
def becketref12_few.l0 : Nat → List ByteArray → Int → Option (Bool)
 | 0, _, _ => none
 | k + 1, x0, x3 => if x3 < (x0.length : Int) then (if 0 ≤ x3 then (if ((rdOf ByteArray.empty x0 x3).size : Int) > 4096 then (some false) else (becketref12_few.l0 k x0 (wrap64 (x3 + 1)))) else (none)) else (some true)
def becketref12_few.f (k : Nat) (l0 : List ByteArray) : Option (Bool) := becketref12_few.l0 k l0 0
set_option maxHeartbeats 8000000 in
set_option maxRecDepth 100000 in
theorem becketref12_few.calls (k : Nat) (A0 : Option Addr) (c0 : Nat) (l0 : List ByteArray) (r : Bool) (w : World) (hr0 : Kd.C Kd.string w A0 l0.length l0) (hc0 : l0.length ≤ c0) (h : becketref12_few.f k l0 = some r) :
  Calls Try.prog 50 #[.slice A0 l0.length c0] w fun e w' => e = .returned (.bool r) ∧ Drawn0 w w' := by
 have HR0 := Aside0.mk hr0
 have HC0 := Aside0.mk hc0
 clear hr0 hc0
 have H : (becketref12_few.l0 k l0 0) = some r := h
 clear h
 have H' := Aside0.mk H
 clear H
 go_enter Try.func50, Try.ntmps50
 go_wp2
 go_loopg [3] k (fun kq v3 w' => ∃ (x3_1 : Int), v3 = .int .i64 x3_1 ∧ Aside0 (becketref12_few.l0 kq l0 x3_1 = some r) ∧ Aside0 (kq ≤ k) ∧ Drawn0 w w')
 case atStart => exact ⟨(0), (by first | rfl | (simp; done) | (simp [*]; done)), H', ⟨Nat.le_refl _⟩, by repeat (first | exact Drawn0.refl _ | apply Drawn0.step)⟩
 case round =>
  clear H'
  obtain ⟨x3_1, rfl, HA, HK1, ⟨m1, rfl⟩⟩ := hrel
  cases gk with
  | zero => exact absurd HA.out (by simp [becketref12_few.l0])
  | succ k1 =>
   have H := HA.out
   clear HA
   simp only [becketref12_few.l0] at H
   by_cases c2 : x3_1 < (l0.length : Int)
   ·rw [if_pos c2] at H
    have c2b0 : decide (x3_1 < (l0.length : Int)) = true := decide_eq_true c2
    clear c2
    by_cases c3 : 0 ≤ x3_1
    ·rw [if_pos c3] at H
     have c3b0 : decide (0 ≤ x3_1) = true := decide_eq_true c3
     clear c3
     by_cases c4 : ((rdOf ByteArray.empty l0 x3_1).size : Int) > 4096
     ·rw [if_pos c4] at H
      have c4b0 : decide (4096 < ((rdOf ByteArray.empty l0 x3_1).size : Int)) = true := decide_eq_true c4
      have c4b1 : decide (4096 < (rdOf ByteArray.empty l0 x3_1).size) = true := decide_eq_true (by omega)
      clear c4
      obtain rfl := Option.some.inj H
      have p694 : 0 ≤ (x3_1 : Int) := of_decide_eq_true (by first | (with_reducible assumption) | assumption)
      have q694 : x3_1 < (l0.length : Int) := of_decide_eq_true (by first | (with_reducible assumption) | assumption)
      obtain ⟨ad694, e694, hx694_0⟩ := Kd.at_string HR0.out x3_1 p694 q694
      cases e694
      replace p694 := eq_true p694
      replace q694 := eq_true q694
      go_wp2
      go_ret
      exact ⟨by first | rfl | (simp; done) | (simp [*]; done), by repeat (first | exact Drawn0.refl _ | apply Drawn0.step)⟩
     ·rw [if_neg c4] at H
      have c4b0 : decide (4096 < ((rdOf ByteArray.empty l0 x3_1).size : Int)) = false := decide_eq_false c4
      have c4b1 : decide (4096 < (rdOf ByteArray.empty l0 x3_1).size) = false := decide_eq_false (by omega)
      clear c4
      have H' := Aside0.mk H
      clear H
      have p694 : 0 ≤ (x3_1 : Int) := of_decide_eq_true (by first | (with_reducible assumption) | assumption)
      have q694 : x3_1 < (l0.length : Int) := of_decide_eq_true (by first | (with_reducible assumption) | assumption)
      obtain ⟨ad694, e694, hx694_0⟩ := Kd.at_string HR0.out x3_1 p694 q694
      cases e694
      replace p694 := eq_true p694
      replace q694 := eq_true q694
      go_wp2
      go_roundg k1
      case measure => have := HK1.out; omega
      case rel => exact ⟨(wrap64 (x3_1 + 1)), (by first | rfl | (simp; done) | (simp [*]; done)), H', ⟨by have := HK1.out; omega⟩, by repeat (first | exact Drawn0.refl _ | apply Drawn0.step)⟩
    ·rw [if_neg c3] at H
     exact absurd H (by simp)
   ·rw [if_neg c2] at H
    have c2b0 : decide (x3_1 < (l0.length : Int)) = false := decide_eq_false c2
    clear c2
    obtain rfl := Option.some.inj H
    go_wp2
    go_ret
    exact ⟨by first | rfl | (simp; done) | (simp [*]; done), by repeat (first | exact Drawn0.refl _ | apply Drawn0.step)⟩
def becketref12_texts.l0 : Nat → List ByteArray → List Int → Int → Option (List Int)
 | 0, _, _, _ => none
 | k + 1, x0, x3, x4 => if x4 < (x0.length : Int) then (if 0 ≤ x4 then ((becketref01_Text.f k (rdOf ByteArray.empty x0 x4)).bind fun t699 => (if x3.length + t699.length < 140737488355328 then (becketref12_texts.l0 k x0 (x3 ++ t699) (wrap64 (x4 + 1))) else (none))) else (none)) else (some x3)
def becketref12_texts.f (k : Nat) (l0 : List ByteArray) : Option (List Int) := (becketref12_number.f k (l0.length : Int)).bind fun t695 => (becketref12_texts.l0 k l0 t695 0)
set_option maxHeartbeats 8000000 in
set_option maxRecDepth 100000 in
theorem becketref12_texts.calls (k : Nat) (A0 : Option Addr) (c0 : Nat) (l0 : List ByteArray) (r : List Int) (w : World) (hr0 : Kd.C Kd.string w A0 l0.length l0) (hc0 : l0.length ≤ c0) (h : becketref12_texts.f k l0 = some r) :
  Calls Try.prog 51 #[.slice A0 l0.length c0] w fun e w' => ∃ v0_ : Value, e = .returned (v0_) ∧ Kd.R (Kd.int .u8) 5 w' w.heap.size (fun _ => True) v0_ r ∧ Below w.heap.size w w' := by
 have HR0 := Aside0.mk hr0
 have HC0 := Aside0.mk hc0
 clear hr0 hc0
 have HB := Aside0.mk (Below.refl w.heap.size w)
 have H : ((becketref12_number.f k (l0.length : Int)).bind fun t695 => (becketref12_texts.l0 k l0 t695 0)) = some r := h
 clear h
 replace H := Option.bind_eq_some_iff.mp H
 obtain ⟨t695, A20, H⟩ := H
 replace H : (becketref12_texts.l0 k l0 t695 0) = some r := H
 have A2 := Aside0.mk A20
 clear A20
 have H' := Aside0.mk H
 clear H
 go_enter Try.func51, Try.ntmps51
 go_wp2_with (first | ((with_reducible refine gate_callee (f := 36) rfl ?_); refine goesL_ (some 7) rfl rfl Try.func36 (by kernel_rfl) rfl #[.int .i64 (l0.length : Int)] rfl (by (try simp only [List.map_toArray, List.map_cons, List.map_nil]); first | done | rfl | (simp only [List.length_drop, List.length_take]; rfl)) ?_; (with_reducible refine (becketref12_number.calls k (l0.length : Int) t695 _ A2.out).mono ?_); rintro e w3 ⟨v696, rfl, ho0, hb⟩; refine ⟨_, rfl, ?_⟩; have n0_ := Aside0.mk (Kd.R_lower ho0 (below_size (HB.out))); have n1_ := Aside0.mk (below_step (HB.out) hb); clear HB; have HO697 := n0_; have HB := n1_; clear n0_ n1_; (try clear hb); (try clear hb2); (try clear hk); (try clear hi); (try clear ho0)))
 go_loopg [3, 4] k (fun kq v3 v4 w' => ∃ (x3_1 : List Int) (x4_1 : Int), v4 = .int .i64 x4_1 ∧ Aside0 (becketref12_texts.l0 kq l0 x3_1 x4_1 = some r) ∧ Aside0 (kq ≤ k) ∧ Aside0 (Kd.R (Kd.int .u8) 5 w' w.heap.size (fun _ => True) v3 x3_1) ∧ Aside0 (Below w.heap.size w w'))
 case atStart => exact ⟨(t695), (0), (by first | rfl | (simp; done) | (simp [*]; done)), H', ⟨Nat.le_refl _⟩, ⟨HO697.out⟩, ⟨HB.out⟩⟩
 case round =>
  clear H'
  try clear p2
  try clear c3
  obtain ⟨x3_1, x4_1, rfl, HA, HK1, HO_3, HB⟩ := hrel
  cases gk with
  | zero => exact absurd HA.out (by simp [becketref12_texts.l0])
  | succ k1 =>
   have H := HA.out
   clear HA
   simp only [becketref12_texts.l0] at H
   by_cases c4 : x4_1 < (l0.length : Int)
   ·rw [if_pos c4] at H
    have c4b0 : decide (x4_1 < (l0.length : Int)) = true := decide_eq_true c4
    clear c4
    by_cases c5 : 0 ≤ x4_1
    ·rw [if_pos c5] at H
     have c5b0 : decide (0 ≤ x4_1) = true := decide_eq_true c5
     clear c5
     replace H := Option.bind_eq_some_iff.mp H
     obtain ⟨t699, A60, H⟩ := H
     replace H : (if x3_1.length + t699.length < 140737488355328 then (becketref12_texts.l0 k1 l0 (x3_1 ++ t699) (wrap64 (x4_1 + 1))) else (none)) = some r := H
     have A6 := Aside0.mk A60
     clear A60
     by_cases c7 : x3_1.length + t699.length < 140737488355328
     ·rw [if_pos c7] at H
      have LMc7 := Aside0.mk c7
      clear c7
      obtain ⟨y702, hy702⟩ : ∃ y_ : List Int, y_ = (x3_1 ++ t699) := ⟨_, rfl⟩
      replace H : (becketref12_texts.l0 k1 l0 y702 (wrap64 (x4_1 + 1))) = some r := by first | (rw [hy702]; with_reducible exact H) | (have H2_ := (Option.bind_some _ _).symm.trans H; rw [hy702]; with_reducible exact H2_) | (have H2_ := (Option.bind_some _ _).symm.trans H; with_reducible exact H2_) | with_reducible exact H | (rw [hy702]; exact H) | exact H
      have Ny702 := Aside0.mk hy702
      clear hy702
      have H' := Aside0.mk H
      clear H
      have p698 : 0 ≤ (x4_1 : Int) := of_decide_eq_true (by first | (with_reducible assumption) | assumption)
      have q698 : x4_1 < (l0.length : Int) := of_decide_eq_true (by first | (with_reducible assumption) | assumption)
      obtain ⟨ad698, e698, hx698_0⟩ := Kd.at_string HR0.out x4_1 p698 q698
      cases e698
      replace hx698_0 := (HB.out.cell (World.block_lt_of_cell? w _ hx698_0)).trans hx698_0
      replace p698 := eq_true p698
      replace q698 := eq_true q698
      go_wp2_with (first | ((with_reducible refine gate_callee (f := 37) rfl ?_); refine goesL_ (some 19) rfl rfl Try.func37 (by kernel_rfl) rfl #[.string (rdOf ByteArray.empty l0 x4_1)] rfl (by (try simp only [List.map_toArray, List.map_cons, List.map_nil]); first | done | rfl | (simp only [List.length_drop, List.length_take]; rfl)) ?_; (with_reducible refine (becketref01_Text.calls k1 (rdOf ByteArray.empty l0 x4_1) t699 _ A6.out).mono ?_); rintro e w8 ⟨v700, rfl, ho0, hb⟩; refine ⟨_, rfl, ?_⟩; have n0_ := Aside0.mk (Kd.R_elder' (HO_3.out) (Kd.R_base ho0) hb); have n1_ := Aside0.mk (Kd.R_lower (Kd.R_new' ho0 (Kd.R_lt (HO_3.out))) (below_size (HB.out))); have n2_ := Aside0.mk (below_step (HB.out) hb); clear HO_3; clear HB; have HO_3 := n0_; have HO701 := n1_; have HB := n2_; clear n0_ n1_ n2_; (try clear hb); (try clear hb2); (try clear hk); (try clear hi); (try clear ho0); obtain ⟨Ao10, co10, eo10⟩ := Kd.R_slice HO701.out; subst eo10) | ((with_reducible refine gate_builtin (b := .append) (xs := #[.tmp 14, .tmp 19]) rfl ?_); at_builtin; refine Kd.R_append_rows (Kd.int .u8) (w0 := w) w.heap.size rfl (.tmp 14) (.tmp 19) 31 5 (.int .u8 0) 1 rfl Try.underlying31 info5 rfl (by decide) (by omega) u3 x3_1 t699 _ _ _ (fun k_ => some k_ ≠ (.slice Ao10 t699.length co10 : Value).ownBlock) (fun _ => False) rfl rfl ?aO ?aR (fun _ _ h => h) (fun _ h => h.elim) ?aF ?aB ?aS ?aL ?_; (case aR => repeat (first | exact (Kd.R_reads' HO701.out).2.2 | (with_reducible refine Kd.C_alloc ?_ _) | (with_reducible refine Kd.C_drewN ?_ _) | (with_reducible refine Kd.C_drew ?_))); (case aB => exact (HB.out)); (case aF => exact (fun k_ hk => Kd.fresh' (Kd.R_lt (HO701.out)) k_ hk)); (case aO => exact (Kd.R_mono HO_3.out (fun _ hk => hk.2))); (case aS => exact (below_size (HB.out))); (case aL => have := LMc7.out; omega); intro v703 w9 ho hb hg hat; rw [← Ny702.out] at ho; have n0_ := Aside0.mk (Kd.R_after (ok := (fun _ => True)) (HO701.out) hg hat); have n1_ := Aside0.mk (hb); have n2_ := Aside0.mk (ho); clear HO701; clear HB; clear HO_3; have HO701 := n0_; have HB := n1_; have HO704 := n2_; clear n0_ n1_ n2_; clear ho hb hg hat))
      go_roundg k1
      case measure => have := HK1.out; omega
      case rel => exact ⟨(y702), (wrap64 (x4_1 + 1)), (by first | rfl | (simp; done) | (simp [*]; done)), H', ⟨by have := HK1.out; omega⟩, ⟨Kd.R_mono HO704.out (fun _ hk => trivial)⟩, ⟨HB.out⟩⟩
     ·rw [if_neg c7] at H
      exact absurd H (by simp)
    ·rw [if_neg c5] at H
     exact absurd H (by simp)
   ·rw [if_neg c4] at H
    have c4b0 : decide (x4_1 < (l0.length : Int)) = false := decide_eq_false c4
    clear c4
    obtain rfl := Option.some.inj H
    go_wp2
    go_ret
    exact ⟨_, by first | rfl | (simp [errW_none, errW_some] <;> rfl) | (simp [*, errW_none, errW_some] <;> rfl), HO_3.out, HB.out⟩
end Go.Proofs.Ytpbbgbikebcnbaa.Ms
