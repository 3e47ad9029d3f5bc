-- Cut by a program of this session (wip/shake.py) out of a text of this seat: what this claim doesn't reach is struck out. Lean checks it.
import Derived.Test.YtpbbgbikebcnbaaMsx0Cw
import Derived.Test.YtpbbgbikebcnbaaMsx13Cw
import Derived.Test.YtpbbgbikebcnbaaMsx22Cw
namespace Go.Proofs.Ytpbbgbikebcnbaa.Ms
open Go.RowKit Go.Proofs.YtpbbgbikebcnbaaW.PrintWords Go.Proofs.YtpbbgbikebcnbaaW.PrintLast Go.Proofs.YtpbbgbikebcnbaaW.PrintMore
attribute [local go_sem] max2_int min2_int max_two min_two max_three min_three max_four min_four   -- for this text's walks alone
set_option linter.unusedVariables false
set_option linter.unusedSimpArgs false
attribute [local go_sem] eqlErr neqErr eqlErrNil neqErrNil
open Go.Proofs.Ytpbbgbikebcnbaa.Mw
mutual
def becketref12_PutAnswer.j0 : Nat → Bool → Int → Int → List ByteArray → List ByteArray → List (S58) → Option (ByteArray)
 | 0, _, _, _, _, _, _ => none
 | k + 1, x5, x706000, x706001, x706002, x706003, x706004 => becketref12_PutAnswer.l0 k x5 0 x706000 x706001 x706002 x706003 x706004
def becketref12_PutAnswer.l0 : Nat → Bool → Int → Int → Int → List ByteArray → List ByteArray → List (S58) → Option (ByteArray)
 | 0, _, _, _, _, _, _, _ => none
 | k + 1, x5, x6, x706000, x706001, x706002, x706003, x706004 => if x6 < (x706004.length : Int) then (if 0 ≤ x6 then ((becketref12_few.f k ((rd_T58 x706004 x6).f2)).bind fun t710 => (if x5 = true then (if t710 = true then (if ((rd_T58 x706004 x6).f1) ≥ 0 then (becketref12_PutAnswer.l0 k (decide ((((rd_T58 x706004 x6).f0).size : Int) ≤ 4096)) (wrap64 (x6 + 1)) x706000 x706001 x706002 x706003 x706004) else (becketref12_PutAnswer.l0 k false (wrap64 (x6 + 1)) x706000 x706001 x706002 x706003 x706004)) else (becketref12_PutAnswer.l0 k false (wrap64 (x6 + 1)) x706000 x706001 x706002 x706003 x706004)) else (becketref12_PutAnswer.l0 k false (wrap64 (x6 + 1)) x706000 x706001 x706002 x706003 x706004))) else (none)) else (if x5 = true then ((becketref12_number.f k x706000).bind fun t711 => ((becketref12_number.f k x706001).bind fun t714 => (if t711.length + t714.length < 140737488355328 then ((some (t711 ++ t714 : List Int)).bind fun y717 => ((becketref12_texts.f k x706002).bind fun t720 => (if y717.length + t720.length < 140737488355328 then ((some (y717 ++ t720 : List Int)).bind fun y723 => ((becketref12_texts.f k x706003).bind fun t726 => (if y723.length + t726.length < 140737488355328 then ((some (y723 ++ t726 : List Int)).bind fun y729 => ((becketref12_number.f k (x706004.length : Int)).bind fun t732 => (if y729.length + t732.length < 140737488355328 then (becketref12_PutAnswer.l1 k (y729 ++ t732) 0 x706000 x706001 x706002 x706003 x706004) else (none)))) else (none)))) else (none)))) else (none)))) else (some (⟨#[7, 0, 0, 0, 0]⟩ : ByteArray)))
def becketref12_PutAnswer.l1 : Nat → List Int → Int → Int → Int → List ByteArray → List ByteArray → List (S58) → Option (ByteArray)
 | 0, _, _, _, _, _, _, _ => none
 | k + 1, x9, x10, x706000, x706001, x706002, x706003, x706004 => if x10 < (x706004.length : Int) then (if 0 ≤ x10 then ((becketref01_Text.f k ((rd_T58 x706004 x10).f0)).bind fun t739 => (if x9.length + t739.length < 140737488355328 then ((some (x9 ++ t739 : List Int)).bind fun y742 => ((becketref12_number.f k ((rd_T58 x706004 x10).f1)).bind fun t746 => (if y742.length + t746.length < 140737488355328 then ((some (y742 ++ t746 : List Int)).bind fun y749 => ((becketref12_texts.f k ((rd_T58 x706004 x10).f2)).bind fun t753 => (if y749.length + t753.length < 140737488355328 then (becketref12_PutAnswer.l1 k (y749 ++ t753) (wrap64 (x10 + 1)) x706000 x706001 x706002 x706003 x706004) else (none)))) else (none)))) else (none))) else (none)) else (if (x9.length : Int) > 4096 then (some (⟨#[7, 0, 0, 0, 0]⟩ : ByteArray)) else (some (strOfNums x9)))
end
def becketref12_PutAnswer.f (k : Nat) (a0_0 : Int) (a0_1 : Int) (l0_2 : List ByteArray) (l0_3 : List ByteArray) (l0_4 : List (S58)) : Option (ByteArray) := (becketref12_few.f k l0_2).bind fun t706 => ((becketref12_few.f k l0_3).bind fun t707 => (if a0_0 ≥ 0 then (if a0_1 ≥ 0 then (if t706 = true then (becketref12_PutAnswer.j0 k t707 a0_0 a0_1 l0_2 l0_3 l0_4) else (becketref12_PutAnswer.j0 k false a0_0 a0_1 l0_2 l0_3 l0_4)) else (becketref12_PutAnswer.j0 k false a0_0 a0_1 l0_2 l0_3 l0_4)) else (becketref12_PutAnswer.j0 k false a0_0 a0_1 l0_2 l0_3 l0_4)))
def becketref12_PutAnswer.T12 : Bool × List (List Nat × List Nat) := (true, [([], []), ([0], [0]), ([1], [1]), ([], []), ([3], [3]), ([4, 2], [4]), ([2, 5, 5], [2, 5]), ([6, 6, 0, 1, 2, 3, 4, 5, 6], [6])])
def becketref12_PutAnswer.B12 : List Nat := [0, 1, 3, 0, 8, 31, 63, 127]
theorem becketref12_PutAnswer.tab12 : rtab .any (opsOf Try.f22 12) = becketref12_PutAnswer.T12 := by kernel_rfl
theorem becketref12_PutAnswer.bits12 : waitsOk becketref12_PutAnswer.T12.2 becketref12_PutAnswer.B12 = true := by kernel_rfl
theorem V_string_becketref12_PutAnswer {P : Program} {w : World} {base E : Nat} {ok : Nat → Prop} {src dst e : TypeId} {v : Value} {xs : List Int} (hs : P.underlying src = some (.slice e)) (he : P.underlying e = some (.int .u8)) (hd : P.underlying dst = some .string) (h : (Kd.int .u8).V E w base ok v xs) : (convert src dst v).run P w = .ok (.string (strOfNums xs)) w := by
 obtain ⟨A, c, rfl, hc, hF⟩ := h
 exact Kd.C_string hs he hd (Kd.F_now hF)
set_option maxHeartbeats 8000000 in
set_option maxRecDepth 100000 in
theorem becketref12_PutAnswer.calls (k : Nat) (a0_0 : Int) (a0_1 : Int) (A0_2 : Option Addr) (c0_2 : Nat) (l0_2 : List ByteArray) (A0_3 : Option Addr) (c0_3 : Nat) (l0_3 : List ByteArray) (A0_4 : Option Addr) (c0_4 : Nat) (l0_4 : List (S58)) (r : ByteArray) (w : World) (hr0_2 : Kd.C Kd.string w A0_2 l0_2.length l0_2) (hc0_2 : l0_2.length ≤ c0_2) (hr0_3 : Kd.C Kd.string w A0_3 l0_3.length l0_3) (hc0_3 : l0_3.length ≤ c0_3) (hr0_4 : Kd.C k58 w A0_4 l0_4.length l0_4) (hc0_4 : l0_4.length ≤ c0_4) (h : becketref12_PutAnswer.f k a0_0 a0_1 l0_2 l0_3 l0_4 = some r) :
  Calls Try.prog 22 #[.agg #[.int .i64 a0_0, .int .i64 a0_1, .slice A0_2 l0_2.length c0_2, .slice A0_3 l0_3.length c0_3, .slice A0_4 l0_4.length c0_4]] w fun e w' => e = .returned (.string r) ∧ Below w.heap.size w w' := by
 have hu48 := Try.underlying48
 have hu58 := Try.underlying58
 have HR0_2 := Aside0.mk hr0_2
 have HC0_2 := Aside0.mk hc0_2
 clear hr0_2 hc0_2
 have HR0_3 := Aside0.mk hr0_3
 have HC0_3 := Aside0.mk hc0_3
 clear hr0_3 hc0_3
 have HR0_4 := Aside0.mk hr0_4
 have HC0_4 := Aside0.mk hc0_4
 clear hr0_4 hc0_4
 have HB := Aside0.mk (Below.refl w.heap.size w)
 have H : ((becketref12_few.f k l0_2).bind fun t706 => ((becketref12_few.f k l0_3).bind fun t707 => (if a0_0 ≥ 0 then (if a0_1 ≥ 0 then (if t706 = true then (becketref12_PutAnswer.j0 k t707 a0_0 a0_1 l0_2 l0_3 l0_4) else (becketref12_PutAnswer.j0 k false a0_0 a0_1 l0_2 l0_3 l0_4)) else (becketref12_PutAnswer.j0 k false a0_0 a0_1 l0_2 l0_3 l0_4)) else (becketref12_PutAnswer.j0 k false a0_0 a0_1 l0_2 l0_3 l0_4)))) = some r := h
 clear h
 replace H := Option.bind_eq_some_iff.mp H
 obtain ⟨t706, A20, H⟩ := H
 replace H : ((becketref12_few.f k l0_3).bind fun t707 => (if a0_0 ≥ 0 then (if a0_1 ≥ 0 then (if t706 = true then (becketref12_PutAnswer.j0 k t707 a0_0 a0_1 l0_2 l0_3 l0_4) else (becketref12_PutAnswer.j0 k false a0_0 a0_1 l0_2 l0_3 l0_4)) else (becketref12_PutAnswer.j0 k false a0_0 a0_1 l0_2 l0_3 l0_4)) else (becketref12_PutAnswer.j0 k false a0_0 a0_1 l0_2 l0_3 l0_4))) = some r := H
 have A2 := Aside0.mk A20
 clear A20
 replace H := Option.bind_eq_some_iff.mp H
 obtain ⟨t707, A30, H⟩ := H
 replace H : (if a0_0 ≥ 0 then (if a0_1 ≥ 0 then (if t706 = true then (becketref12_PutAnswer.j0 k t707 a0_0 a0_1 l0_2 l0_3 l0_4) else (becketref12_PutAnswer.j0 k false a0_0 a0_1 l0_2 l0_3 l0_4)) else (becketref12_PutAnswer.j0 k false a0_0 a0_1 l0_2 l0_3 l0_4)) else (becketref12_PutAnswer.j0 k false a0_0 a0_1 l0_2 l0_3 l0_4)) = some r := H
 have A3 := Aside0.mk A30
 clear A30
 have HC4 := Aside0.mk H
 clear H
 go_enter Try.func22, Try.ntmps22
 go_upto_region 3 with (first | ((with_reducible refine gate_dst (N := 1) rfl ?_); (try (refine gate_guard (by rfl) ?_; dsimp only)); refine box_event ?hg (N := 1) ?hd (cs := #[.int .i64 a0_0, .int .i64 a0_1, .slice A0_2 l0_2.length c0_2, .slice A0_3 l0_3.length c0_3, .slice A0_4 l0_4.length c0_4]) (t := 48) ?hr ?_; (case hd => rfl); (case hg => rfl); (case hr => first | (go_simp; done) | (go_simp; rfl)); intro gb705 hg w5 hbox hb; have n0_ := Aside0.mk (below_step (HB.out) hb); have n1_ := Aside0.mk (hbox); have n2_ := Aside0.mk ((by rw [hg]; exact (below_size (HB.out)) : w.heap.size ≤ gb705)); have n3_ := Aside0.mk ((by rw [hg]; exact (below_size (HB.out)) : w.heap.size ≤ gb705)); clear HB; have HB := n0_; have BK705 := n1_; have GW705 := n2_; have GE705 := n3_; clear n0_ n1_ n2_ n3_; clear hb hbox hg; have hcz6_0 : w5.cell? ⟨gb705, 0, none⟩ = some (.int .i64 a0_0) := (blk_cell BK705.out 0).trans rfl; have hcz6_1 : w5.cell? ⟨gb705, 1, none⟩ = some (.int .i64 a0_1) := (blk_cell BK705.out 1).trans rfl; have hcz6_2 : w5.cell? ⟨gb705, 2, none⟩ = some (.slice A0_2 l0_2.length c0_2) := (blk_cell BK705.out 2).trans rfl; have hcz6_3 : w5.cell? ⟨gb705, 3, none⟩ = some (.slice A0_3 l0_3.length c0_3) := (blk_cell BK705.out 3).trans rfl; have hcz6_4 : w5.cell? ⟨gb705, 4, none⟩ = some (.slice A0_4 l0_4.length c0_4) := (blk_cell BK705.out 4).trans rfl; have hfz6_0 := blk_frozen BK705.out 0; have hfz6_1 := blk_frozen BK705.out 1; have hfz6_2 := blk_frozen BK705.out 2; have hfz6_3 := blk_frozen BK705.out 3; have hfz6_4 := blk_frozen BK705.out 4) | ((with_reducible refine gate_callee (f := 50) rfl ?_); refine goesL_ (some 13) rfl rfl Try.func50 (by kernel_rfl) rfl #[.slice A0_2 l0_2.length c0_2] rfl (by (try simp only [List.map_toArray, List.map_cons, List.map_nil]); first | done | rfl | (simp only [List.length_drop, List.length_take]; rfl)) ?_; (with_reducible refine (becketref12_few.calls k _ _ l0_2 t706 _ ?side1 ?side2 A2.out).mono ?_); (case side1 => repeat (first | exact (Kd.C_below HR0_2.out HB.out) | (with_reducible refine Kd.C_alloc ?_ _) | (with_reducible refine Kd.C_drewN ?_ _) | (with_reducible refine Kd.C_drew ?_))); (case side2 => exact HC0_2.out); rintro e w' ⟨rfl, ⟨nd, rfl⟩⟩; refine ⟨_, rfl, ?_⟩) | ((with_reducible refine gate_callee (f := 50) rfl ?_); refine goesL_ (some 16) rfl rfl Try.func50 (by kernel_rfl) rfl #[.slice A0_3 l0_3.length c0_3] rfl (by (try simp only [List.map_toArray, List.map_cons, List.map_nil]); first | done | rfl | (simp only [List.length_drop, List.length_take]; rfl)) ?_; (with_reducible refine (becketref12_few.calls k _ _ l0_3 t707 _ ?side1 ?side2 A3.out).mono ?_); (case side1 => repeat (first | exact (Kd.C_below HR0_3.out (HB.out)) | (with_reducible refine Kd.C_alloc ?_ _) | (with_reducible refine Kd.C_drewN ?_ _) | (with_reducible refine Kd.C_drew ?_))); (case side2 => exact HC0_3.out); rintro e w' ⟨rfl, ⟨nd, rfl⟩⟩; refine ⟨_, rfl, ?_⟩))
 (try simp only [Act.put, List.setIfInBounds_toArray, List.set_cons_zero, List.set_cons_succ])
 go_cut [5] (fun v5 wc => ∃ (kq : Nat) (x5_3 : Bool), v5 = .bool x5_3 ∧ Aside0 (becketref12_PutAnswer.j0 kq x5_3 a0_0 a0_1 l0_2 l0_3 l0_4 = some r) ∧ Aside0 (kq ≤ k) ∧ Aside0 (wc.heap[gb705]? = some (.cells #[.int .i64 a0_0, .int .i64 a0_1, (.slice A0_2 l0_2.length c0_2), (.slice A0_3 l0_3.length c0_3), (.slice A0_4 l0_4.length c0_4)] 48 (0, 0))) ∧ Aside0 (Below w.heap.size w wc))
 case first =>
  have H := HC4.out
  clear HC4
  by_cases c7 : a0_0 ≥ 0
  ·rw [if_pos c7] at H
   have c7b0 : decide (0 ≤ a0_0) = true := decide_eq_true c7
   clear c7
   (first | rw [c7b0] | (simp only [i64_w, i32_w]; rw [c7b0]) | skip)
   by_cases c8 : a0_1 ≥ 0
   ·rw [if_pos c8] at H
    have c8b0 : decide (0 ≤ a0_1) = true := decide_eq_true c8
    clear c8
    by_cases c9 : t706 = true
    ·subst c9
     have H1 : (becketref12_PutAnswer.j0 k t707 a0_0 a0_1 l0_2 l0_3 l0_4) = some r := by first | (rw [if_pos rfl] at H; with_reducible exact H) | exact (if_pos rfl).symm.trans H | (simp only [if_true, eq_self_iff_true] at H ⊢; exact H)
     clear H
     have H := H1
     clear H1
     have H' := Aside0.mk H
     clear H
     have hcz10_0 : w5.cell? ⟨gb705, 0, none⟩ = some (.int .i64 a0_0) := (blk_cell BK705.out 0).trans rfl
     have hcz10_1 : w5.cell? ⟨gb705, 1, none⟩ = some (.int .i64 a0_1) := (blk_cell BK705.out 1).trans rfl
     have hcz10_2 : w5.cell? ⟨gb705, 2, none⟩ = some (.slice A0_2 l0_2.length c0_2) := (blk_cell BK705.out 2).trans rfl
     have hcz10_3 : w5.cell? ⟨gb705, 3, none⟩ = some (.slice A0_3 l0_3.length c0_3) := (blk_cell BK705.out 3).trans rfl
     have hcz10_4 : w5.cell? ⟨gb705, 4, none⟩ = some (.slice A0_4 l0_4.length c0_4) := (blk_cell BK705.out 4).trans rfl
     have hfz10_0 := blk_frozen BK705.out 0
     have hfz10_1 := blk_frozen BK705.out 1
     have hfz10_2 := blk_frozen BK705.out 2
     have hfz10_3 := blk_frozen BK705.out 3
     have hfz10_4 := blk_frozen BK705.out 4
     go_wp2
     go_meet
     case rel => exact ⟨_, (t707), (by first | rfl | (simp; done) | (simp [*]; done)), H', ⟨by first | omega | exact Nat.le_refl _⟩, ⟨by (with_reducible repeat (first | refine blk_drewN ?_ _ | refine blk_drew ?_ | refine blk_alloc ?_ _)); exact BK705.out⟩, ⟨by repeat (first | (with_reducible first | exact HB.out | apply below_alloc | apply pw_below_drewN | apply below_drew1 | refine below_set ?_ GE705.out) | exact HB.out)⟩⟩
    ·replace c9 := Bool.eq_false_iff.mpr c9
     subst c9
     have H1 : (becketref12_PutAnswer.j0 k false a0_0 a0_1 l0_2 l0_3 l0_4) = some r := by rw [if_neg (show ¬ (false = true) by decide)] at H; exact H
     clear H
     have H := H1
     clear H1
     have H' := Aside0.mk H
     clear H
     have hcz11_0 : w5.cell? ⟨gb705, 0, none⟩ = some (.int .i64 a0_0) := (blk_cell BK705.out 0).trans rfl
     have hcz11_1 : w5.cell? ⟨gb705, 1, none⟩ = some (.int .i64 a0_1) := (blk_cell BK705.out 1).trans rfl
     have hcz11_2 : w5.cell? ⟨gb705, 2, none⟩ = some (.slice A0_2 l0_2.length c0_2) := (blk_cell BK705.out 2).trans rfl
     have hcz11_3 : w5.cell? ⟨gb705, 3, none⟩ = some (.slice A0_3 l0_3.length c0_3) := (blk_cell BK705.out 3).trans rfl
     have hcz11_4 : w5.cell? ⟨gb705, 4, none⟩ = some (.slice A0_4 l0_4.length c0_4) := (blk_cell BK705.out 4).trans rfl
     have hfz11_0 := blk_frozen BK705.out 0
     have hfz11_1 := blk_frozen BK705.out 1
     have hfz11_2 := blk_frozen BK705.out 2
     have hfz11_3 := blk_frozen BK705.out 3
     have hfz11_4 := blk_frozen BK705.out 4
     go_wp2
     go_meet
     case rel => exact ⟨_, (false), (by first | rfl | (simp; done) | (simp [*]; done)), H', ⟨by first | omega | exact Nat.le_refl _⟩, ⟨by (with_reducible repeat (first | refine blk_drewN ?_ _ | refine blk_drew ?_ | refine blk_alloc ?_ _)); exact BK705.out⟩, ⟨by repeat (first | (with_reducible first | exact HB.out | apply below_alloc | apply pw_below_drewN | apply below_drew1 | refine below_set ?_ GE705.out) | exact HB.out)⟩⟩
   ·rw [if_neg c8] at H
    have c8b0 : decide (0 ≤ a0_1) = false := decide_eq_false c8
    clear c8
    have H' := Aside0.mk H
    clear H
    have hcz12_0 : w5.cell? ⟨gb705, 0, none⟩ = some (.int .i64 a0_0) := (blk_cell BK705.out 0).trans rfl
    have hcz12_1 : w5.cell? ⟨gb705, 1, none⟩ = some (.int .i64 a0_1) := (blk_cell BK705.out 1).trans rfl
    have hcz12_2 : w5.cell? ⟨gb705, 2, none⟩ = some (.slice A0_2 l0_2.length c0_2) := (blk_cell BK705.out 2).trans rfl
    have hcz12_3 : w5.cell? ⟨gb705, 3, none⟩ = some (.slice A0_3 l0_3.length c0_3) := (blk_cell BK705.out 3).trans rfl
    have hcz12_4 : w5.cell? ⟨gb705, 4, none⟩ = some (.slice A0_4 l0_4.length c0_4) := (blk_cell BK705.out 4).trans rfl
    have hfz12_0 := blk_frozen BK705.out 0
    have hfz12_1 := blk_frozen BK705.out 1
    have hfz12_2 := blk_frozen BK705.out 2
    have hfz12_3 := blk_frozen BK705.out 3
    have hfz12_4 := blk_frozen BK705.out 4
    go_wp2
    go_meet
    case rel => exact ⟨_, (false), (by first | rfl | (simp; done) | (simp [*]; done)), H', ⟨by first | omega | exact Nat.le_refl _⟩, ⟨by (with_reducible repeat (first | refine blk_drewN ?_ _ | refine blk_drew ?_ | refine blk_alloc ?_ _)); exact BK705.out⟩, ⟨by repeat (first | (with_reducible first | exact HB.out | apply below_alloc | apply pw_below_drewN | apply below_drew1 | refine below_set ?_ GE705.out) | exact HB.out)⟩⟩
  ·rw [if_neg c7] at H
   have c7b0 : decide (0 ≤ a0_0) = false := decide_eq_false c7
   clear c7
   (first | rw [c7b0] | (simp only [i64_w, i32_w]; rw [c7b0]) | skip)
   have H' := Aside0.mk H
   clear H
   have hcz13_0 : w5.cell? ⟨gb705, 0, none⟩ = some (.int .i64 a0_0) := (blk_cell BK705.out 0).trans rfl
   have hcz13_1 : w5.cell? ⟨gb705, 1, none⟩ = some (.int .i64 a0_1) := (blk_cell BK705.out 1).trans rfl
   have hcz13_2 : w5.cell? ⟨gb705, 2, none⟩ = some (.slice A0_2 l0_2.length c0_2) := (blk_cell BK705.out 2).trans rfl
   have hcz13_3 : w5.cell? ⟨gb705, 3, none⟩ = some (.slice A0_3 l0_3.length c0_3) := (blk_cell BK705.out 3).trans rfl
   have hcz13_4 : w5.cell? ⟨gb705, 4, none⟩ = some (.slice A0_4 l0_4.length c0_4) := (blk_cell BK705.out 4).trans rfl
   have hfz13_0 := blk_frozen BK705.out 0
   have hfz13_1 := blk_frozen BK705.out 1
   have hfz13_2 := blk_frozen BK705.out 2
   have hfz13_3 := blk_frozen BK705.out 3
   have hfz13_4 := blk_frozen BK705.out 4
   go_wp2
   go_meet
   case rel => exact ⟨_, (false), (by first | rfl | (simp; done) | (simp [*]; done)), H', ⟨by first | omega | exact Nat.le_refl _⟩, ⟨by (with_reducible repeat (first | refine blk_drewN ?_ _ | refine blk_drew ?_ | refine blk_alloc ?_ _)); exact BK705.out⟩, ⟨by repeat (first | (with_reducible first | exact HB.out | apply below_alloc | apply pw_below_drewN | apply below_drew1 | refine below_set ?_ GE705.out) | exact HB.out)⟩⟩
 case rest =>
  clear HC4
  try clear c2
  try clear p2
  try clear c5
  try clear c7
  try clear c7b0
  try clear c8
  try clear c8b0
  try clear c9
  try clear hcz10_0
  try clear hcz10_1
  try clear hcz10_2
  try clear hcz10_3
  try clear hcz10_4
  try clear hcz11_0
  try clear hcz11_1
  try clear hcz11_2
  try clear hcz11_3
  try clear hcz11_4
  try clear hcz12_0
  try clear hcz12_1
  try clear hcz12_2
  try clear hcz12_3
  try clear hcz12_4
  try clear hcz13_0
  try clear hcz13_1
  try clear hcz13_2
  try clear hcz13_3
  try clear hcz13_4
  try clear hcz6_0
  try clear hcz6_1
  try clear hcz6_2
  try clear hcz6_3
  try clear hcz6_4
  try clear hfz10_0
  try clear hfz10_1
  try clear hfz10_2
  try clear hfz10_3
  try clear hfz10_4
  try clear hfz11_0
  try clear hfz11_1
  try clear hfz11_2
  try clear hfz11_3
  try clear hfz11_4
  try clear hfz12_0
  try clear hfz12_1
  try clear hfz12_2
  try clear hfz12_3
  try clear hfz12_4
  try clear hfz13_0
  try clear hfz13_1
  try clear hfz13_2
  try clear hfz13_3
  try clear hfz13_4
  try clear hfz6_0
  try clear hfz6_1
  try clear hfz6_2
  try clear hfz6_3
  try clear hfz6_4
  obtain ⟨kq, x5_3, rfl, HA, HJ3, BK705, HB⟩ := hcut
  cases kq with
  | zero => exact absurd HA.out (by simp [becketref12_PutAnswer.j0])
  | succ kj3 =>
   have H := HA.out
   clear HA
   simp only [becketref12_PutAnswer.j0] at H
   have H' := Aside0.mk H
   clear H
   go_wp2
   go_loopg [5, 6] kj3 (fun kq v5 v6 w' => ∃ (x5_2 : Bool) (x6_2 : Int), v5 = .bool x5_2 ∧ v6 = .int .i64 x6_2 ∧ Aside0 (becketref12_PutAnswer.l0 kq x5_2 x6_2 a0_0 a0_1 l0_2 l0_3 l0_4 = some r) ∧ Aside0 (kq ≤ kj3) ∧ Aside0 (w'.heap[gb705]? = some (.cells #[.int .i64 a0_0, .int .i64 a0_1, (.slice A0_2 l0_2.length c0_2), (.slice A0_3 l0_3.length c0_3), (.slice A0_4 l0_4.length c0_4)] 48 (0, 0))) ∧ Aside0 (Below w.heap.size w w'))
   case atStart => exact ⟨(x5_3), (0), (by first | rfl | (simp; done) | (simp [*]; done)), (by first | rfl | (simp; done) | (simp [*]; done)), H', ⟨Nat.le_refl _⟩, ⟨BK705.out⟩, ⟨HB.out⟩⟩
   case round =>
    clear H'
    try clear c2
    try clear p2
    try clear c5
    try clear c7
    try clear c7b0
    try clear c8
    try clear c8b0
    try clear c9
    try clear hcz10_0
    try clear hcz10_1
    try clear hcz10_2
    try clear hcz10_3
    try clear hcz10_4
    try clear hcz11_0
    try clear hcz11_1
    try clear hcz11_2
    try clear hcz11_3
    try clear hcz11_4
    try clear hcz12_0
    try clear hcz12_1
    try clear hcz12_2
    try clear hcz12_3
    try clear hcz12_4
    try clear hcz13_0
    try clear hcz13_1
    try clear hcz13_2
    try clear hcz13_3
    try clear hcz13_4
    try clear hcz6_0
    try clear hcz6_1
    try clear hcz6_2
    try clear hcz6_3
    try clear hcz6_4
    try clear hfz10_0
    try clear hfz10_1
    try clear hfz10_2
    try clear hfz10_3
    try clear hfz10_4
    try clear hfz11_0
    try clear hfz11_1
    try clear hfz11_2
    try clear hfz11_3
    try clear hfz11_4
    try clear hfz12_0
    try clear hfz12_1
    try clear hfz12_2
    try clear hfz12_3
    try clear hfz12_4
    try clear hfz13_0
    try clear hfz13_1
    try clear hfz13_2
    try clear hfz13_3
    try clear hfz13_4
    try clear hfz6_0
    try clear hfz6_1
    try clear hfz6_2
    try clear hfz6_3
    try clear hfz6_4
    try clear p2
    obtain ⟨x5_2, x6_2, rfl, rfl, HA, HK2, BK705, HB⟩ := hrel
    cases gk with
    | zero => exact absurd HA.out (by simp [becketref12_PutAnswer.l0])
    | succ k2 =>
     have H := HA.out
     clear HA
     simp only [becketref12_PutAnswer.l0] at H
     by_cases c14 : x6_2 < (l0_4.length : Int)
     ·rw [if_pos c14] at H
      have c14b0 : decide (x6_2 < (l0_4.length : Int)) = true := decide_eq_true c14
      clear c14
      by_cases c15 : 0 ≤ x6_2
      ·rw [if_pos c15] at H
       have c15b0 : decide (0 ≤ x6_2) = true := decide_eq_true c15
       clear c15
       replace H := Option.bind_eq_some_iff.mp H
       obtain ⟨t710, A160, H⟩ := H
       replace H : (if x5_2 = true then (if t710 = true then (if ((rd_T58 l0_4 x6_2).f1) ≥ 0 then (becketref12_PutAnswer.l0 k2 (decide ((((rd_T58 l0_4 x6_2).f0).size : Int) ≤ 4096)) (wrap64 (x6_2 + 1)) a0_0 a0_1 l0_2 l0_3 l0_4) else (becketref12_PutAnswer.l0 k2 false (wrap64 (x6_2 + 1)) a0_0 a0_1 l0_2 l0_3 l0_4)) else (becketref12_PutAnswer.l0 k2 false (wrap64 (x6_2 + 1)) a0_0 a0_1 l0_2 l0_3 l0_4)) else (becketref12_PutAnswer.l0 k2 false (wrap64 (x6_2 + 1)) a0_0 a0_1 l0_2 l0_3 l0_4)) = some r := H
       have A16 := Aside0.mk A160
       clear A160
       by_cases c17 : x5_2 = true
       ·subst c17
        have H1 : (if t710 = true then (if ((rd_T58 l0_4 x6_2).f1) ≥ 0 then (becketref12_PutAnswer.l0 k2 (decide ((((rd_T58 l0_4 x6_2).f0).size : Int) ≤ 4096)) (wrap64 (x6_2 + 1)) a0_0 a0_1 l0_2 l0_3 l0_4) else (becketref12_PutAnswer.l0 k2 false (wrap64 (x6_2 + 1)) a0_0 a0_1 l0_2 l0_3 l0_4)) else (becketref12_PutAnswer.l0 k2 false (wrap64 (x6_2 + 1)) a0_0 a0_1 l0_2 l0_3 l0_4)) = some r := by first | (rw [if_pos rfl] at H; with_reducible exact H) | exact (if_pos rfl).symm.trans H | (simp only [if_true, eq_self_iff_true] at H ⊢; exact H)
        clear H
        have H := H1
        clear H1
        by_cases c18 : t710 = true
        ·subst c18
         have H1 : (if ((rd_T58 l0_4 x6_2).f1) ≥ 0 then (becketref12_PutAnswer.l0 k2 (decide ((((rd_T58 l0_4 x6_2).f0).size : Int) ≤ 4096)) (wrap64 (x6_2 + 1)) a0_0 a0_1 l0_2 l0_3 l0_4) else (becketref12_PutAnswer.l0 k2 false (wrap64 (x6_2 + 1)) a0_0 a0_1 l0_2 l0_3 l0_4)) = some r := by first | (rw [if_pos rfl] at H; with_reducible exact H) | exact (if_pos rfl).symm.trans H | (simp only [if_true, eq_self_iff_true] at H ⊢; exact H)
         clear H
         have H := H1
         clear H1
         by_cases c19 : ((rd_T58 l0_4 x6_2).f1) ≥ 0
         ·rw [if_pos c19] at H
          have c19b0 : decide (0 ≤ ((rd_T58 l0_4 x6_2).f1)) = true := decide_eq_true c19
          clear c19
          have H' := Aside0.mk H
          clear H
          have hcz20_0 : wr.cell? ⟨gb705, 0, none⟩ = some (.int .i64 a0_0) := (blk_cell BK705.out 0).trans rfl
          have hcz20_1 : wr.cell? ⟨gb705, 1, none⟩ = some (.int .i64 a0_1) := (blk_cell BK705.out 1).trans rfl
          have hcz20_2 : wr.cell? ⟨gb705, 2, none⟩ = some (.slice A0_2 l0_2.length c0_2) := (blk_cell BK705.out 2).trans rfl
          have hcz20_3 : wr.cell? ⟨gb705, 3, none⟩ = some (.slice A0_3 l0_3.length c0_3) := (blk_cell BK705.out 3).trans rfl
          have hcz20_4 : wr.cell? ⟨gb705, 4, none⟩ = some (.slice A0_4 l0_4.length c0_4) := (blk_cell BK705.out 4).trans rfl
          have hfz20_0 := blk_frozen BK705.out 0
          have hfz20_1 := blk_frozen BK705.out 1
          have hfz20_2 := blk_frozen BK705.out 2
          have hfz20_3 := blk_frozen BK705.out 3
          have hfz20_4 := blk_frozen BK705.out 4
          have p708 : 0 ≤ (x6_2 : Int) := of_decide_eq_true (by first | (with_reducible assumption) | assumption)
          have q708 : x6_2 < (l0_4.length : Int) := of_decide_eq_true (by first | (with_reducible assumption) | assumption)
          obtain ⟨ad708, A708_2, c708_2, e708, hx708_0, hx708_1, hx708_2, hl708_2, hi708_2⟩ := at_T58 HR0_4.out x6_2 p708 q708
          cases e708
          replace hx708_0 := (HB.out.cell (World.block_lt_of_cell? w _ hx708_0)).trans hx708_0
          replace hx708_1 := (HB.out.cell (World.block_lt_of_cell? w _ hx708_1)).trans hx708_1
          replace hx708_2 := (HB.out.cell (World.block_lt_of_cell? w _ hx708_2)).trans hx708_2
          have HR708_2 := Aside0.mk hi708_2
          have HC708_2 := Aside0.mk hl708_2
          clear hi708_2 hl708_2
          replace p708 := eq_true p708
          replace q708 := eq_true q708
          go_wp2_with (first | ((with_reducible refine gate_dst (N := 7) rfl ?_); (try (refine gate_guard (by rfl) ?_; dsimp only)); refine box_event ?hg (N := 7) ?hd (cs := #[.string (⟨#[]⟩ : ByteArray), .int .i64 0, .slice none 0 0]) (t := 58) ?hr ?_; (case hd => rfl); (case hg => rfl); (case hr => first | (go_simp; done) | (go_simp; rfl)); intro gb709 hg w21 hbox hb; have n0_ := Aside0.mk (blk_below (g := gb705) (o := .cells #[.int .i64 a0_0, .int .i64 a0_1, .slice A0_2 l0_2.length c0_2, .slice A0_3 l0_3.length c0_3, .slice (some ad708) l0_4.length c0_4] 48 (0, 0)) (by (with_reducible repeat (first | refine blk_drewN ?_ _ | refine blk_drew ?_ | refine blk_alloc ?_ _)); exact BK705.out) hb); have n1_ := Aside0.mk (below_step (by repeat (first | (with_reducible first | exact HB.out | apply below_alloc | apply pw_below_drewN | apply below_drew1 | refine below_set ?_ GE705.out) | exact HB.out)) hb); have n2_ := Aside0.mk (hbox); have n3_ := Aside0.mk ((by rw [hg]; exact (below_size (by repeat (first | (with_reducible first | exact HB.out | apply below_alloc | apply pw_below_drewN | apply below_drew1 | refine below_set ?_ GE705.out) | exact HB.out))) : w.heap.size ≤ gb709)); have n4_ := Aside0.mk ((by rw [hg]; exact (below_size (by repeat (first | (with_reducible first | exact HB.out | apply below_alloc | apply pw_below_drewN | apply below_drew1 | refine below_set ?_ GE705.out) | exact HB.out))) : w.heap.size ≤ gb709)); have n5_ := Aside0.mk ((by rw [hg]; exact Nat.ne_of_lt (blk_lt (g := gb705) (o := .cells #[.int .i64 a0_0, .int .i64 a0_1, .slice A0_2 l0_2.length c0_2, .slice A0_3 l0_3.length c0_3, .slice (some ad708) l0_4.length c0_4] 48 (0, 0)) (by (with_reducible repeat (first | refine blk_drewN ?_ _ | refine blk_drew ?_ | refine blk_alloc ?_ _)); exact BK705.out)) : gb705 ≠ gb709)); have n6_ := Aside0.mk ((by rw [hg]; exact Nat.ne_of_gt (blk_lt (g := gb705) (o := .cells #[.int .i64 a0_0, .int .i64 a0_1, .slice A0_2 l0_2.length c0_2, .slice A0_3 l0_3.length c0_3, .slice (some ad708) l0_4.length c0_4] 48 (0, 0)) (by (with_reducible repeat (first | refine blk_drewN ?_ _ | refine blk_drew ?_ | refine blk_alloc ?_ _)); exact BK705.out)) : gb709 ≠ gb705)); clear BK705; clear HB; have BK705 := n0_; have HB := n1_; have BK709 := n2_; have GW709 := n3_; have GE709 := n4_; have NB705_709 := n5_; have NB709_705 := n6_; clear n0_ n1_ n2_ n3_ n4_ n5_ n6_; clear hb hbox hg; have hnb22 := NB709_705.out; have hnc22 := NB705_709.out; have hcz23_0 : w21.cell? ⟨gb709, 0, none⟩ = some (.string (⟨#[]⟩ : ByteArray)) := (blk_cell BK709.out 0).trans rfl; have hcz23_1 : w21.cell? ⟨gb709, 1, none⟩ = some (.int .i64 0) := (blk_cell BK709.out 1).trans rfl; have hcz23_2 : w21.cell? ⟨gb709, 2, none⟩ = some (.slice none 0 0) := (blk_cell BK709.out 2).trans rfl; have hfz23_0 := blk_frozen BK709.out 0; have hfz23_1 := blk_frozen BK709.out 1; have hfz23_2 := blk_frozen BK709.out 2) | ((with_reducible refine gate_callee (f := 50) rfl ?_); refine goesL_ (some 45) rfl rfl Try.func50 (by kernel_rfl) rfl #[.slice A708_2 ((rd_T58 l0_4 x6_2).f2).length c708_2] rfl (by (try simp only [List.map_toArray, List.map_cons, List.map_nil]); first | done | rfl | (simp only [List.length_drop, List.length_take]; rfl)) ?_; (with_reducible refine (becketref12_few.calls k2 _ _ ((rd_T58 l0_4 x6_2).f2) true _ ?side1 ?side2 A16.out).mono ?_); (case side1 => exact Kd.C_below HR708_2.out (by repeat (first | (with_reducible first | exact HB.out | apply below_alloc | apply pw_below_drewN | apply below_drew1 | refine below_set ?_ GE705.out | refine below_set ?_ GE709.out) | exact HB.out))); (case side2 => exact HC708_2.out); rintro e w' ⟨rfl, ⟨nd, rfl⟩⟩; refine ⟨_, rfl, ?_⟩))
          go_roundg k2
          case measure => have := HJ3.out; have := HK2.out; omega
          case rel => exact ⟨(decide ((((rd_T58 l0_4 x6_2).f0).size : Int) ≤ 4096)), (wrap64 (x6_2 + 1)), (by first | rfl | (simp; done) | (simp [*]; done)), (by first | rfl | (simp; done) | (simp [*]; done)), H', ⟨by have := HJ3.out; have := HK2.out; omega⟩, ⟨by (with_reducible repeat (first | refine blk_drewN ?_ _ | refine blk_drew ?_ | refine blk_alloc ?_ _)); refine blk_far ?_ NB705_709.out _; (with_reducible repeat (first | refine blk_drewN ?_ _ | refine blk_drew ?_ | refine blk_alloc ?_ _)); refine blk_far ?_ NB705_709.out _; (with_reducible repeat (first | refine blk_drewN ?_ _ | refine blk_drew ?_ | refine blk_alloc ?_ _)); refine blk_far ?_ NB705_709.out _; (with_reducible repeat (first | refine blk_drewN ?_ _ | refine blk_drew ?_ | refine blk_alloc ?_ _)); exact BK705.out⟩, ⟨by repeat (first | (with_reducible first | exact HB.out | apply below_alloc | apply pw_below_drewN | apply below_drew1 | refine below_set ?_ GE705.out | refine below_set ?_ GE709.out) | exact HB.out)⟩⟩
         ·rw [if_neg c19] at H
          have c19b0 : decide (0 ≤ ((rd_T58 l0_4 x6_2).f1)) = false := decide_eq_false c19
          clear c19
          have H' := Aside0.mk H
          clear H
          have hcz24_0 : wr.cell? ⟨gb705, 0, none⟩ = some (.int .i64 a0_0) := (blk_cell BK705.out 0).trans rfl
          have hcz24_1 : wr.cell? ⟨gb705, 1, none⟩ = some (.int .i64 a0_1) := (blk_cell BK705.out 1).trans rfl
          have hcz24_2 : wr.cell? ⟨gb705, 2, none⟩ = some (.slice A0_2 l0_2.length c0_2) := (blk_cell BK705.out 2).trans rfl
          have hcz24_3 : wr.cell? ⟨gb705, 3, none⟩ = some (.slice A0_3 l0_3.length c0_3) := (blk_cell BK705.out 3).trans rfl
          have hcz24_4 : wr.cell? ⟨gb705, 4, none⟩ = some (.slice A0_4 l0_4.length c0_4) := (blk_cell BK705.out 4).trans rfl
          have hfz24_0 := blk_frozen BK705.out 0
          have hfz24_1 := blk_frozen BK705.out 1
          have hfz24_2 := blk_frozen BK705.out 2
          have hfz24_3 := blk_frozen BK705.out 3
          have hfz24_4 := blk_frozen BK705.out 4
          have p708 : 0 ≤ (x6_2 : Int) := of_decide_eq_true (by first | (with_reducible assumption) | assumption)
          have q708 : x6_2 < (l0_4.length : Int) := of_decide_eq_true (by first | (with_reducible assumption) | assumption)
          obtain ⟨ad708, A708_2, c708_2, e708, hx708_0, hx708_1, hx708_2, hl708_2, hi708_2⟩ := at_T58 HR0_4.out x6_2 p708 q708
          cases e708
          replace hx708_0 := (HB.out.cell (World.block_lt_of_cell? w _ hx708_0)).trans hx708_0
          replace hx708_1 := (HB.out.cell (World.block_lt_of_cell? w _ hx708_1)).trans hx708_1
          replace hx708_2 := (HB.out.cell (World.block_lt_of_cell? w _ hx708_2)).trans hx708_2
          have HR708_2 := Aside0.mk hi708_2
          have HC708_2 := Aside0.mk hl708_2
          clear hi708_2 hl708_2
          replace p708 := eq_true p708
          replace q708 := eq_true q708
          go_wp2_with (first | ((with_reducible refine gate_dst (N := 7) rfl ?_); (try (refine gate_guard (by rfl) ?_; dsimp only)); refine box_event ?hg (N := 7) ?hd (cs := #[.string (⟨#[]⟩ : ByteArray), .int .i64 0, .slice none 0 0]) (t := 58) ?hr ?_; (case hd => rfl); (case hg => rfl); (case hr => first | (go_simp; done) | (go_simp; rfl)); intro gb709 hg w25 hbox hb; have n0_ := Aside0.mk (blk_below (g := gb705) (o := .cells #[.int .i64 a0_0, .int .i64 a0_1, .slice A0_2 l0_2.length c0_2, .slice A0_3 l0_3.length c0_3, .slice (some ad708) l0_4.length c0_4] 48 (0, 0)) (by (with_reducible repeat (first | refine blk_drewN ?_ _ | refine blk_drew ?_ | refine blk_alloc ?_ _)); exact BK705.out) hb); have n1_ := Aside0.mk (below_step (by repeat (first | (with_reducible first | exact HB.out | apply below_alloc | apply pw_below_drewN | apply below_drew1 | refine below_set ?_ GE705.out) | exact HB.out)) hb); have n2_ := Aside0.mk (hbox); have n3_ := Aside0.mk ((by rw [hg]; exact (below_size (by repeat (first | (with_reducible first | exact HB.out | apply below_alloc | apply pw_below_drewN | apply below_drew1 | refine below_set ?_ GE705.out) | exact HB.out))) : w.heap.size ≤ gb709)); have n4_ := Aside0.mk ((by rw [hg]; exact (below_size (by repeat (first | (with_reducible first | exact HB.out | apply below_alloc | apply pw_below_drewN | apply below_drew1 | refine below_set ?_ GE705.out) | exact HB.out))) : w.heap.size ≤ gb709)); have n5_ := Aside0.mk ((by rw [hg]; exact Nat.ne_of_lt (blk_lt (g := gb705) (o := .cells #[.int .i64 a0_0, .int .i64 a0_1, .slice A0_2 l0_2.length c0_2, .slice A0_3 l0_3.length c0_3, .slice (some ad708) l0_4.length c0_4] 48 (0, 0)) (by (with_reducible repeat (first | refine blk_drewN ?_ _ | refine blk_drew ?_ | refine blk_alloc ?_ _)); exact BK705.out)) : gb705 ≠ gb709)); have n6_ := Aside0.mk ((by rw [hg]; exact Nat.ne_of_gt (blk_lt (g := gb705) (o := .cells #[.int .i64 a0_0, .int .i64 a0_1, .slice A0_2 l0_2.length c0_2, .slice A0_3 l0_3.length c0_3, .slice (some ad708) l0_4.length c0_4] 48 (0, 0)) (by (with_reducible repeat (first | refine blk_drewN ?_ _ | refine blk_drew ?_ | refine blk_alloc ?_ _)); exact BK705.out)) : gb709 ≠ gb705)); clear BK705; clear HB; have BK705 := n0_; have HB := n1_; have BK709 := n2_; have GW709 := n3_; have GE709 := n4_; have NB705_709 := n5_; have NB709_705 := n6_; clear n0_ n1_ n2_ n3_ n4_ n5_ n6_; clear hb hbox hg; have hnb26 := NB709_705.out; have hnc26 := NB705_709.out; have hcz27_0 : w25.cell? ⟨gb709, 0, none⟩ = some (.string (⟨#[]⟩ : ByteArray)) := (blk_cell BK709.out 0).trans rfl; have hcz27_1 : w25.cell? ⟨gb709, 1, none⟩ = some (.int .i64 0) := (blk_cell BK709.out 1).trans rfl; have hcz27_2 : w25.cell? ⟨gb709, 2, none⟩ = some (.slice none 0 0) := (blk_cell BK709.out 2).trans rfl; have hfz27_0 := blk_frozen BK709.out 0; have hfz27_1 := blk_frozen BK709.out 1; have hfz27_2 := blk_frozen BK709.out 2) | ((with_reducible refine gate_callee (f := 50) rfl ?_); refine goesL_ (some 45) rfl rfl Try.func50 (by kernel_rfl) rfl #[.slice A708_2 ((rd_T58 l0_4 x6_2).f2).length c708_2] rfl (by (try simp only [List.map_toArray, List.map_cons, List.map_nil]); first | done | rfl | (simp only [List.length_drop, List.length_take]; rfl)) ?_; (with_reducible refine (becketref12_few.calls k2 _ _ ((rd_T58 l0_4 x6_2).f2) true _ ?side1 ?side2 A16.out).mono ?_); (case side1 => exact Kd.C_below HR708_2.out (by repeat (first | (with_reducible first | exact HB.out | apply below_alloc | apply pw_below_drewN | apply below_drew1 | refine below_set ?_ GE705.out | refine below_set ?_ GE709.out) | exact HB.out))); (case side2 => exact HC708_2.out); rintro e w' ⟨rfl, ⟨nd, rfl⟩⟩; refine ⟨_, rfl, ?_⟩))
          go_roundg k2
          case measure => have := HJ3.out; have := HK2.out; omega
          case rel => exact ⟨(false), (wrap64 (x6_2 + 1)), (by first | rfl | (simp; done) | (simp [*]; done)), (by first | rfl | (simp; done) | (simp [*]; done)), H', ⟨by have := HJ3.out; have := HK2.out; omega⟩, ⟨by (with_reducible repeat (first | refine blk_drewN ?_ _ | refine blk_drew ?_ | refine blk_alloc ?_ _)); refine blk_far ?_ NB705_709.out _; (with_reducible repeat (first | refine blk_drewN ?_ _ | refine blk_drew ?_ | refine blk_alloc ?_ _)); refine blk_far ?_ NB705_709.out _; (with_reducible repeat (first | refine blk_drewN ?_ _ | refine blk_drew ?_ | refine blk_alloc ?_ _)); refine blk_far ?_ NB705_709.out _; (with_reducible repeat (first | refine blk_drewN ?_ _ | refine blk_drew ?_ | refine blk_alloc ?_ _)); exact BK705.out⟩, ⟨by repeat (first | (with_reducible first | exact HB.out | apply below_alloc | apply pw_below_drewN | apply below_drew1 | refine below_set ?_ GE705.out | refine below_set ?_ GE709.out) | exact HB.out)⟩⟩
        ·replace c18 := Bool.eq_false_iff.mpr c18
         subst c18
         have H1 : (becketref12_PutAnswer.l0 k2 false (wrap64 (x6_2 + 1)) a0_0 a0_1 l0_2 l0_3 l0_4) = some r := by rw [if_neg (show ¬ (false = true) by decide)] at H; exact H
         clear H
         have H := H1
         clear H1
         have H' := Aside0.mk H
         clear H
         have hcz28_0 : wr.cell? ⟨gb705, 0, none⟩ = some (.int .i64 a0_0) := (blk_cell BK705.out 0).trans rfl
         have hcz28_1 : wr.cell? ⟨gb705, 1, none⟩ = some (.int .i64 a0_1) := (blk_cell BK705.out 1).trans rfl
         have hcz28_2 : wr.cell? ⟨gb705, 2, none⟩ = some (.slice A0_2 l0_2.length c0_2) := (blk_cell BK705.out 2).trans rfl
         have hcz28_3 : wr.cell? ⟨gb705, 3, none⟩ = some (.slice A0_3 l0_3.length c0_3) := (blk_cell BK705.out 3).trans rfl
         have hcz28_4 : wr.cell? ⟨gb705, 4, none⟩ = some (.slice A0_4 l0_4.length c0_4) := (blk_cell BK705.out 4).trans rfl
         have hfz28_0 := blk_frozen BK705.out 0
         have hfz28_1 := blk_frozen BK705.out 1
         have hfz28_2 := blk_frozen BK705.out 2
         have hfz28_3 := blk_frozen BK705.out 3
         have hfz28_4 := blk_frozen BK705.out 4
         have p708 : 0 ≤ (x6_2 : Int) := of_decide_eq_true (by first | (with_reducible assumption) | assumption)
         have q708 : x6_2 < (l0_4.length : Int) := of_decide_eq_true (by first | (with_reducible assumption) | assumption)
         obtain ⟨ad708, A708_2, c708_2, e708, hx708_0, hx708_1, hx708_2, hl708_2, hi708_2⟩ := at_T58 HR0_4.out x6_2 p708 q708
         cases e708
         replace hx708_0 := (HB.out.cell (World.block_lt_of_cell? w _ hx708_0)).trans hx708_0
         replace hx708_1 := (HB.out.cell (World.block_lt_of_cell? w _ hx708_1)).trans hx708_1
         replace hx708_2 := (HB.out.cell (World.block_lt_of_cell? w _ hx708_2)).trans hx708_2
         have HR708_2 := Aside0.mk hi708_2
         have HC708_2 := Aside0.mk hl708_2
         clear hi708_2 hl708_2
         replace p708 := eq_true p708
         replace q708 := eq_true q708
         go_wp2_with (first | ((with_reducible refine gate_dst (N := 7) rfl ?_); (try (refine gate_guard (by rfl) ?_; dsimp only)); refine box_event ?hg (N := 7) ?hd (cs := #[.string (⟨#[]⟩ : ByteArray), .int .i64 0, .slice none 0 0]) (t := 58) ?hr ?_; (case hd => rfl); (case hg => rfl); (case hr => first | (go_simp; done) | (go_simp; rfl)); intro gb709 hg w29 hbox hb; have n0_ := Aside0.mk (blk_below (g := gb705) (o := .cells #[.int .i64 a0_0, .int .i64 a0_1, .slice A0_2 l0_2.length c0_2, .slice A0_3 l0_3.length c0_3, .slice (some ad708) l0_4.length c0_4] 48 (0, 0)) (by (with_reducible repeat (first | refine blk_drewN ?_ _ | refine blk_drew ?_ | refine blk_alloc ?_ _)); exact BK705.out) hb); have n1_ := Aside0.mk (below_step (by repeat (first | (with_reducible first | exact HB.out | apply below_alloc | apply pw_below_drewN | apply below_drew1 | refine below_set ?_ GE705.out) | exact HB.out)) hb); have n2_ := Aside0.mk (hbox); have n3_ := Aside0.mk ((by rw [hg]; exact (below_size (by repeat (first | (with_reducible first | exact HB.out | apply below_alloc | apply pw_below_drewN | apply below_drew1 | refine below_set ?_ GE705.out) | exact HB.out))) : w.heap.size ≤ gb709)); have n4_ := Aside0.mk ((by rw [hg]; exact (below_size (by repeat (first | (with_reducible first | exact HB.out | apply below_alloc | apply pw_below_drewN | apply below_drew1 | refine below_set ?_ GE705.out) | exact HB.out))) : w.heap.size ≤ gb709)); have n5_ := Aside0.mk ((by rw [hg]; exact Nat.ne_of_lt (blk_lt (g := gb705) (o := .cells #[.int .i64 a0_0, .int .i64 a0_1, .slice A0_2 l0_2.length c0_2, .slice A0_3 l0_3.length c0_3, .slice (some ad708) l0_4.length c0_4] 48 (0, 0)) (by (with_reducible repeat (first | refine blk_drewN ?_ _ | refine blk_drew ?_ | refine blk_alloc ?_ _)); exact BK705.out)) : gb705 ≠ gb709)); have n6_ := Aside0.mk ((by rw [hg]; exact Nat.ne_of_gt (blk_lt (g := gb705) (o := .cells #[.int .i64 a0_0, .int .i64 a0_1, .slice A0_2 l0_2.length c0_2, .slice A0_3 l0_3.length c0_3, .slice (some ad708) l0_4.length c0_4] 48 (0, 0)) (by (with_reducible repeat (first | refine blk_drewN ?_ _ | refine blk_drew ?_ | refine blk_alloc ?_ _)); exact BK705.out)) : gb709 ≠ gb705)); clear BK705; clear HB; have BK705 := n0_; have HB := n1_; have BK709 := n2_; have GW709 := n3_; have GE709 := n4_; have NB705_709 := n5_; have NB709_705 := n6_; clear n0_ n1_ n2_ n3_ n4_ n5_ n6_; clear hb hbox hg; have hnb30 := NB709_705.out; have hnc30 := NB705_709.out; have hcz31_0 : w29.cell? ⟨gb709, 0, none⟩ = some (.string (⟨#[]⟩ : ByteArray)) := (blk_cell BK709.out 0).trans rfl; have hcz31_1 : w29.cell? ⟨gb709, 1, none⟩ = some (.int .i64 0) := (blk_cell BK709.out 1).trans rfl; have hcz31_2 : w29.cell? ⟨gb709, 2, none⟩ = some (.slice none 0 0) := (blk_cell BK709.out 2).trans rfl; have hfz31_0 := blk_frozen BK709.out 0; have hfz31_1 := blk_frozen BK709.out 1; have hfz31_2 := blk_frozen BK709.out 2) | ((with_reducible refine gate_callee (f := 50) rfl ?_); refine goesL_ (some 45) rfl rfl Try.func50 (by kernel_rfl) rfl #[.slice A708_2 ((rd_T58 l0_4 x6_2).f2).length c708_2] rfl (by (try simp only [List.map_toArray, List.map_cons, List.map_nil]); first | done | rfl | (simp only [List.length_drop, List.length_take]; rfl)) ?_; (with_reducible refine (becketref12_few.calls k2 _ _ ((rd_T58 l0_4 x6_2).f2) false _ ?side1 ?side2 A16.out).mono ?_); (case side1 => exact Kd.C_below HR708_2.out (by repeat (first | (with_reducible first | exact HB.out | apply below_alloc | apply pw_below_drewN | apply below_drew1 | refine below_set ?_ GE705.out | refine below_set ?_ GE709.out) | exact HB.out))); (case side2 => exact HC708_2.out); rintro e w' ⟨rfl, ⟨nd, rfl⟩⟩; refine ⟨_, rfl, ?_⟩))
         go_roundg k2
         case measure => have := HJ3.out; have := HK2.out; omega
         case rel => exact ⟨(false), (wrap64 (x6_2 + 1)), (by first | rfl | (simp; done) | (simp [*]; done)), (by first | rfl | (simp; done) | (simp [*]; done)), H', ⟨by have := HJ3.out; have := HK2.out; omega⟩, ⟨by (with_reducible repeat (first | refine blk_drewN ?_ _ | refine blk_drew ?_ | refine blk_alloc ?_ _)); refine blk_far ?_ NB705_709.out _; (with_reducible repeat (first | refine blk_drewN ?_ _ | refine blk_drew ?_ | refine blk_alloc ?_ _)); refine blk_far ?_ NB705_709.out _; (with_reducible repeat (first | refine blk_drewN ?_ _ | refine blk_drew ?_ | refine blk_alloc ?_ _)); refine blk_far ?_ NB705_709.out _; (with_reducible repeat (first | refine blk_drewN ?_ _ | refine blk_drew ?_ | refine blk_alloc ?_ _)); exact BK705.out⟩, ⟨by repeat (first | (with_reducible first | exact HB.out | apply below_alloc | apply pw_below_drewN | apply below_drew1 | refine below_set ?_ GE705.out | refine below_set ?_ GE709.out) | exact HB.out)⟩⟩
       ·replace c17 := Bool.eq_false_iff.mpr c17
        subst c17
        have H1 : (becketref12_PutAnswer.l0 k2 false (wrap64 (x6_2 + 1)) a0_0 a0_1 l0_2 l0_3 l0_4) = some r := by rw [if_neg (show ¬ (false = true) by decide)] at H; exact H
        clear H
        have H := H1
        clear H1
        have H' := Aside0.mk H
        clear H
        have hcz32_0 : wr.cell? ⟨gb705, 0, none⟩ = some (.int .i64 a0_0) := (blk_cell BK705.out 0).trans rfl
        have hcz32_1 : wr.cell? ⟨gb705, 1, none⟩ = some (.int .i64 a0_1) := (blk_cell BK705.out 1).trans rfl
        have hcz32_2 : wr.cell? ⟨gb705, 2, none⟩ = some (.slice A0_2 l0_2.length c0_2) := (blk_cell BK705.out 2).trans rfl
        have hcz32_3 : wr.cell? ⟨gb705, 3, none⟩ = some (.slice A0_3 l0_3.length c0_3) := (blk_cell BK705.out 3).trans rfl
        have hcz32_4 : wr.cell? ⟨gb705, 4, none⟩ = some (.slice A0_4 l0_4.length c0_4) := (blk_cell BK705.out 4).trans rfl
        have hfz32_0 := blk_frozen BK705.out 0
        have hfz32_1 := blk_frozen BK705.out 1
        have hfz32_2 := blk_frozen BK705.out 2
        have hfz32_3 := blk_frozen BK705.out 3
        have hfz32_4 := blk_frozen BK705.out 4
        have p708 : 0 ≤ (x6_2 : Int) := of_decide_eq_true (by first | (with_reducible assumption) | assumption)
        have q708 : x6_2 < (l0_4.length : Int) := of_decide_eq_true (by first | (with_reducible assumption) | assumption)
        obtain ⟨ad708, A708_2, c708_2, e708, hx708_0, hx708_1, hx708_2, hl708_2, hi708_2⟩ := at_T58 HR0_4.out x6_2 p708 q708
        cases e708
        replace hx708_0 := (HB.out.cell (World.block_lt_of_cell? w _ hx708_0)).trans hx708_0
        replace hx708_1 := (HB.out.cell (World.block_lt_of_cell? w _ hx708_1)).trans hx708_1
        replace hx708_2 := (HB.out.cell (World.block_lt_of_cell? w _ hx708_2)).trans hx708_2
        have HR708_2 := Aside0.mk hi708_2
        have HC708_2 := Aside0.mk hl708_2
        clear hi708_2 hl708_2
        replace p708 := eq_true p708
        replace q708 := eq_true q708
        go_wp2_with (first | ((with_reducible refine gate_dst (N := 7) rfl ?_); (try (refine gate_guard (by rfl) ?_; dsimp only)); refine box_event ?hg (N := 7) ?hd (cs := #[.string (⟨#[]⟩ : ByteArray), .int .i64 0, .slice none 0 0]) (t := 58) ?hr ?_; (case hd => rfl); (case hg => rfl); (case hr => first | (go_simp; done) | (go_simp; rfl)); intro gb709 hg w33 hbox hb; have n0_ := Aside0.mk (blk_below (g := gb705) (o := .cells #[.int .i64 a0_0, .int .i64 a0_1, .slice A0_2 l0_2.length c0_2, .slice A0_3 l0_3.length c0_3, .slice (some ad708) l0_4.length c0_4] 48 (0, 0)) (by (with_reducible repeat (first | refine blk_drewN ?_ _ | refine blk_drew ?_ | refine blk_alloc ?_ _)); exact BK705.out) hb); have n1_ := Aside0.mk (below_step (by repeat (first | (with_reducible first | exact HB.out | apply below_alloc | apply pw_below_drewN | apply below_drew1 | refine below_set ?_ GE705.out) | exact HB.out)) hb); have n2_ := Aside0.mk (hbox); have n3_ := Aside0.mk ((by rw [hg]; exact (below_size (by repeat (first | (with_reducible first | exact HB.out | apply below_alloc | apply pw_below_drewN | apply below_drew1 | refine below_set ?_ GE705.out) | exact HB.out))) : w.heap.size ≤ gb709)); have n4_ := Aside0.mk ((by rw [hg]; exact (below_size (by repeat (first | (with_reducible first | exact HB.out | apply below_alloc | apply pw_below_drewN | apply below_drew1 | refine below_set ?_ GE705.out) | exact HB.out))) : w.heap.size ≤ gb709)); have n5_ := Aside0.mk ((by rw [hg]; exact Nat.ne_of_lt (blk_lt (g := gb705) (o := .cells #[.int .i64 a0_0, .int .i64 a0_1, .slice A0_2 l0_2.length c0_2, .slice A0_3 l0_3.length c0_3, .slice (some ad708) l0_4.length c0_4] 48 (0, 0)) (by (with_reducible repeat (first | refine blk_drewN ?_ _ | refine blk_drew ?_ | refine blk_alloc ?_ _)); exact BK705.out)) : gb705 ≠ gb709)); have n6_ := Aside0.mk ((by rw [hg]; exact Nat.ne_of_gt (blk_lt (g := gb705) (o := .cells #[.int .i64 a0_0, .int .i64 a0_1, .slice A0_2 l0_2.length c0_2, .slice A0_3 l0_3.length c0_3, .slice (some ad708) l0_4.length c0_4] 48 (0, 0)) (by (with_reducible repeat (first | refine blk_drewN ?_ _ | refine blk_drew ?_ | refine blk_alloc ?_ _)); exact BK705.out)) : gb709 ≠ gb705)); clear BK705; clear HB; have BK705 := n0_; have HB := n1_; have BK709 := n2_; have GW709 := n3_; have GE709 := n4_; have NB705_709 := n5_; have NB709_705 := n6_; clear n0_ n1_ n2_ n3_ n4_ n5_ n6_; clear hb hbox hg; have hnb34 := NB709_705.out; have hnc34 := NB705_709.out; have hcz35_0 : w33.cell? ⟨gb709, 0, none⟩ = some (.string (⟨#[]⟩ : ByteArray)) := (blk_cell BK709.out 0).trans rfl; have hcz35_1 : w33.cell? ⟨gb709, 1, none⟩ = some (.int .i64 0) := (blk_cell BK709.out 1).trans rfl; have hcz35_2 : w33.cell? ⟨gb709, 2, none⟩ = some (.slice none 0 0) := (blk_cell BK709.out 2).trans rfl; have hfz35_0 := blk_frozen BK709.out 0; have hfz35_1 := blk_frozen BK709.out 1; have hfz35_2 := blk_frozen BK709.out 2) | ((with_reducible refine gate_callee (f := 50) rfl ?_); refine goesL_ (some 45) rfl rfl Try.func50 (by kernel_rfl) rfl #[.slice A708_2 ((rd_T58 l0_4 x6_2).f2).length c708_2] rfl (by (try simp only [List.map_toArray, List.map_cons, List.map_nil]); first | done | rfl | (simp only [List.length_drop, List.length_take]; rfl)) ?_; (with_reducible refine (becketref12_few.calls k2 _ _ ((rd_T58 l0_4 x6_2).f2) t710 _ ?side1 ?side2 A16.out).mono ?_); (case side1 => exact Kd.C_below HR708_2.out (by repeat (first | (with_reducible first | exact HB.out | apply below_alloc | apply pw_below_drewN | apply below_drew1 | refine below_set ?_ GE705.out | refine below_set ?_ GE709.out) | exact HB.out))); (case side2 => exact HC708_2.out); rintro e w' ⟨rfl, ⟨nd, rfl⟩⟩; refine ⟨_, rfl, ?_⟩))
        go_roundg k2
        case measure => have := HJ3.out; have := HK2.out; omega
        case rel => exact ⟨(false), (wrap64 (x6_2 + 1)), (by first | rfl | (simp; done) | (simp [*]; done)), (by first | rfl | (simp; done) | (simp [*]; done)), H', ⟨by have := HJ3.out; have := HK2.out; omega⟩, ⟨by (with_reducible repeat (first | refine blk_drewN ?_ _ | refine blk_drew ?_ | refine blk_alloc ?_ _)); refine blk_far ?_ NB705_709.out _; (with_reducible repeat (first | refine blk_drewN ?_ _ | refine blk_drew ?_ | refine blk_alloc ?_ _)); refine blk_far ?_ NB705_709.out _; (with_reducible repeat (first | refine blk_drewN ?_ _ | refine blk_drew ?_ | refine blk_alloc ?_ _)); refine blk_far ?_ NB705_709.out _; (with_reducible repeat (first | refine blk_drewN ?_ _ | refine blk_drew ?_ | refine blk_alloc ?_ _)); exact BK705.out⟩, ⟨by repeat (first | (with_reducible first | exact HB.out | apply below_alloc | apply pw_below_drewN | apply below_drew1 | refine below_set ?_ GE705.out | refine below_set ?_ GE709.out) | exact HB.out)⟩⟩
      ·rw [if_neg c15] at H
       exact absurd H (by simp)
     ·rw [if_neg c14] at H
      have c14b0 : decide (x6_2 < (l0_4.length : Int)) = false := decide_eq_false c14
      clear c14
      by_cases c36 : x5_2 = true
      ·subst c36
       have H1 : ((becketref12_number.f k2 a0_0).bind fun t711 => ((becketref12_number.f k2 a0_1).bind fun t714 => (if t711.length + t714.length < 140737488355328 then ((some (t711 ++ t714 : List Int)).bind fun y717 => ((becketref12_texts.f k2 l0_2).bind fun t720 => (if y717.length + t720.length < 140737488355328 then ((some (y717 ++ t720 : List Int)).bind fun y723 => ((becketref12_texts.f k2 l0_3).bind fun t726 => (if y723.length + t726.length < 140737488355328 then ((some (y723 ++ t726 : List Int)).bind fun y729 => ((becketref12_number.f k2 (l0_4.length : Int)).bind fun t732 => (if y729.length + t732.length < 140737488355328 then (becketref12_PutAnswer.l1 k2 (y729 ++ t732) 0 a0_0 a0_1 l0_2 l0_3 l0_4) else (none)))) else (none)))) else (none)))) else (none)))) = some r := by first | (rw [if_pos rfl] at H; with_reducible exact H) | exact (if_pos rfl).symm.trans H | (simp only [if_true, eq_self_iff_true] at H ⊢; exact H)
       clear H
       have H := H1
       clear H1
       replace H := Option.bind_eq_some_iff.mp H
       obtain ⟨t711, A370, H⟩ := H
       replace H : ((becketref12_number.f k2 a0_1).bind fun t714 => (if t711.length + t714.length < 140737488355328 then ((some (t711 ++ t714 : List Int)).bind fun y717 => ((becketref12_texts.f k2 l0_2).bind fun t720 => (if y717.length + t720.length < 140737488355328 then ((some (y717 ++ t720 : List Int)).bind fun y723 => ((becketref12_texts.f k2 l0_3).bind fun t726 => (if y723.length + t726.length < 140737488355328 then ((some (y723 ++ t726 : List Int)).bind fun y729 => ((becketref12_number.f k2 (l0_4.length : Int)).bind fun t732 => (if y729.length + t732.length < 140737488355328 then (becketref12_PutAnswer.l1 k2 (y729 ++ t732) 0 a0_0 a0_1 l0_2 l0_3 l0_4) else (none)))) else (none)))) else (none)))) else (none))) = some r := H
       have A37 := Aside0.mk A370
       clear A370
       replace H := Option.bind_eq_some_iff.mp H
       obtain ⟨t714, A380, H⟩ := H
       replace H : (if t711.length + t714.length < 140737488355328 then ((some (t711 ++ t714 : List Int)).bind fun y717 => ((becketref12_texts.f k2 l0_2).bind fun t720 => (if y717.length + t720.length < 140737488355328 then ((some (y717 ++ t720 : List Int)).bind fun y723 => ((becketref12_texts.f k2 l0_3).bind fun t726 => (if y723.length + t726.length < 140737488355328 then ((some (y723 ++ t726 : List Int)).bind fun y729 => ((becketref12_number.f k2 (l0_4.length : Int)).bind fun t732 => (if y729.length + t732.length < 140737488355328 then (becketref12_PutAnswer.l1 k2 (y729 ++ t732) 0 a0_0 a0_1 l0_2 l0_3 l0_4) else (none)))) else (none)))) else (none)))) else (none)) = some r := H
       have A38 := Aside0.mk A380
       clear A380
       by_cases c39 : t711.length + t714.length < 140737488355328
       ·rw [if_pos c39] at H
        have LMc39 := Aside0.mk c39
        clear c39
        obtain ⟨y717, hy717⟩ : ∃ y_ : List Int, y_ = (t711 ++ t714) := ⟨_, rfl⟩
        replace H : ((becketref12_texts.f k2 l0_2).bind fun t720 => (if y717.length + t720.length < 140737488355328 then ((some (y717 ++ t720 : List Int)).bind fun y723 => ((becketref12_texts.f k2 l0_3).bind fun t726 => (if y723.length + t726.length < 140737488355328 then ((some (y723 ++ t726 : List Int)).bind fun y729 => ((becketref12_number.f k2 (l0_4.length : Int)).bind fun t732 => (if y729.length + t732.length < 140737488355328 then (becketref12_PutAnswer.l1 k2 (y729 ++ t732) 0 a0_0 a0_1 l0_2 l0_3 l0_4) else (none)))) else (none)))) else (none))) = some r := by first | (rw [hy717]; with_reducible exact H) | (have H2_ := (Option.bind_some _ _).symm.trans H; rw [hy717]; with_reducible exact H2_) | (have H2_ := (Option.bind_some _ _).symm.trans H; with_reducible exact H2_) | with_reducible exact H | (rw [hy717]; exact H) | exact H
        have Ny717 := Aside0.mk hy717
        clear hy717
        replace H := Option.bind_eq_some_iff.mp H
        obtain ⟨t720, A400, H⟩ := H
        replace H : (if y717.length + t720.length < 140737488355328 then ((some (y717 ++ t720 : List Int)).bind fun y723 => ((becketref12_texts.f k2 l0_3).bind fun t726 => (if y723.length + t726.length < 140737488355328 then ((some (y723 ++ t726 : List Int)).bind fun y729 => ((becketref12_number.f k2 (l0_4.length : Int)).bind fun t732 => (if y729.length + t732.length < 140737488355328 then (becketref12_PutAnswer.l1 k2 (y729 ++ t732) 0 a0_0 a0_1 l0_2 l0_3 l0_4) else (none)))) else (none)))) else (none)) = some r := H
        have A40 := Aside0.mk A400
        clear A400
        by_cases c41 : y717.length + t720.length < 140737488355328
        ·rw [if_pos c41] at H
         have LMc41 := Aside0.mk c41
         clear c41
         obtain ⟨y723, hy723⟩ : ∃ y_ : List Int, y_ = (y717 ++ t720) := ⟨_, rfl⟩
         replace H : ((becketref12_texts.f k2 l0_3).bind fun t726 => (if y723.length + t726.length < 140737488355328 then ((some (y723 ++ t726 : List Int)).bind fun y729 => ((becketref12_number.f k2 (l0_4.length : Int)).bind fun t732 => (if y729.length + t732.length < 140737488355328 then (becketref12_PutAnswer.l1 k2 (y729 ++ t732) 0 a0_0 a0_1 l0_2 l0_3 l0_4) else (none)))) else (none))) = some r := by first | (rw [hy723]; with_reducible exact H) | (have H2_ := (Option.bind_some _ _).symm.trans H; rw [hy723]; with_reducible exact H2_) | (have H2_ := (Option.bind_some _ _).symm.trans H; with_reducible exact H2_) | with_reducible exact H | (rw [hy723]; exact H) | exact H
         have Ny723 := Aside0.mk hy723
         clear hy723
         replace H := Option.bind_eq_some_iff.mp H
         obtain ⟨t726, A420, H⟩ := H
         replace H : (if y723.length + t726.length < 140737488355328 then ((some (y723 ++ t726 : List Int)).bind fun y729 => ((becketref12_number.f k2 (l0_4.length : Int)).bind fun t732 => (if y729.length + t732.length < 140737488355328 then (becketref12_PutAnswer.l1 k2 (y729 ++ t732) 0 a0_0 a0_1 l0_2 l0_3 l0_4) else (none)))) else (none)) = some r := H
         have A42 := Aside0.mk A420
         clear A420
         by_cases c43 : y723.length + t726.length < 140737488355328
         ·rw [if_pos c43] at H
          have LMc43 := Aside0.mk c43
          clear c43
          obtain ⟨y729, hy729⟩ : ∃ y_ : List Int, y_ = (y723 ++ t726) := ⟨_, rfl⟩
          replace H : ((becketref12_number.f k2 (l0_4.length : Int)).bind fun t732 => (if y729.length + t732.length < 140737488355328 then (becketref12_PutAnswer.l1 k2 (y729 ++ t732) 0 a0_0 a0_1 l0_2 l0_3 l0_4) else (none))) = some r := by first | (rw [hy729]; with_reducible exact H) | (have H2_ := (Option.bind_some _ _).symm.trans H; rw [hy729]; with_reducible exact H2_) | (have H2_ := (Option.bind_some _ _).symm.trans H; with_reducible exact H2_) | with_reducible exact H | (rw [hy729]; exact H) | exact H
          have Ny729 := Aside0.mk hy729
          clear hy729
          replace H := Option.bind_eq_some_iff.mp H
          obtain ⟨t732, A440, H⟩ := H
          replace H : (if y729.length + t732.length < 140737488355328 then (becketref12_PutAnswer.l1 k2 (y729 ++ t732) 0 a0_0 a0_1 l0_2 l0_3 l0_4) else (none)) = some r := H
          have A44 := Aside0.mk A440
          clear A440
          by_cases c45 : y729.length + t732.length < 140737488355328
          ·rw [if_pos c45] at H
           have LMc45 := Aside0.mk c45
           clear c45
           obtain ⟨y735, hy735⟩ : ∃ y_ : List Int, y_ = (y729 ++ t732) := ⟨_, rfl⟩
           replace H : (becketref12_PutAnswer.l1 k2 y735 0 a0_0 a0_1 l0_2 l0_3 l0_4) = some r := by first | (rw [hy735]; with_reducible exact H) | (have H2_ := (Option.bind_some _ _).symm.trans H; rw [hy735]; with_reducible exact H2_) | (have H2_ := (Option.bind_some _ _).symm.trans H; with_reducible exact H2_) | with_reducible exact H | (rw [hy735]; exact H) | exact H
           have Ny735 := Aside0.mk hy735
           clear hy735
           have H' := Aside0.mk H
           clear H
           have hcz46_0 : wr.cell? ⟨gb705, 0, none⟩ = some (.int .i64 a0_0) := (blk_cell BK705.out 0).trans rfl
           have hcz46_1 : wr.cell? ⟨gb705, 1, none⟩ = some (.int .i64 a0_1) := (blk_cell BK705.out 1).trans rfl
           have hcz46_2 : wr.cell? ⟨gb705, 2, none⟩ = some (.slice A0_2 l0_2.length c0_2) := (blk_cell BK705.out 2).trans rfl
           have hcz46_3 : wr.cell? ⟨gb705, 3, none⟩ = some (.slice A0_3 l0_3.length c0_3) := (blk_cell BK705.out 3).trans rfl
           have hcz46_4 : wr.cell? ⟨gb705, 4, none⟩ = some (.slice A0_4 l0_4.length c0_4) := (blk_cell BK705.out 4).trans rfl
           have hfz46_0 := blk_frozen BK705.out 0
           have hfz46_1 := blk_frozen BK705.out 1
           have hfz46_2 := blk_frozen BK705.out 2
           have hfz46_3 := blk_frozen BK705.out 3
           have hfz46_4 := blk_frozen BK705.out 4
           try go_wp2
           have n0_ := Aside0.mk (blk_drew BK705.out)
           have n1_ := Aside0.mk (below_drew1 HB.out)
           clear BK705
           clear HB
           have BK705 := n0_
           have HB := n1_
           clear n0_ n1_
           refine start_ (n := 8) (S := fun w' => w'.cell? ⟨gb705, 0, none⟩ = some (.int .i64 a0_0) ∧ w'.cell? ⟨gb705, 1, none⟩ = some (.int .i64 a0_1) ∧ w'.cell? ⟨gb705, 2, none⟩ = some (.slice A0_2 l0_2.length c0_2) ∧ w'.cell? ⟨gb705, 3, none⟩ = some (.slice A0_3 l0_3.length c0_3) ∧ w'.cell? ⟨gb705, 4, none⟩ = some (.slice A0_4 l0_4.length c0_4)) (ds := []) #[false, false, false, false, false, false, false, false] (by kernel_rfl) rfl rfl ⟨(blk_cell BK705.out 0).trans rfl, (blk_cell BK705.out 1).trans rfl, (blk_cell BK705.out 2).trans rfl, (blk_cell BK705.out 3).trans rfl, (blk_cell BK705.out 4).trans rfl⟩ (fun hHeld => ?_); refine with_tabW becketref12_PutAnswer.tab12 becketref12_PutAnswer.bits12 (fun HT_ HW_ => ?_)
           generalize wr.drew = w47 at BK705 HB hHeld ⊢
           refine pure_ (i := 0) (N := some 63) (v := ?_) (a' := ?_) #[true, false, false, false, false, false, false, false] rfl rfl (any_of HT_.out (by kernel_rfl)) (fun _ _ _ h => h) (Or.inl ⟨by rfl, ?_⟩) ?_ ?_
           rotate_left
           ·intro w'
            go_simp
            with_reducible rfl
           rotate_left
           ·simp only [Act.put, List.setIfInBounds_toArray, List.set_cons_zero, List.set_cons_succ, i64_w, i32_w]
            rfl
           refine pure_ (i := 3) (N := some 66) (v := ?_) (a' := ?_) #[true, false, false, true, false, false, false, false] rfl rfl (any_of HT_.out (by kernel_rfl)) (fun _ _ _ h => h) (Or.inl ⟨by rfl, ?_⟩) ?_ ?_
           rotate_left
           ·intro w'
            go_simp
            with_reducible rfl
           rotate_left
           ·simp only [Act.put, List.setIfInBounds_toArray, List.set_cons_zero, List.set_cons_succ, i64_w, i32_w]
            rfl
           refine take_ (i := 1) (N := some 64) (v := ?_) (a' := ?_) #[true, true, false, true, false, false, false, false] rfl rfl (take_ofW HT_.out HW_.out (by kernel_rfl)) (fun _ _ _ h => h) (Or.inl ⟨by rfl, ?_⟩) hHeld ?_ ?_
           rotate_left
           ·rintro w' ⟨s0, s1, s2, s3, s4⟩
            go_simp
            with_reducible rfl
           rotate_left
           ·simp only [Act.put, List.setIfInBounds_toArray, List.set_cons_zero, List.set_cons_succ, i64_w, i32_w]
            rfl
           refine take_ (i := 4) (N := some 67) (v := ?_) (a' := ?_) #[true, true, false, true, true, false, false, false] rfl rfl (take_ofW HT_.out HW_.out (by kernel_rfl)) (fun _ _ _ h => h) (Or.inl ⟨by rfl, ?_⟩) hHeld ?_ ?_
           rotate_left
           ·rintro w' ⟨s0, s1, s2, s3, s4⟩
            go_simp
            with_reducible rfl
           rotate_left
           ·simp only [Act.put, List.setIfInBounds_toArray, List.set_cons_zero, List.set_cons_succ, i64_w, i32_w]
            rfl
           refine one_ (i := 2) (N := some 65) #[true, true, true, true, true, false, false, false] rfl rfl (one_of HT_.out (by kernel_rfl)) (by decide) (fun K hK => ?_)
           refine goes_ Try.func36 (by kernel_rfl) rfl #[.int .i64 a0_0] (by rfl) rfl rfl (by (try simp only [List.map_toArray, List.map_cons, List.map_nil]); first | done | rfl | (simp only [List.length_drop, List.length_take]; rfl)) ?_
           with_reducible refine (becketref12_number.calls k2 a0_0 t711 _ A37.out).mono ?_
           rintro e w48 ⟨v712, rfl, ho0, hb⟩
           refine ⟨_, rfl, ?_⟩
           have n0_ := Aside0.mk (Kd.R_lower ho0 (below_size (HB.out)))
           have n1_ := Aside0.mk (blk_below (g := gb705) (o := .cells #[.int .i64 a0_0, .int .i64 a0_1, .slice A0_2 l0_2.length c0_2, .slice A0_3 l0_3.length c0_3, .slice A0_4 l0_4.length c0_4] 48 (0, 0)) (BK705.out) hb)
           have n2_ := Aside0.mk (below_step (HB.out) hb)
           clear BK705
           clear HB
           have HO713 := n0_
           have BK705 := n1_
           have HB := n2_
           clear n0_ n1_ n2_
           (try clear hb)
           (try clear hb2)
           (try clear hk)
           (try clear hi)
           (try clear ho0)
           refine hK.out _ _ ⟨(blk_cell BK705.out 0).trans rfl, (blk_cell BK705.out 1).trans rfl, (blk_cell BK705.out 2).trans rfl, (blk_cell BK705.out 3).trans rfl, (blk_cell BK705.out 4).trans rfl⟩ (fun hHeld => ?_)
           clear hK K
           refine norm_ (a' := ?_) ?_ ?_
           rotate_left
           ·show Act.put _ (some 65) _ = _
            simp only [Act.put, List.setIfInBounds_toArray, List.set_cons_zero, List.set_cons_succ, i64_w, i32_w]
            rfl
           refine one_ (i := 5) (N := some 68) #[true, true, true, true, true, true, false, false] rfl rfl (one_of HT_.out (by kernel_rfl)) (by decide) (fun K hK => ?_)
           refine goes_ Try.func36 (by kernel_rfl) rfl #[.int .i64 a0_1] (by rfl) rfl rfl (by (try simp only [List.map_toArray, List.map_cons, List.map_nil]); first | done | rfl | (simp only [List.length_drop, List.length_take]; rfl)) ?_
           with_reducible refine (becketref12_number.calls k2 a0_1 t714 _ A38.out).mono ?_
           rintro e w49 ⟨v715, rfl, ho0, hb⟩
           refine ⟨_, rfl, ?_⟩
           have n0_ := Aside0.mk (Kd.R_elder' (HO713.out) (Kd.R_base ho0) hb)
           have n1_ := Aside0.mk (Kd.R_lower (Kd.R_new' ho0 (Kd.R_lt (HO713.out))) (below_size (HB.out)))
           have n2_ := Aside0.mk (blk_below (g := gb705) (o := .cells #[.int .i64 a0_0, .int .i64 a0_1, .slice A0_2 l0_2.length c0_2, .slice A0_3 l0_3.length c0_3, .slice A0_4 l0_4.length c0_4] 48 (0, 0)) (BK705.out) hb)
           have n3_ := Aside0.mk (below_step (HB.out) hb)
           clear HO713
           clear BK705
           clear HB
           have HO713 := n0_
           have HO716 := n1_
           have BK705 := n2_
           have HB := n3_
           clear n0_ n1_ n2_ n3_
           (try clear hb)
           (try clear hb2)
           (try clear hk)
           (try clear hi)
           (try clear ho0)
           obtain ⟨Ao51, co51, eo51⟩ := Kd.R_slice HO716.out
           (first | subst eo51 | (injection eo51 with f1_ f2_ f3_; have f4_ := f1_.symm; have f5_ := f3_.symm; clear f1_ f2_ f3_; subst f4_; subst f5_))
           refine hK.out _ _ ⟨(blk_cell BK705.out 0).trans rfl, (blk_cell BK705.out 1).trans rfl, (blk_cell BK705.out 2).trans rfl, (blk_cell BK705.out 3).trans rfl, (blk_cell BK705.out 4).trans rfl⟩ (fun hHeld => ?_)
           clear hK K
           refine norm_ (a' := ?_) ?_ ?_
           rotate_left
           ·show Act.put _ (some 68) _ = _
            simp only [Act.put, List.setIfInBounds_toArray, List.set_cons_zero, List.set_cons_succ, i64_w, i32_w]
            rfl
           refine one_ (i := 6) (N := some 69) #[true, true, true, true, true, true, true, false] rfl rfl (one_of HT_.out (by kernel_rfl)) (by decide) (fun K hK => ?_)
           refine Kd.R_append_rows_step (Kd.int .u8) (w0 := w) w.heap.size (by rfl) (.tmp 65) (.tmp 68) 31 5 (.int .u8 0) 1 rfl Try.underlying31 info5 rfl (by decide) (by omega) v712 t711 t714 _ _ _ (fun k_ => some k_ ≠ (.slice Ao51 t714.length co51 : Value).ownBlock) (fun _ => False) rfl rfl ?aO ?aR (fun _ _ h => h) (fun _ h => h.elim) ?aF ?aB ?aS ?aL ?_
           (case aR => repeat (first | exact (Kd.R_reads' HO716.out).2.2 | (with_reducible refine Kd.C_alloc ?_ _) | (with_reducible refine Kd.C_drewN ?_ _) | (with_reducible refine Kd.C_drew ?_)))
           (case aB => exact (HB.out))
           (case aF => exact (fun k_ hk => Kd.fresh' (Kd.R_lt (HO716.out)) k_ hk))
           (case aO => exact (Kd.R_mono HO713.out (fun _ hk => hk.2)))
           (case aS => exact (below_size (HB.out)))
           (case aL => have := LMc39.out; omega)
           intro v718 w50 ho hb hg hat
           rw [← Ny717.out] at ho
           have n0_ := Aside0.mk (blk_grown (g := gb705) (o := .cells #[.int .i64 a0_0, .int .i64 a0_1, .slice A0_2 l0_2.length c0_2, .slice A0_3 l0_3.length c0_3, .slice A0_4 l0_4.length c0_4] 48 (0, 0)) (BK705.out) hg (Kd.R_ne HO713.out BK705.out (by decide)))
           have n1_ := Aside0.mk (Kd.R_after (ok := (fun _ => True)) (HO716.out) hg hat)
           have n2_ := Aside0.mk (hb)
           have n3_ := Aside0.mk (ho)
           clear BK705
           clear HO716
           clear HB
           clear HO713
           have BK705 := n0_
           have HO716 := n1_
           have HB := n2_
           have HO719 := n3_
           clear n0_ n1_ n2_ n3_
           clear ho hb hg hat
           refine hK.out _ _ ⟨(blk_cell BK705.out 0).trans rfl, (blk_cell BK705.out 1).trans rfl, (blk_cell BK705.out 2).trans rfl, (blk_cell BK705.out 3).trans rfl, (blk_cell BK705.out 4).trans rfl⟩ (fun hHeld => ?_)
           clear hK K
           refine norm_ (a' := ?_) ?_ ?_
           rotate_left
           ·show Act.put _ (some 69) _ = _
            simp only [Act.put, List.setIfInBounds_toArray, List.set_cons_zero, List.set_cons_succ, i64_w, i32_w]
            rfl
           refine pure_ (i := 7) (N := some 9) (v := ?_) (a' := ?_) #[true, true, true, true, true, true, true, true] rfl rfl (any_of HT_.out (by kernel_rfl)) (fun _ _ _ h => h) (Or.inl ⟨by rfl, ?_⟩) ?_ ?_
           rotate_left
           ·intro w'
            go_simp
            with_reducible rfl
           rotate_left
           ·simp only [Act.put, List.setIfInBounds_toArray, List.set_cons_zero, List.set_cons_succ, i64_w, i32_w]
            rfl
           refine done_ (done_of HT_.out (by kernel_rfl)) ?_
           have hcz52_0 : w50.cell? ⟨gb705, 0, none⟩ = some (.int .i64 a0_0) := (blk_cell BK705.out 0).trans rfl
           have hcz52_1 : w50.cell? ⟨gb705, 1, none⟩ = some (.int .i64 a0_1) := (blk_cell BK705.out 1).trans rfl
           have hcz52_2 : w50.cell? ⟨gb705, 2, none⟩ = some (.slice A0_2 l0_2.length c0_2) := (blk_cell BK705.out 2).trans rfl
           have hcz52_3 : w50.cell? ⟨gb705, 3, none⟩ = some (.slice A0_3 l0_3.length c0_3) := (blk_cell BK705.out 3).trans rfl
           have hcz52_4 : w50.cell? ⟨gb705, 4, none⟩ = some (.slice A0_4 l0_4.length c0_4) := (blk_cell BK705.out 4).trans rfl
           have hfz52_0 := blk_frozen BK705.out 0
           have hfz52_1 := blk_frozen BK705.out 1
           have hfz52_2 := blk_frozen BK705.out 2
           have hfz52_3 := blk_frozen BK705.out 3
           have hfz52_4 := blk_frozen BK705.out 4
           try go_wp2_with (first | ((with_reducible refine gate_callee (f := 51) rfl ?_); refine goesL_ (some 73) rfl rfl Try.func51 (by kernel_rfl) rfl #[.slice A0_2 l0_2.length c0_2] rfl (by (try simp only [List.map_toArray, List.map_cons, List.map_nil]); first | done | rfl | (simp only [List.length_drop, List.length_take]; rfl)) ?_; (with_reducible refine (becketref12_texts.calls k2 _ _ l0_2 t720 _ ?side1 ?side2 A40.out).mono ?_); (case side1 => repeat (first | exact (Kd.C_below HR0_2.out HB.out) | (with_reducible refine Kd.C_alloc ?_ _) | (with_reducible refine Kd.C_drewN ?_ _) | (with_reducible refine Kd.C_drew ?_))); (case side2 => exact HC0_2.out); rintro e w53 ⟨v721, rfl, ho0, hb⟩; refine ⟨_, rfl, ?_⟩; have n0_ := Aside0.mk (Kd.R_elder' (HO716.out) (Kd.R_base ho0) hb); have n1_ := Aside0.mk (Kd.R_elder' (HO719.out) (Kd.R_base ho0) hb); have n2_ := Aside0.mk (Kd.R_lower (Kd.R_new' (Kd.R_new' ho0 (Kd.R_lt (HO716.out))) (Kd.R_lt (HO719.out))) (below_size (HB.out))); have n3_ := Aside0.mk (blk_below (g := gb705) (o := .cells #[.int .i64 a0_0, .int .i64 a0_1, .slice A0_2 l0_2.length c0_2, .slice A0_3 l0_3.length c0_3, .slice A0_4 l0_4.length c0_4] 48 (0, 0)) (BK705.out) hb); have n4_ := Aside0.mk (below_step (HB.out) hb); clear HO716; clear HO719; clear BK705; clear HB; have HO716 := n0_; have HO719 := n1_; have HO722 := n2_; have BK705 := n3_; have HB := n4_; clear n0_ n1_ n2_ n3_ n4_; (try clear hb); (try clear hb2); (try clear hk); (try clear hi); (try clear ho0); obtain ⟨Ao55, co55, eo55⟩ := Kd.R_slice HO722.out; subst eo55) | ((with_reducible refine gate_builtin (b := .append) (xs := #[.tmp 70, .tmp 73]) rfl ?_); (try (refine gate_guard (by rfl) ?_; dsimp only)); at_builtin; refine Kd.R_append_rows (Kd.int .u8) (w0 := w) w.heap.size rfl (.tmp 70) (.tmp 73) 31 5 (.int .u8 0) 1 rfl Try.underlying31 info5 rfl (by decide) (by omega) v718 y717 t720 _ _ _ (fun k_ => some k_ ≠ (.slice Ao51 t714.length co51 : Value).ownBlock ∧ some k_ ≠ (.slice Ao55 t720.length co55 : Value).ownBlock) (fun _ => False) rfl rfl ?aO ?aR (fun _ _ h => h) (fun _ h => h.elim) ?aF ?aB ?aS ?aL ?_; (case aR => repeat (first | exact (Kd.R_reads' HO722.out).2.2 | (with_reducible refine Kd.C_alloc ?_ _) | (with_reducible refine Kd.C_drewN ?_ _) | (with_reducible refine Kd.C_drew ?_))); (case aB => exact (HB.out)); (case aF => exact (fun k_ hk => ⟨Kd.fresh' (Kd.R_lt (HO716.out)) k_ hk, Kd.fresh' (Kd.R_lt (HO722.out)) k_ hk⟩)); (case aO => exact (HO719.out)); (case aS => exact (below_size (HB.out))); (case aL => have := LMc41.out; omega); intro v724 w54 ho hb hg hat; rw [← Ny723.out] at ho; have n0_ := Aside0.mk (blk_grown (g := gb705) (o := .cells #[.int .i64 a0_0, .int .i64 a0_1, .slice A0_2 l0_2.length c0_2, .slice A0_3 l0_3.length c0_3, .slice A0_4 l0_4.length c0_4] 48 (0, 0)) (BK705.out) hg (Kd.R_ne HO719.out BK705.out (by decide))); have n1_ := Aside0.mk (Kd.R_after (ok := (fun k_ => some k_ ≠ (.slice Ao55 t720.length co55 : Value).ownBlock)) (Kd.R_mono HO716.out (fun _ hk => ⟨hk.2, hk.1.2⟩)) hg hat); have n2_ := Aside0.mk (Kd.R_after (ok := (fun k_ => some k_ ≠ (.slice Ao51 t714.length co51 : Value).ownBlock)) (Kd.R_mono HO722.out (fun _ hk => ⟨hk.1.2, hk.2⟩)) hg hat); have n3_ := Aside0.mk (hb); have n4_ := Aside0.mk (ho); clear BK705; clear HO716; clear HO722; clear HB; clear HO719; have BK705 := n0_; have HO716 := n1_; have HO722 := n2_; have HB := n3_; have HO725 := n4_; clear n0_ n1_ n2_ n3_ n4_; clear ho hb hg hat; have hcz56_0 : w54.cell? ⟨gb705, 0, none⟩ = some (.int .i64 a0_0) := (blk_cell BK705.out 0).trans rfl; have hcz56_1 : w54.cell? ⟨gb705, 1, none⟩ = some (.int .i64 a0_1) := (blk_cell BK705.out 1).trans rfl; have hcz56_2 : w54.cell? ⟨gb705, 2, none⟩ = some (.slice A0_2 l0_2.length c0_2) := (blk_cell BK705.out 2).trans rfl; have hcz56_3 : w54.cell? ⟨gb705, 3, none⟩ = some (.slice A0_3 l0_3.length c0_3) := (blk_cell BK705.out 3).trans rfl; have hcz56_4 : w54.cell? ⟨gb705, 4, none⟩ = some (.slice A0_4 l0_4.length c0_4) := (blk_cell BK705.out 4).trans rfl; have hfz56_0 := blk_frozen BK705.out 0; have hfz56_1 := blk_frozen BK705.out 1; have hfz56_2 := blk_frozen BK705.out 2; have hfz56_3 := blk_frozen BK705.out 3; have hfz56_4 := blk_frozen BK705.out 4) | ((with_reducible refine gate_callee (f := 51) rfl ?_); refine goesL_ (some 78) rfl rfl Try.func51 (by kernel_rfl) rfl #[.slice A0_3 l0_3.length c0_3] rfl (by (try simp only [List.map_toArray, List.map_cons, List.map_nil]); first | done | rfl | (simp only [List.length_drop, List.length_take]; rfl)) ?_; (with_reducible refine (becketref12_texts.calls k2 _ _ l0_3 t726 _ ?side1 ?side2 A42.out).mono ?_); (case side1 => repeat (first | exact (Kd.C_below HR0_3.out HB.out) | (with_reducible refine Kd.C_alloc ?_ _) | (with_reducible refine Kd.C_drewN ?_ _) | (with_reducible refine Kd.C_drew ?_))); (case side2 => exact HC0_3.out); rintro e w57 ⟨v727, rfl, ho0, hb⟩; refine ⟨_, rfl, ?_⟩; have n0_ := Aside0.mk (Kd.R_elder' (HO716.out) (Kd.R_base ho0) hb); have n1_ := Aside0.mk (Kd.R_elder' (HO722.out) (Kd.R_base ho0) hb); have n2_ := Aside0.mk (Kd.R_elder' (HO725.out) (Kd.R_base ho0) hb); have n3_ := Aside0.mk (Kd.R_lower (Kd.R_new' (Kd.R_new' (Kd.R_new' ho0 (Kd.R_lt (HO716.out))) (Kd.R_lt (HO722.out))) (Kd.R_lt (HO725.out))) (below_size (HB.out))); have n4_ := Aside0.mk (blk_below (g := gb705) (o := .cells #[.int .i64 a0_0, .int .i64 a0_1, .slice A0_2 l0_2.length c0_2, .slice A0_3 l0_3.length c0_3, .slice A0_4 l0_4.length c0_4] 48 (0, 0)) (BK705.out) hb); have n5_ := Aside0.mk (below_step (HB.out) hb); clear HO716; clear HO722; clear HO725; clear BK705; clear HB; have HO716 := n0_; have HO722 := n1_; have HO725 := n2_; have HO728 := n3_; have BK705 := n4_; have HB := n5_; clear n0_ n1_ n2_ n3_ n4_ n5_; (try clear hb); (try clear hb2); (try clear hk); (try clear hi); (try clear ho0); obtain ⟨Ao59, co59, eo59⟩ := Kd.R_slice HO728.out; subst eo59) | ((with_reducible refine gate_builtin (b := .append) (xs := #[.tmp 75, .tmp 78]) rfl ?_); (try (refine gate_guard (by rfl) ?_; dsimp only)); at_builtin; refine Kd.R_append_rows (Kd.int .u8) (w0 := w) w.heap.size rfl (.tmp 75) (.tmp 78) 31 5 (.int .u8 0) 1 rfl Try.underlying31 info5 rfl (by decide) (by omega) v724 y723 t726 _ _ _ (fun k_ => some k_ ≠ (.slice Ao51 t714.length co51 : Value).ownBlock ∧ some k_ ≠ (.slice Ao55 t720.length co55 : Value).ownBlock ∧ some k_ ≠ (.slice Ao59 t726.length co59 : Value).ownBlock) (fun _ => False) rfl rfl ?aO ?aR (fun _ _ h => h) (fun _ h => h.elim) ?aF ?aB ?aS ?aL ?_; (case aR => repeat (first | exact (Kd.R_reads' HO728.out).2.2 | (with_reducible refine Kd.C_alloc ?_ _) | (with_reducible refine Kd.C_drewN ?_ _) | (with_reducible refine Kd.C_drew ?_))); (case aB => exact (HB.out)); (case aF => exact (fun k_ hk => ⟨Kd.fresh' (Kd.R_lt (HO716.out)) k_ hk, Kd.fresh' (Kd.R_lt (HO722.out)) k_ hk, Kd.fresh' (Kd.R_lt (HO728.out)) k_ hk⟩)); (case aO => exact (Kd.R_mono HO725.out (fun _ hk => ⟨hk.1.1, ⟨hk.1.2, hk.2⟩⟩))); (case aS => exact (below_size (HB.out))); (case aL => have := LMc43.out; omega); intro v730 w58 ho hb hg hat; rw [← Ny729.out] at ho; have n0_ := Aside0.mk (blk_grown (g := gb705) (o := .cells #[.int .i64 a0_0, .int .i64 a0_1, .slice A0_2 l0_2.length c0_2, .slice A0_3 l0_3.length c0_3, .slice A0_4 l0_4.length c0_4] 48 (0, 0)) (BK705.out) hg (Kd.R_ne HO725.out BK705.out (by decide))); have n1_ := Aside0.mk (Kd.R_after (ok := (fun k_ => some k_ ≠ (.slice Ao55 t720.length co55 : Value).ownBlock ∧ some k_ ≠ (.slice Ao59 t726.length co59 : Value).ownBlock)) (Kd.R_mono HO716.out (fun _ hk => ⟨⟨hk.1.1, hk.2⟩, hk.1.2⟩)) hg hat); have n2_ := Aside0.mk (Kd.R_after (ok := (fun k_ => some k_ ≠ (.slice Ao51 t714.length co51 : Value).ownBlock ∧ some k_ ≠ (.slice Ao59 t726.length co59 : Value).ownBlock)) (Kd.R_mono HO722.out (fun _ hk => ⟨⟨hk.1.1, hk.2⟩, hk.1.2⟩)) hg hat); have n3_ := Aside0.mk (Kd.R_after (ok := (fun k_ => some k_ ≠ (.slice Ao51 t714.length co51 : Value).ownBlock ∧ some k_ ≠ (.slice Ao55 t720.length co55 : Value).ownBlock)) (Kd.R_mono HO728.out (fun _ hk => ⟨⟨hk.1.1.2, hk.1.2⟩, hk.2⟩)) hg hat); have n4_ := Aside0.mk (hb); have n5_ := Aside0.mk (ho); clear BK705; clear HO716; clear HO722; clear HO728; clear HB; clear HO725; have BK705 := n0_; have HO716 := n1_; have HO722 := n2_; have HO728 := n3_; have HB := n4_; have HO731 := n5_; clear n0_ n1_ n2_ n3_ n4_ n5_; clear ho hb hg hat; have hcz60_0 : w58.cell? ⟨gb705, 0, none⟩ = some (.int .i64 a0_0) := (blk_cell BK705.out 0).trans rfl; have hcz60_1 : w58.cell? ⟨gb705, 1, none⟩ = some (.int .i64 a0_1) := (blk_cell BK705.out 1).trans rfl; have hcz60_2 : w58.cell? ⟨gb705, 2, none⟩ = some (.slice A0_2 l0_2.length c0_2) := (blk_cell BK705.out 2).trans rfl; have hcz60_3 : w58.cell? ⟨gb705, 3, none⟩ = some (.slice A0_3 l0_3.length c0_3) := (blk_cell BK705.out 3).trans rfl; have hcz60_4 : w58.cell? ⟨gb705, 4, none⟩ = some (.slice A0_4 l0_4.length c0_4) := (blk_cell BK705.out 4).trans rfl; have hfz60_0 := blk_frozen BK705.out 0; have hfz60_1 := blk_frozen BK705.out 1; have hfz60_2 := blk_frozen BK705.out 2; have hfz60_3 := blk_frozen BK705.out 3; have hfz60_4 := blk_frozen BK705.out 4) | ((with_reducible refine gate_callee (f := 36) rfl ?_); refine goesL_ (some 84) rfl rfl Try.func36 (by kernel_rfl) rfl #[.int .i64 (l0_4.length : Int)] rfl (by (try simp only [List.map_toArray, List.map_cons, List.map_nil]); first | done | rfl | (simp only [List.length_drop, List.length_take]; rfl)) ?_; (with_reducible refine (becketref12_number.calls k2 (l0_4.length : Int) t732 _ A44.out).mono ?_); rintro e w61 ⟨v733, rfl, ho0, hb⟩; refine ⟨_, rfl, ?_⟩; have n0_ := Aside0.mk (Kd.R_elder' (HO716.out) (Kd.R_base ho0) hb); have n1_ := Aside0.mk (Kd.R_elder' (HO722.out) (Kd.R_base ho0) hb); have n2_ := Aside0.mk (Kd.R_elder' (HO728.out) (Kd.R_base ho0) hb); have n3_ := Aside0.mk (Kd.R_elder' (HO731.out) (Kd.R_base ho0) hb); have n4_ := Aside0.mk (Kd.R_lower (Kd.R_new' (Kd.R_new' (Kd.R_new' (Kd.R_new' ho0 (Kd.R_lt (HO716.out))) (Kd.R_lt (HO722.out))) (Kd.R_lt (HO728.out))) (Kd.R_lt (HO731.out))) (below_size (HB.out))); have n5_ := Aside0.mk (blk_below (g := gb705) (o := .cells #[.int .i64 a0_0, .int .i64 a0_1, .slice A0_2 l0_2.length c0_2, .slice A0_3 l0_3.length c0_3, .slice A0_4 l0_4.length c0_4] 48 (0, 0)) (BK705.out) hb); have n6_ := Aside0.mk (below_step (HB.out) hb); clear HO716; clear HO722; clear HO728; clear HO731; clear BK705; clear HB; have HO716 := n0_; have HO722 := n1_; have HO728 := n2_; have HO731 := n3_; have HO734 := n4_; have BK705 := n5_; have HB := n6_; clear n0_ n1_ n2_ n3_ n4_ n5_ n6_; (try clear hb); (try clear hb2); (try clear hk); (try clear hi); (try clear ho0); obtain ⟨Ao63, co63, eo63⟩ := Kd.R_slice HO734.out; subst eo63) | ((with_reducible refine gate_builtin (b := .append) (xs := #[.tmp 80, .tmp 84]) rfl ?_); (try (refine gate_guard (by rfl) ?_; dsimp only)); at_builtin; refine Kd.R_append_rows (Kd.int .u8) (w0 := w) w.heap.size rfl (.tmp 80) (.tmp 84) 31 5 (.int .u8 0) 1 rfl Try.underlying31 info5 rfl (by decide) (by omega) v730 y729 t732 _ _ _ (fun k_ => some k_ ≠ (.slice Ao51 t714.length co51 : Value).ownBlock ∧ some k_ ≠ (.slice Ao55 t720.length co55 : Value).ownBlock ∧ some k_ ≠ (.slice Ao59 t726.length co59 : Value).ownBlock ∧ some k_ ≠ (.slice Ao63 t732.length co63 : Value).ownBlock) (fun _ => False) rfl rfl ?aO ?aR (fun _ _ h => h) (fun _ h => h.elim) ?aF ?aB ?aS ?aL ?_; (case aR => repeat (first | exact (Kd.R_reads' HO734.out).2.2 | (with_reducible refine Kd.C_alloc ?_ _) | (with_reducible refine Kd.C_drewN ?_ _) | (with_reducible refine Kd.C_drew ?_))); (case aB => exact (HB.out)); (case aF => exact (fun k_ hk => ⟨Kd.fresh' (Kd.R_lt (HO716.out)) k_ hk, Kd.fresh' (Kd.R_lt (HO722.out)) k_ hk, Kd.fresh' (Kd.R_lt (HO728.out)) k_ hk, Kd.fresh' (Kd.R_lt (HO734.out)) k_ hk⟩)); (case aO => exact (Kd.R_mono HO731.out (fun _ hk => ⟨hk.1.1, ⟨hk.1.2.1, ⟨hk.1.2.2, hk.2⟩⟩⟩))); (case aS => exact (below_size (HB.out))); (case aL => have := LMc45.out; omega); intro v736 w62 ho hb hg hat; rw [← Ny735.out] at ho; have n0_ := Aside0.mk (blk_grown (g := gb705) (o := .cells #[.int .i64 a0_0, .int .i64 a0_1, .slice A0_2 l0_2.length c0_2, .slice A0_3 l0_3.length c0_3, .slice A0_4 l0_4.length c0_4] 48 (0, 0)) (BK705.out) hg (Kd.R_ne HO731.out BK705.out (by decide))); have n1_ := Aside0.mk (Kd.R_after (ok := (fun k_ => some k_ ≠ (.slice Ao55 t720.length co55 : Value).ownBlock ∧ some k_ ≠ (.slice Ao59 t726.length co59 : Value).ownBlock ∧ some k_ ≠ (.slice Ao63 t732.length co63 : Value).ownBlock)) (Kd.R_mono HO716.out (fun _ hk => ⟨⟨hk.1.1.1, ⟨hk.1.1.2, hk.2⟩⟩, hk.1.2⟩)) hg hat); have n2_ := Aside0.mk (Kd.R_after (ok := (fun k_ => some k_ ≠ (.slice Ao51 t714.length co51 : Value).ownBlock ∧ some k_ ≠ (.slice Ao59 t726.length co59 : Value).ownBlock ∧ some k_ ≠ (.slice Ao63 t732.length co63 : Value).ownBlock)) (Kd.R_mono HO722.out (fun _ hk => ⟨⟨hk.1.1.1, ⟨hk.1.1.2, hk.2⟩⟩, hk.1.2⟩)) hg hat); have n3_ := Aside0.mk (Kd.R_after (ok := (fun k_ => some k_ ≠ (.slice Ao51 t714.length co51 : Value).ownBlock ∧ some k_ ≠ (.slice Ao55 t720.length co55 : Value).ownBlock ∧ some k_ ≠ (.slice Ao63 t732.length co63 : Value).ownBlock)) (Kd.R_mono HO728.out (fun _ hk => ⟨⟨hk.1.1.1, ⟨hk.1.1.2, hk.2⟩⟩, hk.1.2⟩)) hg hat); have n4_ := Aside0.mk (Kd.R_after (ok := (fun k_ => some k_ ≠ (.slice Ao51 t714.length co51 : Value).ownBlock ∧ some k_ ≠ (.slice Ao55 t720.length co55 : Value).ownBlock ∧ some k_ ≠ (.slice Ao59 t726.length co59 : Value).ownBlock)) (Kd.R_mono HO734.out (fun _ hk => ⟨⟨hk.1.1.1.2, ⟨hk.1.1.2, hk.1.2⟩⟩, hk.2⟩)) hg hat); have n5_ := Aside0.mk (hb); have n6_ := Aside0.mk (ho); clear BK705; clear HO716; clear HO722; clear HO728; clear HO734; clear HB; clear HO731; have BK705 := n0_; have HO716 := n1_; have HO722 := n2_; have HO728 := n3_; have HO734 := n4_; have HB := n5_; have HO737 := n6_; clear n0_ n1_ n2_ n3_ n4_ n5_ n6_; clear ho hb hg hat))
           go_loopg [9, 10] k2 (fun kq v9 v10 w' => ∃ (x9_3 : List Int) (x10_3 : Int), v10 = .int .i64 x10_3 ∧ Aside0 (becketref12_PutAnswer.l1 kq x9_3 x10_3 a0_0 a0_1 l0_2 l0_3 l0_4 = some r) ∧ Aside0 (kq ≤ k2) ∧ Aside0 (Kd.R (Kd.int .u8) 5 w' w.heap.size (fun _ => True) v9 x9_3) ∧ Aside0 (w'.heap[gb705]? = some (.cells #[.int .i64 a0_0, .int .i64 a0_1, (.slice A0_2 l0_2.length c0_2), (.slice A0_3 l0_3.length c0_3), (.slice A0_4 l0_4.length c0_4)] 48 (0, 0))) ∧ Aside0 (Below w.heap.size w w'))
           case atStart => exact ⟨(y735), (0), (by first | rfl | (simp; done) | (simp [*]; done)), H', ⟨Nat.le_refl _⟩, ⟨Kd.R_mono HO737.out (fun _ hk => trivial)⟩, ⟨BK705.out⟩, ⟨HB.out⟩⟩
           case round =>
            clear H'
            try clear c1
            try clear c2
            try clear p2
            try clear c3
            try clear c4
            try clear c5
            try clear p6
            try clear c7
            try clear c7b0
            try clear p7
            try clear q7
            try clear hx7
            try clear c8
            try clear c8b0
            try clear c9
            try clear c14
            try clear c14b0
            try clear c15
            try clear c15b0
            try clear c17
            try clear c18
            try clear c19
            try clear c19b0
            try clear c22
            try clear c26
            try clear c30
            try clear c34
            try clear c36
            try clear c39
            try clear c41
            try clear c43
            try clear c45
            try clear c50
            try clear c51
            try clear hcz10_0
            try clear hcz10_1
            try clear hcz10_2
            try clear hcz10_3
            try clear hcz10_4
            try clear hcz11_0
            try clear hcz11_1
            try clear hcz11_2
            try clear hcz11_3
            try clear hcz11_4
            try clear hcz12_0
            try clear hcz12_1
            try clear hcz12_2
            try clear hcz12_3
            try clear hcz12_4
            try clear hcz13_0
            try clear hcz13_1
            try clear hcz13_2
            try clear hcz13_3
            try clear hcz13_4
            try clear hcz20_0
            try clear hcz20_1
            try clear hcz20_2
            try clear hcz20_3
            try clear hcz20_4
            try clear hcz23_0
            try clear hcz23_1
            try clear hcz23_2
            try clear hcz24_0
            try clear hcz24_1
            try clear hcz24_2
            try clear hcz24_3
            try clear hcz24_4
            try clear hcz27_0
            try clear hcz27_1
            try clear hcz27_2
            try clear hcz28_0
            try clear hcz28_1
            try clear hcz28_2
            try clear hcz28_3
            try clear hcz28_4
            try clear hcz31_0
            try clear hcz31_1
            try clear hcz31_2
            try clear hcz32_0
            try clear hcz32_1
            try clear hcz32_2
            try clear hcz32_3
            try clear hcz32_4
            try clear hcz35_0
            try clear hcz35_1
            try clear hcz35_2
            try clear hcz46_0
            try clear hcz46_1
            try clear hcz46_2
            try clear hcz46_3
            try clear hcz46_4
            try clear hcz52_0
            try clear hcz52_1
            try clear hcz52_2
            try clear hcz52_3
            try clear hcz52_4
            try clear hcz56_0
            try clear hcz56_1
            try clear hcz56_2
            try clear hcz56_3
            try clear hcz56_4
            try clear hcz60_0
            try clear hcz60_1
            try clear hcz60_2
            try clear hcz60_3
            try clear hcz60_4
            try clear hcz6_0
            try clear hcz6_1
            try clear hcz6_2
            try clear hcz6_3
            try clear hcz6_4
            try clear hfz10_0
            try clear hfz10_1
            try clear hfz10_2
            try clear hfz10_3
            try clear hfz10_4
            try clear hfz11_0
            try clear hfz11_1
            try clear hfz11_2
            try clear hfz11_3
            try clear hfz11_4
            try clear hfz12_0
            try clear hfz12_1
            try clear hfz12_2
            try clear hfz12_3
            try clear hfz12_4
            try clear hfz13_0
            try clear hfz13_1
            try clear hfz13_2
            try clear hfz13_3
            try clear hfz13_4
            try clear hfz20_0
            try clear hfz20_1
            try clear hfz20_2
            try clear hfz20_3
            try clear hfz20_4
            try clear hfz23_0
            try clear hfz23_1
            try clear hfz23_2
            try clear hfz24_0
            try clear hfz24_1
            try clear hfz24_2
            try clear hfz24_3
            try clear hfz24_4
            try clear hfz27_0
            try clear hfz27_1
            try clear hfz27_2
            try clear hfz28_0
            try clear hfz28_1
            try clear hfz28_2
            try clear hfz28_3
            try clear hfz28_4
            try clear hfz31_0
            try clear hfz31_1
            try clear hfz31_2
            try clear hfz32_0
            try clear hfz32_1
            try clear hfz32_2
            try clear hfz32_3
            try clear hfz32_4
            try clear hfz35_0
            try clear hfz35_1
            try clear hfz35_2
            try clear hfz46_0
            try clear hfz46_1
            try clear hfz46_2
            try clear hfz46_3
            try clear hfz46_4
            try clear hfz52_0
            try clear hfz52_1
            try clear hfz52_2
            try clear hfz52_3
            try clear hfz52_4
            try clear hfz56_0
            try clear hfz56_1
            try clear hfz56_2
            try clear hfz56_3
            try clear hfz56_4
            try clear hfz60_0
            try clear hfz60_1
            try clear hfz60_2
            try clear hfz60_3
            try clear hfz60_4
            try clear hfz6_0
            try clear hfz6_1
            try clear hfz6_2
            try clear hfz6_3
            try clear hfz6_4
            try clear hx708_0
            try clear hx708_1
            try clear hx708_2
            try clear p2
            try clear p708
            try clear q708
            obtain ⟨x9_3, x10_3, rfl, HA, HK3, HO_9, BK705, HB⟩ := hrel
            cases gk with
            | zero => exact absurd HA.out (by simp [becketref12_PutAnswer.l1])
            | succ k3 =>
             have H := HA.out
             clear HA
             simp only [becketref12_PutAnswer.l1] at H
             by_cases c64 : x10_3 < (l0_4.length : Int)
             ·rw [if_pos c64] at H
              have c64b0 : decide (x10_3 < (l0_4.length : Int)) = true := decide_eq_true c64
              clear c64
              by_cases c65 : 0 ≤ x10_3
              ·rw [if_pos c65] at H
               have c65b0 : decide (0 ≤ x10_3) = true := decide_eq_true c65
               clear c65
               replace H := Option.bind_eq_some_iff.mp H
               obtain ⟨t739, A660, H⟩ := H
               replace H : (if x9_3.length + t739.length < 140737488355328 then ((some (x9_3 ++ t739 : List Int)).bind fun y742 => ((becketref12_number.f k3 ((rd_T58 l0_4 x10_3).f1)).bind fun t746 => (if y742.length + t746.length < 140737488355328 then ((some (y742 ++ t746 : List Int)).bind fun y749 => ((becketref12_texts.f k3 ((rd_T58 l0_4 x10_3).f2)).bind fun t753 => (if y749.length + t753.length < 140737488355328 then (becketref12_PutAnswer.l1 k3 (y749 ++ t753) (wrap64 (x10_3 + 1)) a0_0 a0_1 l0_2 l0_3 l0_4) else (none)))) else (none)))) else (none)) = some r := H
               have A66 := Aside0.mk A660
               clear A660
               by_cases c67 : x9_3.length + t739.length < 140737488355328
               ·rw [if_pos c67] at H
                have LMc67 := Aside0.mk c67
                clear c67
                obtain ⟨y742, hy742⟩ : ∃ y_ : List Int, y_ = (x9_3 ++ t739) := ⟨_, rfl⟩
                replace H : ((becketref12_number.f k3 ((rd_T58 l0_4 x10_3).f1)).bind fun t746 => (if y742.length + t746.length < 140737488355328 then ((some (y742 ++ t746 : List Int)).bind fun y749 => ((becketref12_texts.f k3 ((rd_T58 l0_4 x10_3).f2)).bind fun t753 => (if y749.length + t753.length < 140737488355328 then (becketref12_PutAnswer.l1 k3 (y749 ++ t753) (wrap64 (x10_3 + 1)) a0_0 a0_1 l0_2 l0_3 l0_4) else (none)))) else (none))) = some r := by first | (rw [hy742]; with_reducible exact H) | (have H2_ := (Option.bind_some _ _).symm.trans H; rw [hy742]; with_reducible exact H2_) | (have H2_ := (Option.bind_some _ _).symm.trans H; with_reducible exact H2_) | with_reducible exact H | (rw [hy742]; exact H) | exact H
                have Ny742 := Aside0.mk hy742
                clear hy742
                replace H := Option.bind_eq_some_iff.mp H
                obtain ⟨t746, A680, H⟩ := H
                replace H : (if y742.length + t746.length < 140737488355328 then ((some (y742 ++ t746 : List Int)).bind fun y749 => ((becketref12_texts.f k3 ((rd_T58 l0_4 x10_3).f2)).bind fun t753 => (if y749.length + t753.length < 140737488355328 then (becketref12_PutAnswer.l1 k3 (y749 ++ t753) (wrap64 (x10_3 + 1)) a0_0 a0_1 l0_2 l0_3 l0_4) else (none)))) else (none)) = some r := H
                have A68 := Aside0.mk A680
                clear A680
                by_cases c69 : y742.length + t746.length < 140737488355328
                ·rw [if_pos c69] at H
                 have LMc69 := Aside0.mk c69
                 clear c69
                 obtain ⟨y749, hy749⟩ : ∃ y_ : List Int, y_ = (y742 ++ t746) := ⟨_, rfl⟩
                 replace H : ((becketref12_texts.f k3 ((rd_T58 l0_4 x10_3).f2)).bind fun t753 => (if y749.length + t753.length < 140737488355328 then (becketref12_PutAnswer.l1 k3 (y749 ++ t753) (wrap64 (x10_3 + 1)) a0_0 a0_1 l0_2 l0_3 l0_4) else (none))) = some r := by first | (rw [hy749]; with_reducible exact H) | (have H2_ := (Option.bind_some _ _).symm.trans H; rw [hy749]; with_reducible exact H2_) | (have H2_ := (Option.bind_some _ _).symm.trans H; with_reducible exact H2_) | with_reducible exact H | (rw [hy749]; exact H) | exact H
                 have Ny749 := Aside0.mk hy749
                 clear hy749
                 replace H := Option.bind_eq_some_iff.mp H
                 obtain ⟨t753, A700, H⟩ := H
                 replace H : (if y749.length + t753.length < 140737488355328 then (becketref12_PutAnswer.l1 k3 (y749 ++ t753) (wrap64 (x10_3 + 1)) a0_0 a0_1 l0_2 l0_3 l0_4) else (none)) = some r := H
                 have A70 := Aside0.mk A700
                 clear A700
                 by_cases c71 : y749.length + t753.length < 140737488355328
                 ·rw [if_pos c71] at H
                  have LMc71 := Aside0.mk c71
                  clear c71
                  obtain ⟨y756, hy756⟩ : ∃ y_ : List Int, y_ = (y749 ++ t753) := ⟨_, rfl⟩
                  replace H : (becketref12_PutAnswer.l1 k3 y756 (wrap64 (x10_3 + 1)) a0_0 a0_1 l0_2 l0_3 l0_4) = some r := by first | (rw [hy756]; with_reducible exact H) | (have H2_ := (Option.bind_some _ _).symm.trans H; rw [hy756]; with_reducible exact H2_) | (have H2_ := (Option.bind_some _ _).symm.trans H; with_reducible exact H2_) | with_reducible exact H | (rw [hy756]; exact H) | exact H
                  have Ny756 := Aside0.mk hy756
                  clear hy756
                  have H' := Aside0.mk H
                  clear H
                  have hcz72_0 : wr.cell? ⟨gb705, 0, none⟩ = some (.int .i64 a0_0) := (blk_cell BK705.out 0).trans rfl
                  have hcz72_1 : wr.cell? ⟨gb705, 1, none⟩ = some (.int .i64 a0_1) := (blk_cell BK705.out 1).trans rfl
                  have hcz72_2 : wr.cell? ⟨gb705, 2, none⟩ = some (.slice A0_2 l0_2.length c0_2) := (blk_cell BK705.out 2).trans rfl
                  have hcz72_3 : wr.cell? ⟨gb705, 3, none⟩ = some (.slice A0_3 l0_3.length c0_3) := (blk_cell BK705.out 3).trans rfl
                  have hcz72_4 : wr.cell? ⟨gb705, 4, none⟩ = some (.slice A0_4 l0_4.length c0_4) := (blk_cell BK705.out 4).trans rfl
                  have hfz72_0 := blk_frozen BK705.out 0
                  have hfz72_1 := blk_frozen BK705.out 1
                  have hfz72_2 := blk_frozen BK705.out 2
                  have hfz72_3 := blk_frozen BK705.out 3
                  have hfz72_4 := blk_frozen BK705.out 4
                  have p738 : 0 ≤ (x10_3 : Int) := of_decide_eq_true (by first | (with_reducible assumption) | assumption)
                  have q738 : x10_3 < (l0_4.length : Int) := of_decide_eq_true (by first | (with_reducible assumption) | assumption)
                  obtain ⟨ad738, A738_2, c738_2, e738, hx738_0, hx738_1, hx738_2, hl738_2, hi738_2⟩ := at_T58 HR0_4.out x10_3 p738 q738
                  cases e738
                  replace hx738_0 := (HB.out.cell (World.block_lt_of_cell? w _ hx738_0)).trans hx738_0
                  replace hx738_1 := (HB.out.cell (World.block_lt_of_cell? w _ hx738_1)).trans hx738_1
                  replace hx738_2 := (HB.out.cell (World.block_lt_of_cell? w _ hx738_2)).trans hx738_2
                  have HR738_2 := Aside0.mk hi738_2
                  have HC738_2 := Aside0.mk hl738_2
                  clear hi738_2 hl738_2
                  replace p738 := eq_true p738
                  replace q738 := eq_true q738
                  go_wp2_with (first | ((with_reducible refine gate_callee (f := 37) rfl ?_); refine goesL_ (some 100) rfl rfl Try.func37 (by kernel_rfl) rfl #[.string ((rd_T58 l0_4 x10_3).f0)] rfl (by (try simp only [List.map_toArray, List.map_cons, List.map_nil]); first | done | rfl | (simp only [List.length_drop, List.length_take]; rfl)) ?_; (with_reducible refine (becketref01_Text.calls k3 ((rd_T58 l0_4 x10_3).f0) t739 _ A66.out).mono ?_); rintro e w73 ⟨v740, rfl, ho0, hb⟩; refine ⟨_, rfl, ?_⟩; have n0_ := Aside0.mk (Kd.R_elder' (HO_9.out) (Kd.R_base ho0) hb); have n1_ := Aside0.mk (Kd.R_lower (Kd.R_new' ho0 (Kd.R_lt (HO_9.out))) (below_size (HB.out))); have n2_ := Aside0.mk (blk_below (g := gb705) (o := .cells #[.int .i64 a0_0, .int .i64 a0_1, .slice A0_2 l0_2.length c0_2, .slice A0_3 l0_3.length c0_3, .slice (some ad738) l0_4.length c0_4] 48 (0, 0)) (BK705.out) hb); have n3_ := Aside0.mk (below_step (HB.out) hb); clear HO_9; clear BK705; clear HB; have HO_9 := n0_; have HO741 := n1_; have BK705 := n2_; have HB := n3_; clear n0_ n1_ n2_ n3_; (try clear hb); (try clear hb2); (try clear hk); (try clear hi); (try clear ho0); obtain ⟨Ao75, co75, eo75⟩ := Kd.R_slice HO741.out; subst eo75) | ((with_reducible refine gate_builtin (b := .append) (xs := #[.tmp 93, .tmp 100]) rfl ?_); (try (refine gate_guard (by rfl) ?_; dsimp only)); at_builtin; refine Kd.R_append_rows (Kd.int .u8) (w0 := w) w.heap.size rfl (.tmp 93) (.tmp 100) 31 5 (.int .u8 0) 1 rfl Try.underlying31 info5 rfl (by decide) (by omega) u9 x9_3 t739 _ _ _ (fun k_ => some k_ ≠ (.slice Ao75 t739.length co75 : Value).ownBlock) (fun _ => False) rfl rfl ?aO ?aR (fun _ _ h => h) (fun _ h => h.elim) ?aF ?aB ?aS ?aL ?_; (case aR => repeat (first | exact (Kd.R_reads' HO741.out).2.2 | (with_reducible refine Kd.C_alloc ?_ _) | (with_reducible refine Kd.C_drewN ?_ _) | (with_reducible refine Kd.C_drew ?_))); (case aB => exact (HB.out)); (case aF => exact (fun k_ hk => Kd.fresh' (Kd.R_lt (HO741.out)) k_ hk)); (case aO => exact (Kd.R_mono HO_9.out (fun _ hk => hk.2))); (case aS => exact (below_size (HB.out))); (case aL => have := LMc67.out; omega); intro v743 w74 ho hb hg hat; rw [← Ny742.out] at ho; have n0_ := Aside0.mk (blk_grown (g := gb705) (o := .cells #[.int .i64 a0_0, .int .i64 a0_1, .slice A0_2 l0_2.length c0_2, .slice A0_3 l0_3.length c0_3, .slice (some ad738) l0_4.length c0_4] 48 (0, 0)) (BK705.out) hg (Kd.R_ne HO_9.out BK705.out (by decide))); have n1_ := Aside0.mk (Kd.R_after (ok := (fun _ => True)) (HO741.out) hg hat); have n2_ := Aside0.mk (hb); have n3_ := Aside0.mk (ho); clear BK705; clear HO741; clear HB; clear HO_9; have BK705 := n0_; have HO741 := n1_; have HB := n2_; have HO744 := n3_; clear n0_ n1_ n2_ n3_; clear ho hb hg hat; have hcz76_0 : w74.cell? ⟨gb705, 0, none⟩ = some (.int .i64 a0_0) := (blk_cell BK705.out 0).trans rfl; have hcz76_1 : w74.cell? ⟨gb705, 1, none⟩ = some (.int .i64 a0_1) := (blk_cell BK705.out 1).trans rfl; have hcz76_2 : w74.cell? ⟨gb705, 2, none⟩ = some (.slice A0_2 l0_2.length c0_2) := (blk_cell BK705.out 2).trans rfl; have hcz76_3 : w74.cell? ⟨gb705, 3, none⟩ = some (.slice A0_3 l0_3.length c0_3) := (blk_cell BK705.out 3).trans rfl; have hcz76_4 : w74.cell? ⟨gb705, 4, none⟩ = some (.slice (some ad738) l0_4.length c0_4) := (blk_cell BK705.out 4).trans rfl; have hfz76_0 := blk_frozen BK705.out 0; have hfz76_1 := blk_frozen BK705.out 1; have hfz76_2 := blk_frozen BK705.out 2; have hfz76_3 := blk_frozen BK705.out 3; have hfz76_4 := blk_frozen BK705.out 4; have p745 : 0 ≤ (x10_3 : Int) := of_decide_eq_true (by first | (with_reducible assumption) | assumption); have q745 : x10_3 < (l0_4.length : Int) := of_decide_eq_true (by first | (with_reducible assumption) | assumption); obtain ⟨ad745, A745_2, c745_2, e745, hx745_0, hx745_1, hx745_2, hl745_2, hi745_2⟩ := at_T58 HR0_4.out x10_3 p745 q745; obtain rfl : ad738 = ad745 := (by injection e745); replace hx745_0 := (HB.out.cell (World.block_lt_of_cell? w _ hx745_0)).trans hx745_0; replace hx745_1 := (HB.out.cell (World.block_lt_of_cell? w _ hx745_1)).trans hx745_1; replace hx745_2 := (HB.out.cell (World.block_lt_of_cell? w _ hx745_2)).trans hx745_2; have HR745_2 := Aside0.mk hi745_2; have HC745_2 := Aside0.mk hl745_2; clear hi745_2 hl745_2; replace p745 := eq_true p745; replace q745 := eq_true q745) | ((with_reducible refine gate_callee (f := 36) rfl ?_); refine goesL_ (some 109) rfl rfl Try.func36 (by kernel_rfl) rfl #[.int .i64 ((rd_T58 l0_4 x10_3).f1)] rfl (by (try simp only [List.map_toArray, List.map_cons, List.map_nil]); first | done | rfl | (simp only [List.length_drop, List.length_take]; rfl)) ?_; (with_reducible refine (becketref12_number.calls k3 ((rd_T58 l0_4 x10_3).f1) t746 _ A68.out).mono ?_); rintro e w77 ⟨v747, rfl, ho0, hb⟩; refine ⟨_, rfl, ?_⟩; have n0_ := Aside0.mk (Kd.R_elder' (HO741.out) (Kd.R_base ho0) hb); have n1_ := Aside0.mk (Kd.R_elder' (HO744.out) (Kd.R_base ho0) hb); have n2_ := Aside0.mk (Kd.R_lower (Kd.R_new' (Kd.R_new' ho0 (Kd.R_lt (HO741.out))) (Kd.R_lt (HO744.out))) (below_size (HB.out))); have n3_ := Aside0.mk (blk_below (g := gb705) (o := .cells #[.int .i64 a0_0, .int .i64 a0_1, .slice A0_2 l0_2.length c0_2, .slice A0_3 l0_3.length c0_3, .slice (some ad738) l0_4.length c0_4] 48 (0, 0)) (BK705.out) hb); have n4_ := Aside0.mk (below_step (HB.out) hb); clear HO741; clear HO744; clear BK705; clear HB; have HO741 := n0_; have HO744 := n1_; have HO748 := n2_; have BK705 := n3_; have HB := n4_; clear n0_ n1_ n2_ n3_ n4_; (try clear hb); (try clear hb2); (try clear hk); (try clear hi); (try clear ho0); obtain ⟨Ao79, co79, eo79⟩ := Kd.R_slice HO748.out; subst eo79) | ((with_reducible refine gate_builtin (b := .append) (xs := #[.tmp 102, .tmp 109]) rfl ?_); (try (refine gate_guard (by rfl) ?_; dsimp only)); at_builtin; refine Kd.R_append_rows (Kd.int .u8) (w0 := w) w.heap.size rfl (.tmp 102) (.tmp 109) 31 5 (.int .u8 0) 1 rfl Try.underlying31 info5 rfl (by decide) (by omega) v743 y742 t746 _ _ _ (fun k_ => some k_ ≠ (.slice Ao75 t739.length co75 : Value).ownBlock ∧ some k_ ≠ (.slice Ao79 t746.length co79 : Value).ownBlock) (fun _ => False) rfl rfl ?aO ?aR (fun _ _ h => h) (fun _ h => h.elim) ?aF ?aB ?aS ?aL ?_; (case aR => repeat (first | exact (Kd.R_reads' HO748.out).2.2 | (with_reducible refine Kd.C_alloc ?_ _) | (with_reducible refine Kd.C_drewN ?_ _) | (with_reducible refine Kd.C_drew ?_))); (case aB => exact (HB.out)); (case aF => exact (fun k_ hk => ⟨Kd.fresh' (Kd.R_lt (HO741.out)) k_ hk, Kd.fresh' (Kd.R_lt (HO748.out)) k_ hk⟩)); (case aO => exact (HO744.out)); (case aS => exact (below_size (HB.out))); (case aL => have := LMc69.out; omega); intro v750 w78 ho hb hg hat; rw [← Ny749.out] at ho; have n0_ := Aside0.mk (blk_grown (g := gb705) (o := .cells #[.int .i64 a0_0, .int .i64 a0_1, .slice A0_2 l0_2.length c0_2, .slice A0_3 l0_3.length c0_3, .slice (some ad738) l0_4.length c0_4] 48 (0, 0)) (BK705.out) hg (Kd.R_ne HO744.out BK705.out (by decide))); have n1_ := Aside0.mk (Kd.R_after (ok := (fun k_ => some k_ ≠ (.slice Ao79 t746.length co79 : Value).ownBlock)) (Kd.R_mono HO741.out (fun _ hk => ⟨hk.2, hk.1.2⟩)) hg hat); have n2_ := Aside0.mk (Kd.R_after (ok := (fun k_ => some k_ ≠ (.slice Ao75 t739.length co75 : Value).ownBlock)) (Kd.R_mono HO748.out (fun _ hk => ⟨hk.1.2, hk.2⟩)) hg hat); have n3_ := Aside0.mk (hb); have n4_ := Aside0.mk (ho); clear BK705; clear HO741; clear HO748; clear HB; clear HO744; have BK705 := n0_; have HO741 := n1_; have HO748 := n2_; have HB := n3_; have HO751 := n4_; clear n0_ n1_ n2_ n3_ n4_; clear ho hb hg hat; have hcz80_0 : w78.cell? ⟨gb705, 0, none⟩ = some (.int .i64 a0_0) := (blk_cell BK705.out 0).trans rfl; have hcz80_1 : w78.cell? ⟨gb705, 1, none⟩ = some (.int .i64 a0_1) := (blk_cell BK705.out 1).trans rfl; have hcz80_2 : w78.cell? ⟨gb705, 2, none⟩ = some (.slice A0_2 l0_2.length c0_2) := (blk_cell BK705.out 2).trans rfl; have hcz80_3 : w78.cell? ⟨gb705, 3, none⟩ = some (.slice A0_3 l0_3.length c0_3) := (blk_cell BK705.out 3).trans rfl; have hcz80_4 : w78.cell? ⟨gb705, 4, none⟩ = some (.slice (some ad738) l0_4.length c0_4) := (blk_cell BK705.out 4).trans rfl; have hfz80_0 := blk_frozen BK705.out 0; have hfz80_1 := blk_frozen BK705.out 1; have hfz80_2 := blk_frozen BK705.out 2; have hfz80_3 := blk_frozen BK705.out 3; have hfz80_4 := blk_frozen BK705.out 4; have p752 : 0 ≤ (x10_3 : Int) := of_decide_eq_true (by first | (with_reducible assumption) | assumption); have q752 : x10_3 < (l0_4.length : Int) := of_decide_eq_true (by first | (with_reducible assumption) | assumption); obtain ⟨ad752, A752_2, c752_2, e752, hx752_0, hx752_1, hx752_2, hl752_2, hi752_2⟩ := at_T58 HR0_4.out x10_3 p752 q752; obtain rfl : ad738 = ad752 := (by injection e752); replace hx752_0 := (HB.out.cell (World.block_lt_of_cell? w _ hx752_0)).trans hx752_0; replace hx752_1 := (HB.out.cell (World.block_lt_of_cell? w _ hx752_1)).trans hx752_1; replace hx752_2 := (HB.out.cell (World.block_lt_of_cell? w _ hx752_2)).trans hx752_2; have HR752_2 := Aside0.mk hi752_2; have HC752_2 := Aside0.mk hl752_2; clear hi752_2 hl752_2; replace p752 := eq_true p752; replace q752 := eq_true q752) | ((with_reducible refine gate_callee (f := 51) rfl ?_); refine goesL_ (some 118) rfl rfl Try.func51 (by kernel_rfl) rfl #[.slice A752_2 ((rd_T58 l0_4 x10_3).f2).length c752_2] rfl (by (try simp only [List.map_toArray, List.map_cons, List.map_nil]); first | done | rfl | (simp only [List.length_drop, List.length_take]; rfl)) ?_; (with_reducible refine (becketref12_texts.calls k3 _ _ ((rd_T58 l0_4 x10_3).f2) t753 _ ?side1 ?side2 A70.out).mono ?_); (case side1 => repeat (first | exact (Kd.C_below HR752_2.out HB.out) | (with_reducible refine Kd.C_alloc ?_ _) | (with_reducible refine Kd.C_drewN ?_ _) | (with_reducible refine Kd.C_drew ?_))); (case side2 => exact HC752_2.out); rintro e w81 ⟨v754, rfl, ho0, hb⟩; refine ⟨_, rfl, ?_⟩; have n0_ := Aside0.mk (Kd.R_elder' (HO741.out) (Kd.R_base ho0) hb); have n1_ := Aside0.mk (Kd.R_elder' (HO748.out) (Kd.R_base ho0) hb); have n2_ := Aside0.mk (Kd.R_elder' (HO751.out) (Kd.R_base ho0) hb); have n3_ := Aside0.mk (Kd.R_lower (Kd.R_new' (Kd.R_new' (Kd.R_new' ho0 (Kd.R_lt (HO741.out))) (Kd.R_lt (HO748.out))) (Kd.R_lt (HO751.out))) (below_size (HB.out))); have n4_ := Aside0.mk (blk_below (g := gb705) (o := .cells #[.int .i64 a0_0, .int .i64 a0_1, .slice A0_2 l0_2.length c0_2, .slice A0_3 l0_3.length c0_3, .slice (some ad738) l0_4.length c0_4] 48 (0, 0)) (BK705.out) hb); have n5_ := Aside0.mk (below_step (HB.out) hb); clear HO741; clear HO748; clear HO751; clear BK705; clear HB; have HO741 := n0_; have HO748 := n1_; have HO751 := n2_; have HO755 := n3_; have BK705 := n4_; have HB := n5_; clear n0_ n1_ n2_ n3_ n4_ n5_; (try clear hb); (try clear hb2); (try clear hk); (try clear hi); (try clear ho0); obtain ⟨Ao83, co83, eo83⟩ := Kd.R_slice HO755.out; subst eo83) | ((with_reducible refine gate_builtin (b := .append) (xs := #[.tmp 111, .tmp 118]) rfl ?_); (try (refine gate_guard (by rfl) ?_; dsimp only)); at_builtin; refine Kd.R_append_rows (Kd.int .u8) (w0 := w) w.heap.size rfl (.tmp 111) (.tmp 118) 31 5 (.int .u8 0) 1 rfl Try.underlying31 info5 rfl (by decide) (by omega) v750 y749 t753 _ _ _ (fun k_ => some k_ ≠ (.slice Ao75 t739.length co75 : Value).ownBlock ∧ some k_ ≠ (.slice Ao79 t746.length co79 : Value).ownBlock ∧ some k_ ≠ (.slice Ao83 t753.length co83 : Value).ownBlock) (fun _ => False) rfl rfl ?aO ?aR (fun _ _ h => h) (fun _ h => h.elim) ?aF ?aB ?aS ?aL ?_; (case aR => repeat (first | exact (Kd.R_reads' HO755.out).2.2 | (with_reducible refine Kd.C_alloc ?_ _) | (with_reducible refine Kd.C_drewN ?_ _) | (with_reducible refine Kd.C_drew ?_))); (case aB => exact (HB.out)); (case aF => exact (fun k_ hk => ⟨Kd.fresh' (Kd.R_lt (HO741.out)) k_ hk, Kd.fresh' (Kd.R_lt (HO748.out)) k_ hk, Kd.fresh' (Kd.R_lt (HO755.out)) k_ hk⟩)); (case aO => exact (Kd.R_mono HO751.out (fun _ hk => ⟨hk.1.1, ⟨hk.1.2, hk.2⟩⟩))); (case aS => exact (below_size (HB.out))); (case aL => have := LMc71.out; omega); intro v757 w82 ho hb hg hat; rw [← Ny756.out] at ho; have n0_ := Aside0.mk (blk_grown (g := gb705) (o := .cells #[.int .i64 a0_0, .int .i64 a0_1, .slice A0_2 l0_2.length c0_2, .slice A0_3 l0_3.length c0_3, .slice (some ad738) l0_4.length c0_4] 48 (0, 0)) (BK705.out) hg (Kd.R_ne HO751.out BK705.out (by decide))); have n1_ := Aside0.mk (Kd.R_after (ok := (fun k_ => some k_ ≠ (.slice Ao79 t746.length co79 : Value).ownBlock ∧ some k_ ≠ (.slice Ao83 t753.length co83 : Value).ownBlock)) (Kd.R_mono HO741.out (fun _ hk => ⟨⟨hk.1.1, hk.2⟩, hk.1.2⟩)) hg hat); have n2_ := Aside0.mk (Kd.R_after (ok := (fun k_ => some k_ ≠ (.slice Ao75 t739.length co75 : Value).ownBlock ∧ some k_ ≠ (.slice Ao83 t753.length co83 : Value).ownBlock)) (Kd.R_mono HO748.out (fun _ hk => ⟨⟨hk.1.1, hk.2⟩, hk.1.2⟩)) hg hat); have n3_ := Aside0.mk (Kd.R_after (ok := (fun k_ => some k_ ≠ (.slice Ao75 t739.length co75 : Value).ownBlock ∧ some k_ ≠ (.slice Ao79 t746.length co79 : Value).ownBlock)) (Kd.R_mono HO755.out (fun _ hk => ⟨⟨hk.1.1.2, hk.1.2⟩, hk.2⟩)) hg hat); have n4_ := Aside0.mk (hb); have n5_ := Aside0.mk (ho); clear BK705; clear HO741; clear HO748; clear HO755; clear HB; clear HO751; have BK705 := n0_; have HO741 := n1_; have HO748 := n2_; have HO755 := n3_; have HB := n4_; have HO758 := n5_; clear n0_ n1_ n2_ n3_ n4_ n5_; clear ho hb hg hat))
                  go_roundg k3
                  case measure => have := HJ3.out; have := HK2.out; have := HK3.out; omega
                  case rel => exact ⟨(y756), (wrap64 (x10_3 + 1)), (by first | rfl | (simp; done) | (simp [*]; done)), H', ⟨by have := HJ3.out; have := HK2.out; have := HK3.out; omega⟩, ⟨Kd.R_mono HO758.out (fun _ hk => trivial)⟩, ⟨BK705.out⟩, ⟨HB.out⟩⟩
                 ·rw [if_neg c71] at H
                  exact absurd H (by simp)
                ·rw [if_neg c69] at H
                 exact absurd H (by simp)
               ·rw [if_neg c67] at H
                exact absurd H (by simp)
              ·rw [if_neg c65] at H
               exact absurd H (by simp)
             ·rw [if_neg c64] at H
              have c64b0 : decide (x10_3 < (l0_4.length : Int)) = false := decide_eq_false c64
              clear c64
              by_cases c84 : (x9_3.length : Int) > 4096
              ·rw [if_pos c84] at H
               have c84b0 : decide (4096 < (x9_3.length : Int)) = true := decide_eq_true c84
               have c84b1 : decide (4096 < x9_3.length) = true := decide_eq_true (by omega)
               clear c84
               obtain rfl := Option.some.inj H
               have hcz85_0 : wr.cell? ⟨gb705, 0, none⟩ = some (.int .i64 a0_0) := (blk_cell BK705.out 0).trans rfl
               have hcz85_1 : wr.cell? ⟨gb705, 1, none⟩ = some (.int .i64 a0_1) := (blk_cell BK705.out 1).trans rfl
               have hcz85_2 : wr.cell? ⟨gb705, 2, none⟩ = some (.slice A0_2 l0_2.length c0_2) := (blk_cell BK705.out 2).trans rfl
               have hcz85_3 : wr.cell? ⟨gb705, 3, none⟩ = some (.slice A0_3 l0_3.length c0_3) := (blk_cell BK705.out 3).trans rfl
               have hcz85_4 : wr.cell? ⟨gb705, 4, none⟩ = some (.slice A0_4 l0_4.length c0_4) := (blk_cell BK705.out 4).trans rfl
               have hfz85_0 := blk_frozen BK705.out 0
               have hfz85_1 := blk_frozen BK705.out 1
               have hfz85_2 := blk_frozen BK705.out 2
               have hfz85_3 := blk_frozen BK705.out 3
               have hfz85_4 := blk_frozen BK705.out 4
               obtain ⟨Ao86, co86, eo86⟩ := Kd.R_slice HO_9.out
               subst eo86
               go_wp2
               go_ret
               exact ⟨by first | rfl | (simp [errW_none, errW_some] <;> rfl) | (simp [*, errW_none, errW_some] <;> rfl), HB.out⟩
              ·rw [if_neg c84] at H
               have c84b0 : decide (4096 < (x9_3.length : Int)) = false := decide_eq_false c84
               have c84b1 : decide (4096 < x9_3.length) = false := decide_eq_false (by omega)
               clear c84
               obtain rfl := Option.some.inj H
               have hcz87_0 : wr.cell? ⟨gb705, 0, none⟩ = some (.int .i64 a0_0) := (blk_cell BK705.out 0).trans rfl
               have hcz87_1 : wr.cell? ⟨gb705, 1, none⟩ = some (.int .i64 a0_1) := (blk_cell BK705.out 1).trans rfl
               have hcz87_2 : wr.cell? ⟨gb705, 2, none⟩ = some (.slice A0_2 l0_2.length c0_2) := (blk_cell BK705.out 2).trans rfl
               have hcz87_3 : wr.cell? ⟨gb705, 3, none⟩ = some (.slice A0_3 l0_3.length c0_3) := (blk_cell BK705.out 3).trans rfl
               have hcz87_4 : wr.cell? ⟨gb705, 4, none⟩ = some (.slice A0_4 l0_4.length c0_4) := (blk_cell BK705.out 4).trans rfl
               have hfz87_0 := blk_frozen BK705.out 0
               have hfz87_1 := blk_frozen BK705.out 1
               have hfz87_2 := blk_frozen BK705.out 2
               have hfz87_3 := blk_frozen BK705.out 3
               have hfz87_4 := blk_frozen BK705.out 4
               obtain ⟨Ao88, co88, eo88⟩ := Kd.R_slice HO_9.out
               subst eo88
               (first | have hcv89 := own_string (P := Try.prog) Try.underlying31 Try.underlying5 Try.underlying9 (Kd.own_of_R HO_9.out) | have hcv89 := V_string_becketref12_PutAnswer (P := Try.prog) Try.underlying31 Try.underlying5 Try.underlying9 HO_9.out)
               (first | have hcv90 := fun n_ : Nat => own_string (P := Try.prog) Try.underlying31 Try.underlying5 Try.underlying9 (Kd.own_of_R (Kd.R_drewN HO_9.out n_)) | have hcv90 := fun n_ : Nat => V_string_becketref12_PutAnswer (P := Try.prog) Try.underlying31 Try.underlying5 Try.underlying9 (Kd.V_drewN HO_9.out n_))
               go_wp2
               go_ret
               exact ⟨by first | rfl | (simp [errW_none, errW_some] <;> rfl) | (simp [*, errW_none, errW_some] <;> rfl), HB.out⟩
          ·rw [if_neg c45] at H
           exact absurd H (by simp)
         ·rw [if_neg c43] at H
          exact absurd H (by simp)
        ·rw [if_neg c41] at H
         exact absurd H (by simp)
       ·rw [if_neg c39] at H
        exact absurd H (by simp)
      ·replace c36 := Bool.eq_false_iff.mpr c36
       subst c36
       have H1 : (some (⟨#[7, 0, 0, 0, 0]⟩ : ByteArray)) = some r := by rw [if_neg (show ¬ (false = true) by decide)] at H; exact H
       clear H
       have H := H1
       clear H1
       obtain rfl := Option.some.inj H
       have hcz91_0 : wr.cell? ⟨gb705, 0, none⟩ = some (.int .i64 a0_0) := (blk_cell BK705.out 0).trans rfl
       have hcz91_1 : wr.cell? ⟨gb705, 1, none⟩ = some (.int .i64 a0_1) := (blk_cell BK705.out 1).trans rfl
       have hcz91_2 : wr.cell? ⟨gb705, 2, none⟩ = some (.slice A0_2 l0_2.length c0_2) := (blk_cell BK705.out 2).trans rfl
       have hcz91_3 : wr.cell? ⟨gb705, 3, none⟩ = some (.slice A0_3 l0_3.length c0_3) := (blk_cell BK705.out 3).trans rfl
       have hcz91_4 : wr.cell? ⟨gb705, 4, none⟩ = some (.slice A0_4 l0_4.length c0_4) := (blk_cell BK705.out 4).trans rfl
       have hfz91_0 := blk_frozen BK705.out 0
       have hfz91_1 := blk_frozen BK705.out 1
       have hfz91_2 := blk_frozen BK705.out 2
       have hfz91_3 := blk_frozen BK705.out 3
       have hfz91_4 := blk_frozen BK705.out 4
       go_wp2
       go_ret
       exact ⟨by first | rfl | (simp [errW_none, errW_some] <;> rfl) | (simp [*, errW_none, errW_some] <;> rfl), HB.out⟩
end Go.Proofs.Ytpbbgbikebcnbaa.Ms
