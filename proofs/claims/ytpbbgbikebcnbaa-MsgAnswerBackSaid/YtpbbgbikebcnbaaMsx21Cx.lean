-- Cut by a program of this session (wip/shake.py) out of a text of this seat: what this claim doesn't reach is struck out. Lean checks it.
import Derived.Test.YtpbbgbikebcnbaaMsx0Cx
import Derived.Test.YtpbbgbikebcnbaaMsx5Cx
import Derived.Test.YtpbbgbikebcnbaaMsx20Cx
namespace Go.Proofs.Ytpbbgbikebcnbaa.Ms
open Go.RowKit Go.Proofs.YtpbbgbikebcnbaaW.PrintWords Go.Proofs.YtpbbgbikebcnbaaW.PrintLast Go.Proofs.YtpbbgbikebcnbaaW.PrintMore
attribute [local go_sem] max2_int min2_int max_two min_two max_three min_three max_four min_four   -- for this text's walks alone
set_option linter.unusedVariables false
set_option linter.unusedSimpArgs false
attribute [local go_sem] eqlErr neqErr eqlErrNil neqErrNil
open Go.Proofs.Ytpbbgbikebcnbaa.Mw
def msg_written.l0 : Nat → List Int → List (S58) → Int → Int → Option (List Int)
 | 0, _, _, _, _ => none
 | k + 1, x3, x25, x26, x27 => if x27 < x26 then (if 0 ≤ x27 then (if x27 < (x25.length : Int) then ((wire_Text.f k x3 ((rd_T58 x25 x27).f0)).bind fun t671 => ((msg_numbers.f k t671 (([(rd_T58 x25 x27).f1] : List Int))).bind fun t677 => ((msg_list.f k t677 ((rd_T58 x25 x27).f2)).bind fun t680 => (msg_written.l0 k t680 x25 x26 (wrap64 (x27 + 1)))))) else (none)) else (none)) else (some x3)
def msg_written.f (k : Nat) (a0_0 : Int) (a0_1 : Int) (l0_2 : List ByteArray) (l0_3 : List ByteArray) (l0_4 : List (S58)) : Option (List Int) := (msg_numbers.f k ([] : List Int) (([a0_0, a0_1] : List Int))).bind fun t654 => ((msg_list.f k t654 l0_2).bind fun t657 => ((msg_list.f k t657 l0_3).bind fun t660 => ((msg_numbers.f k t660 (([(l0_4.length : Int)] : List Int))).bind fun t666 => (msg_written.l0 k t666 l0_4 (l0_4.length : Int) 0))))
def msg_written.T1 : Bool × List (List Nat × List Nat) := (true, [([], []), ([0], [0]), ([], []), ([2], [2]), ([1, 3], [1, 3]), ([4], [4]), ([], []), ([6], [6]), ([5, 7, 5], [5, 7]), ([], []), ([9], [9]), ([8, 10, 8], [8, 10]), ([11, 11, 0, 1, 2, 3, 4, 5, 6, 7, 8, 9, 10, 11], [11])])
def msg_written.B1 : List Nat := [0, 1, 0, 4, 15, 31, 0, 64, 255, 0, 512, 2047, 4095]
theorem msg_written.tab1 : rtab .any (opsOf Try.f49 1) = msg_written.T1 := by kernel_rfl
theorem msg_written.bits1 : waitsOk msg_written.T1.2 msg_written.B1 = true := by kernel_rfl
def msg_written.T6 : Bool × List (List Nat × List Nat) := (true, [([], []), ([], []), ([1], [1]), ([0, 2], [0, 2]), ([], []), ([4], [4]), ([5], [5]), ([3, 6, 3], [3, 6]), ([], []), ([8], [8]), ([7, 9, 7], [7, 9]), ([10, 10, 0, 1, 2, 3, 4, 5, 6, 7, 8, 9, 10], [0, 10])])
def msg_written.B6 : List Nat := [0, 0, 2, 7, 0, 16, 48, 127, 0, 256, 1023, 2047]
theorem msg_written.tab6 : rtab .any (opsOf Try.f49 6) = msg_written.T6 := by kernel_rfl
theorem msg_written.bits6 : waitsOk msg_written.T6.2 msg_written.B6 = true := by kernel_rfl
set_option maxHeartbeats 8000000 in
set_option maxRecDepth 100000 in
theorem msg_written.calls (k : Nat) (a0_0 : Int) (a0_1 : Int) (A0_2 : Option Addr) (c0_2 : Nat) (l0_2 : List ByteArray) (A0_3 : Option Addr) (c0_3 : Nat) (l0_3 : List ByteArray) (A0_4 : Option Addr) (c0_4 : Nat) (l0_4 : List (S58)) (r : List Int) (w : World) (hr0_2 : Kd.C Kd.string w A0_2 l0_2.length l0_2) (hc0_2 : l0_2.length ≤ c0_2) (hr0_3 : Kd.C Kd.string w A0_3 l0_3.length l0_3) (hc0_3 : l0_3.length ≤ c0_3) (hr0_4 : Kd.C k58 w A0_4 l0_4.length l0_4) (hc0_4 : l0_4.length ≤ c0_4) (h : msg_written.f k a0_0 a0_1 l0_2 l0_3 l0_4 = some r) :
  Calls Try.prog 49 #[.agg #[.int .i64 a0_0, .int .i64 a0_1, .slice A0_2 l0_2.length c0_2, .slice A0_3 l0_3.length c0_3, .slice A0_4 l0_4.length c0_4]] w fun e w' => ∃ v0_ : Value, e = .returned (v0_) ∧ Kd.V (Kd.int .u8) 5 w' w.heap.size (fun k_ => (w.heap.size ≤ k_)) v0_ r ∧ Below w.heap.size w w' := by
 have hu48 := Try.underlying48
 have hu58 := Try.underlying58
 have HR0_2 := Aside0.mk hr0_2
 have HC0_2 := Aside0.mk hc0_2
 clear hr0_2 hc0_2
 have HR0_3 := Aside0.mk hr0_3
 have HC0_3 := Aside0.mk hc0_3
 clear hr0_3 hc0_3
 have HR0_4 := Aside0.mk hr0_4
 have HC0_4 := Aside0.mk hc0_4
 clear hr0_4 hc0_4
 have HB := Aside0.mk (Below.refl w.heap.size w)
 have H : ((msg_numbers.f k ([] : List Int) (([a0_0, a0_1] : List Int))).bind fun t654 => ((msg_list.f k t654 l0_2).bind fun t657 => ((msg_list.f k t657 l0_3).bind fun t660 => ((msg_numbers.f k t660 (([(l0_4.length : Int)] : List Int))).bind fun t666 => (msg_written.l0 k t666 l0_4 (l0_4.length : Int) 0))))) = some r := h
 clear h
 obtain ⟨y651, hy651⟩ : ∃ y_ : List Int, y_ = (([a0_0, a0_1] : List Int)) := ⟨_, rfl⟩
 replace H : ((msg_numbers.f k ([] : List Int) y651).bind fun t654 => ((msg_list.f k t654 l0_2).bind fun t657 => ((msg_list.f k t657 l0_3).bind fun t660 => ((msg_numbers.f k t660 (([(l0_4.length : Int)] : List Int))).bind fun t666 => (msg_written.l0 k t666 l0_4 (l0_4.length : Int) 0))))) = some r := by first | (rw [hy651]; with_reducible exact H) | (have H2_ := (Option.bind_some _ _).symm.trans H; rw [hy651]; with_reducible exact H2_) | (have H2_ := (Option.bind_some _ _).symm.trans H; with_reducible exact H2_) | with_reducible exact H | (rw [hy651]; exact H) | exact H
 have Ny651 := Aside0.mk hy651
 clear hy651
 replace H := Option.bind_eq_some_iff.mp H
 obtain ⟨t654, A20, H⟩ := H
 replace H : ((msg_list.f k t654 l0_2).bind fun t657 => ((msg_list.f k t657 l0_3).bind fun t660 => ((msg_numbers.f k t660 (([(l0_4.length : Int)] : List Int))).bind fun t666 => (msg_written.l0 k t666 l0_4 (l0_4.length : Int) 0)))) = some r := H
 have A2 := Aside0.mk A20
 clear A20
 replace H := Option.bind_eq_some_iff.mp H
 obtain ⟨t657, A30, H⟩ := H
 replace H : ((msg_list.f k t657 l0_3).bind fun t660 => ((msg_numbers.f k t660 (([(l0_4.length : Int)] : List Int))).bind fun t666 => (msg_written.l0 k t666 l0_4 (l0_4.length : Int) 0))) = some r := H
 have A3 := Aside0.mk A30
 clear A30
 replace H := Option.bind_eq_some_iff.mp H
 obtain ⟨t660, A40, H⟩ := H
 replace H : ((msg_numbers.f k t660 (([(l0_4.length : Int)] : List Int))).bind fun t666 => (msg_written.l0 k t666 l0_4 (l0_4.length : Int) 0)) = some r := H
 have A4 := Aside0.mk A40
 clear A40
 obtain ⟨y663, hy663⟩ : ∃ y_ : List Int, y_ = (([(l0_4.length : Int)] : List Int)) := ⟨_, rfl⟩
 replace H : ((msg_numbers.f k t660 y663).bind fun t666 => (msg_written.l0 k t666 l0_4 (l0_4.length : Int) 0)) = some r := by first | (rw [hy663]; with_reducible exact H) | (have H2_ := (Option.bind_some _ _).symm.trans H; rw [hy663]; with_reducible exact H2_) | (have H2_ := (Option.bind_some _ _).symm.trans H; with_reducible exact H2_) | with_reducible exact H | (rw [hy663]; exact H) | exact H
 have Ny663 := Aside0.mk hy663
 clear hy663
 replace H := Option.bind_eq_some_iff.mp H
 obtain ⟨t666, A50, H⟩ := H
 replace H : (msg_written.l0 k t666 l0_4 (l0_4.length : Int) 0) = some r := H
 have A5 := Aside0.mk A50
 clear A50
 have H' := Aside0.mk H
 clear H
 go_enter Try.func49, Try.ntmps49
 try go_wp2_with (first | ((with_reducible refine gate_dst (N := 1) rfl ?_); refine box_event ?hg (N := 1) ?hd (cs := #[.int .i64 a0_0, .int .i64 a0_1, .slice A0_2 l0_2.length c0_2, .slice A0_3 l0_3.length c0_3, .slice A0_4 l0_4.length c0_4]) (t := 48) ?hr ?_; (case hd => rfl); (case hg => rfl); (case hr => first | (go_simp; done) | (go_simp; rfl)); intro gb650 hg w6 hbox hb; have n0_ := Aside0.mk (below_step (HB.out) hb); have n1_ := Aside0.mk (hbox); have n2_ := Aside0.mk ((by rw [hg]; exact (below_size (HB.out)) : w.heap.size ≤ gb650)); have n3_ := Aside0.mk ((by rw [hg]; exact (below_size (HB.out)) : w.heap.size ≤ gb650)); clear HB; have HB := n0_; have BK650 := n1_; have GW650 := n2_; have GE650 := n3_; clear n0_ n1_ n2_ n3_; clear hb hbox hg))
 have n0_ := Aside0.mk (blk_drew BK650.out)
 have n1_ := Aside0.mk (below_drew1 HB.out)
 clear BK650
 clear HB
 have BK650 := n0_
 have HB := n1_
 clear n0_ n1_
 refine start_ (n := 13) (S := fun w' => w'.cell? ⟨gb650, 0, none⟩ = some (.int .i64 a0_0) ∧ w'.cell? ⟨gb650, 1, none⟩ = some (.int .i64 a0_1) ∧ w'.cell? ⟨gb650, 2, none⟩ = some (.slice A0_2 l0_2.length c0_2) ∧ w'.cell? ⟨gb650, 3, none⟩ = some (.slice A0_3 l0_3.length c0_3) ∧ w'.cell? ⟨gb650, 4, none⟩ = some (.slice A0_4 l0_4.length c0_4)) (ds := []) #[false, false, false, false, false, false, false, false, false, false, false, false, false] (by kernel_rfl) rfl rfl ⟨(blk_cell BK650.out 0).trans rfl, (blk_cell BK650.out 1).trans rfl, (blk_cell BK650.out 2).trans rfl, (blk_cell BK650.out 3).trans rfl, (blk_cell BK650.out 4).trans rfl⟩ (fun hHeld => ?_); refine with_tabW msg_written.tab1 msg_written.bits1 (fun HT_ HW_ => ?_)
 generalize w6.drew = w7 at BK650 HB hHeld ⊢
 refine pure_ (i := 0) (N := some 6) (v := ?_) (a' := ?_) #[true, false, false, false, false, false, false, false, false, false, false, false, false] rfl rfl (any_of HT_.out (by kernel_rfl)) (fun _ _ _ h => h) (Or.inl ⟨by rfl, ?_⟩) ?_ ?_
 rotate_left
 ·intro w'
  go_simp
  with_reducible rfl
 rotate_left
 ·simp only [Act.put, List.setIfInBounds_toArray, List.set_cons_zero, List.set_cons_succ, i64_w, i32_w]
  rfl
 refine pure_ (i := 2) (N := some 8) (v := ?_) (a' := ?_) #[true, false, true, false, false, false, false, false, false, false, false, false, false] rfl rfl (any_of HT_.out (by kernel_rfl)) (fun _ _ _ h => h) (Or.inl ⟨by rfl, ?_⟩) ?_ ?_
 rotate_left
 ·intro w'
  go_simp
  with_reducible rfl
 rotate_left
 ·simp only [Act.put, List.setIfInBounds_toArray, List.set_cons_zero, List.set_cons_succ, i64_w, i32_w]
  rfl
 refine pure_ (i := 6) (N := some 12) (v := ?_) (a' := ?_) #[true, false, true, false, false, false, true, false, false, false, false, false, false] rfl rfl (any_of HT_.out (by kernel_rfl)) (fun _ _ _ h => h) (Or.inl ⟨by rfl, ?_⟩) ?_ ?_
 rotate_left
 ·intro w'
  go_simp
  with_reducible rfl
 rotate_left
 ·simp only [Act.put, List.setIfInBounds_toArray, List.set_cons_zero, List.set_cons_succ, i64_w, i32_w]
  rfl
 refine pure_ (i := 9) (N := some 15) (v := ?_) (a' := ?_) #[true, false, true, false, false, false, true, false, false, true, false, false, false] rfl rfl (any_of HT_.out (by kernel_rfl)) (fun _ _ _ h => h) (Or.inl ⟨by rfl, ?_⟩) ?_ ?_
 rotate_left
 ·intro w'
  go_simp
  with_reducible rfl
 rotate_left
 ·simp only [Act.put, List.setIfInBounds_toArray, List.set_cons_zero, List.set_cons_succ, i64_w, i32_w]
  rfl
 refine take_ (i := 1) (N := some 7) (v := ?_) (a' := ?_) #[true, true, true, false, false, false, true, false, false, true, false, false, false] rfl rfl (take_ofW HT_.out HW_.out (by kernel_rfl)) (fun _ _ _ h => h) (Or.inl ⟨by rfl, ?_⟩) hHeld ?_ ?_
 rotate_left
 ·rintro w' ⟨s0, s1, s2, s3, s4⟩
  go_simp
  with_reducible rfl
 rotate_left
 ·simp only [Act.put, List.setIfInBounds_toArray, List.set_cons_zero, List.set_cons_succ, i64_w, i32_w]
  rfl
 refine take_ (i := 3) (N := some 9) (v := ?_) (a' := ?_) #[true, true, true, true, false, false, true, false, false, true, false, false, false] rfl rfl (take_ofW HT_.out HW_.out (by kernel_rfl)) (fun _ _ _ h => h) (Or.inl ⟨by rfl, ?_⟩) hHeld ?_ ?_
 rotate_left
 ·rintro w' ⟨s0, s1, s2, s3, s4⟩
  go_simp
  with_reducible rfl
 rotate_left
 ·simp only [Act.put, List.setIfInBounds_toArray, List.set_cons_zero, List.set_cons_succ, i64_w, i32_w]
  rfl
 refine take_ (i := 7) (N := some 13) (v := ?_) (a' := ?_) #[true, true, true, true, false, false, true, true, false, true, false, false, false] rfl rfl (take_ofW HT_.out HW_.out (by kernel_rfl)) (fun _ _ _ h => h) (Or.inl ⟨by rfl, ?_⟩) hHeld ?_ ?_
 rotate_left
 ·rintro w' ⟨s0, s1, s2, s3, s4⟩
  go_simp
  with_reducible rfl
 rotate_left
 ·simp only [Act.put, List.setIfInBounds_toArray, List.set_cons_zero, List.set_cons_succ, i64_w, i32_w]
  rfl
 refine take_ (i := 10) (N := some 16) (v := ?_) (a' := ?_) #[true, true, true, true, false, false, true, true, false, true, true, false, false] rfl rfl (take_ofW HT_.out HW_.out (by kernel_rfl)) (fun _ _ _ h => h) (Or.inl ⟨by rfl, ?_⟩) hHeld ?_ ?_
 rotate_left
 ·rintro w' ⟨s0, s1, s2, s3, s4⟩
  go_simp
  with_reducible rfl
 rotate_left
 ·simp only [Act.put, List.setIfInBounds_toArray, List.set_cons_zero, List.set_cons_succ, i64_w, i32_w]
  rfl
 refine one_ (i := 4) (N := some 10) #[true, true, true, true, true, false, true, true, false, true, true, false, false] rfl rfl (one_of HT_.out (by kernel_rfl)) (by decide) (fun K hK => ?_)
 refine Kd.R_lit_step (Kd.int .i64) _ 3 ?hg (N := 10) ?hd (xs := ([a0_0, a0_1] : List Int)) (inner := [.int .i64 a0_0, .int .i64 a0_1]) (ok := fun _ => True) (okp := fun _ => True) ?hr ?hp (fun _ hk => hk) trivial (Below.refl _ _) (Nat.le_refl _) (by simp) ?_; (case hd => rfl); (case hg => rfl); (case hr => first | (go_simp; done) | (go_simp; rfl)); (case hp => exact (Reps.one (show Kd.M (Kd.int .i64) _ _ _ a0_0 [.int .i64 a0_0] from rfl) (Reps.one (show Kd.M (Kd.int .i64) _ _ _ a0_1 [.int .i64 a0_1] from rfl) (Reps.none _ _))))
 intro v652 w8 ho9 hb hg_ hnew_
 clear hg_ hnew_
 (first | rw [← Ny651.out] at ho9 | (simp only [Int.reduceToNat] at ho9; rw [← Ny651.out] at ho9))
 have n0_ := Aside0.mk (Kd.R_lower (Kd.R_newM (M := fun k_ => (w.heap.size ≤ k_)) ho9 (below_size (HB.out)) (fun k_ h_ => h_)) (below_size (HB.out)))
 have n1_ := Aside0.mk (blk_below (g := gb650) (o := .cells #[.int .i64 a0_0, .int .i64 a0_1, .slice A0_2 l0_2.length c0_2, .slice A0_3 l0_3.length c0_3, .slice A0_4 l0_4.length c0_4] 48 (0, 0)) (BK650.out) hb)
 have n2_ := Aside0.mk (below_step (HB.out) hb)
 clear BK650
 clear HB
 have HO653 := n0_
 have BK650 := n1_
 have HB := n2_
 clear n0_ n1_ n2_
 clear hb ho9
 obtain ⟨Ao10, co10, eo10⟩ := Kd.R_slice HO653.out
 (first | subst eo10 | (injection eo10 with f1_ f2_ f3_; have f4_ := f1_.symm; have f5_ := f3_.symm; clear f1_ f2_ f3_; subst f4_; subst f5_))
 refine hK.out _ _ ⟨(blk_cell BK650.out 0).trans rfl, (blk_cell BK650.out 1).trans rfl, (blk_cell BK650.out 2).trans rfl, (blk_cell BK650.out 3).trans rfl, (blk_cell BK650.out 4).trans rfl⟩ (fun hHeld => ?_)
 clear hK K
 refine norm_ (a' := ?_) ?_ ?_
 rotate_left
 ·show Act.put _ (some 10) _ = _
  simp only [Act.put, List.setIfInBounds_toArray, List.set_cons_zero, List.set_cons_succ, i64_w, i32_w]
  rfl
 refine one_ (i := 5) (N := some 11) #[true, true, true, true, true, true, true, true, false, true, true, false, false] rfl rfl (one_of HT_.out (by kernel_rfl)) (by decide) (fun K hK => ?_)
 refine goes_ Try.func32 (by kernel_rfl) rfl #[.slice none 0 0, .slice Ao10 y651.length co10] (by rfl) rfl rfl (by (try simp only [List.map_toArray, List.map_cons, List.map_nil]); first | done | rfl | (simp only [List.length_drop, List.length_take]; rfl)) ?_
 refine (msg_numbers.calls k (fun k_ => False) _ _ ([] : List Int) _ _ y651 t654 _ ?side1 ?side2 ?side3 A2.out).mono ?_
 (case side1 => exact Kd.V_nil _ _ _ _ _)
 (case side2 => repeat (first | exact (Kd.R_reads' HO653.out).2.2 | (with_reducible refine Kd.C_alloc ?_ _) | (with_reducible refine Kd.C_drewN ?_ _) | (with_reducible refine Kd.C_drew ?_)))
 (case side3 => exact (Kd.R_reads' HO653.out).2.1)
 rintro e w11 ⟨v655, rfl, ho0, hb⟩
 refine ⟨_, rfl, ?_⟩
 have n0_ := Aside0.mk (Kd.R_below (HO653.out) hb)
 have n1_ := Aside0.mk (Kd.V_lower (Kd.V_mono (ok' := fun k_ => (w.heap.size ≤ k_) ∧ some k_ ≠ (.slice Ao10 y651.length co10 : Value).ownBlock ∧ k_ ≠ gb650) ho0 (fun k_ hk_ => ⟨Or.elim hk_ (fun hs_ => (hs_).elim) (fun hn_ => (Nat.le_trans (below_size (HB.out)) hn_)), Or.elim hk_ (fun hs_ => (hs_).elim) (fun hn_ => (Kd.fresh' (Kd.R_lt (HO653.out)) k_ hn_)), Or.elim hk_ (fun hs_ => (hs_).elim) (fun hn_ => (Kd.freshB (g := gb650) (o := .cells #[.int .i64 a0_0, .int .i64 a0_1, .slice A0_2 l0_2.length c0_2, .slice A0_3 l0_3.length c0_3, .slice A0_4 l0_4.length c0_4] 48 (0, 0)) (BK650.out) k_ hn_))⟩)) (below_size (HB.out)))
 have n2_ := Aside0.mk (blk_below (g := gb650) (o := .cells #[.int .i64 a0_0, .int .i64 a0_1, .slice A0_2 l0_2.length c0_2, .slice A0_3 l0_3.length c0_3, .slice A0_4 l0_4.length c0_4] 48 (0, 0)) (BK650.out) hb)
 have n3_ := Aside0.mk (below_step (HB.out) hb)
 clear HO653
 clear BK650
 clear HB
 have HO653 := n0_
 have HO656 := n1_
 have BK650 := n2_
 have HB := n3_
 clear n0_ n1_ n2_ n3_
 (try clear hb)
 (try clear hb2)
 (try clear hk)
 (try clear hi)
 (try clear ho0)
 obtain ⟨Ao12, co12, eo12⟩ := Kd.V_slice HO656.out
 (first | subst eo12 | (injection eo12 with f1_ f2_ f3_; have f4_ := f1_.symm; have f5_ := f3_.symm; clear f1_ f2_ f3_; subst f4_; subst f5_))
 refine hK.out _ _ ⟨(blk_cell BK650.out 0).trans rfl, (blk_cell BK650.out 1).trans rfl, (blk_cell BK650.out 2).trans rfl, (blk_cell BK650.out 3).trans rfl, (blk_cell BK650.out 4).trans rfl⟩ (fun hHeld => ?_)
 clear hK K
 refine norm_ (a' := ?_) ?_ ?_
 rotate_left
 ·show Act.put _ (some 11) _ = _
  simp only [Act.put, List.setIfInBounds_toArray, List.set_cons_zero, List.set_cons_succ, i64_w, i32_w]
  rfl
 refine one_ (i := 8) (N := some 14) #[true, true, true, true, true, true, true, true, true, true, true, false, false] rfl rfl (one_of HT_.out (by kernel_rfl)) (by decide) (fun K hK => ?_)
 refine goes_ Try.func71 (by kernel_rfl) rfl #[.slice Ao12 t654.length co12, .slice A0_2 l0_2.length c0_2] (by rfl) rfl rfl (by (try simp only [List.map_toArray, List.map_cons, List.map_nil]); first | done | rfl | (simp only [List.length_drop, List.length_take]; rfl)) ?_
 with_reducible refine (msg_list.calls k (fun k_ => ((w.heap.size ≤ k_) ∧ (some k_ ≠ (.slice Ao10 y651.length co10 : Value).ownBlock ∧ k_ ≠ gb650))) _ _ t654 _ _ l0_2 t657 _ ?side1 ?side2 ?side3 A3.out).mono ?_
 (case side1 => exact HO656.out)
 (case side2 => repeat (first | exact (Kd.C_below HR0_2.out HB.out) | (with_reducible refine Kd.C_alloc ?_ _) | (with_reducible refine Kd.C_drewN ?_ _) | (with_reducible refine Kd.C_drew ?_)))
 (case side3 => exact HC0_2.out)
 rintro e w13 ⟨v658, rfl, ho0, hb⟩
 refine ⟨_, rfl, ?_⟩
 have n0_ := Aside0.mk (Kd.R_below (HO653.out) hb)
 have n1_ := Aside0.mk (Kd.V_below (HO656.out) hb)
 have n2_ := Aside0.mk (Kd.V_lower (Kd.V_mono (ok' := fun k_ => (w.heap.size ≤ k_) ∧ some k_ ≠ (.slice Ao10 y651.length co10 : Value).ownBlock ∧ k_ ≠ gb650) ho0 (fun k_ hk_ => ⟨Or.elim hk_ (fun hs_ => hs_.1) (fun hn_ => (Nat.le_trans (below_size (HB.out)) hn_)), Or.elim hk_ (fun hs_ => hs_.2.1) (fun hn_ => (Kd.fresh' (Kd.R_lt (HO653.out)) k_ hn_)), Or.elim hk_ (fun hs_ => hs_.2.2) (fun hn_ => (Kd.freshB (g := gb650) (o := .cells #[.int .i64 a0_0, .int .i64 a0_1, .slice A0_2 l0_2.length c0_2, .slice A0_3 l0_3.length c0_3, .slice A0_4 l0_4.length c0_4] 48 (0, 0)) (BK650.out) k_ hn_))⟩)) (below_size (HB.out)))
 have n3_ := Aside0.mk (blk_below (g := gb650) (o := .cells #[.int .i64 a0_0, .int .i64 a0_1, .slice A0_2 l0_2.length c0_2, .slice A0_3 l0_3.length c0_3, .slice A0_4 l0_4.length c0_4] 48 (0, 0)) (BK650.out) hb)
 have n4_ := Aside0.mk (below_step (HB.out) hb)
 clear HO653
 clear HO656
 clear BK650
 clear HB
 have HO653 := n0_
 have HO656 := n1_
 have HO659 := n2_
 have BK650 := n3_
 have HB := n4_
 clear n0_ n1_ n2_ n3_ n4_
 (try clear hb)
 (try clear hb2)
 (try clear hk)
 (try clear hi)
 (try clear ho0)
 obtain ⟨Ao14, co14, eo14⟩ := Kd.V_slice HO659.out
 (first | subst eo14 | (injection eo14 with f1_ f2_ f3_; have f4_ := f1_.symm; have f5_ := f3_.symm; clear f1_ f2_ f3_; subst f4_; subst f5_))
 refine hK.out _ _ ⟨(blk_cell BK650.out 0).trans rfl, (blk_cell BK650.out 1).trans rfl, (blk_cell BK650.out 2).trans rfl, (blk_cell BK650.out 3).trans rfl, (blk_cell BK650.out 4).trans rfl⟩ (fun hHeld => ?_)
 clear hK K
 refine norm_ (a' := ?_) ?_ ?_
 rotate_left
 ·show Act.put _ (some 14) _ = _
  simp only [Act.put, List.setIfInBounds_toArray, List.set_cons_zero, List.set_cons_succ, i64_w, i32_w]
  rfl
 refine one_ (i := 11) (N := some 17) #[true, true, true, true, true, true, true, true, true, true, true, true, false] rfl rfl (one_of HT_.out (by kernel_rfl)) (by decide) (fun K hK => ?_)
 refine goes_ Try.func71 (by kernel_rfl) rfl #[.slice Ao14 t657.length co14, .slice A0_3 l0_3.length c0_3] (by rfl) rfl rfl (by (try simp only [List.map_toArray, List.map_cons, List.map_nil]); first | done | rfl | (simp only [List.length_drop, List.length_take]; rfl)) ?_
 with_reducible refine (msg_list.calls k (fun k_ => ((w.heap.size ≤ k_) ∧ (some k_ ≠ (.slice Ao10 y651.length co10 : Value).ownBlock ∧ k_ ≠ gb650))) _ _ t657 _ _ l0_3 t660 _ ?side1 ?side2 ?side3 A4.out).mono ?_
 (case side1 => exact HO659.out)
 (case side2 => repeat (first | exact (Kd.C_below HR0_3.out HB.out) | (with_reducible refine Kd.C_alloc ?_ _) | (with_reducible refine Kd.C_drewN ?_ _) | (with_reducible refine Kd.C_drew ?_)))
 (case side3 => exact HC0_3.out)
 rintro e w15 ⟨v661, rfl, ho0, hb⟩
 refine ⟨_, rfl, ?_⟩
 have n0_ := Aside0.mk (Kd.R_below (HO653.out) hb)
 have n1_ := Aside0.mk (Kd.V_below (HO656.out) hb)
 have n2_ := Aside0.mk (Kd.V_below (HO659.out) hb)
 have n3_ := Aside0.mk (Kd.V_lower (Kd.V_mono (ok' := fun k_ => (w.heap.size ≤ k_) ∧ some k_ ≠ (.slice Ao10 y651.length co10 : Value).ownBlock ∧ k_ ≠ gb650) ho0 (fun k_ hk_ => ⟨Or.elim hk_ (fun hs_ => hs_.1) (fun hn_ => (Nat.le_trans (below_size (HB.out)) hn_)), Or.elim hk_ (fun hs_ => hs_.2.1) (fun hn_ => (Kd.fresh' (Kd.R_lt (HO653.out)) k_ hn_)), Or.elim hk_ (fun hs_ => hs_.2.2) (fun hn_ => (Kd.freshB (g := gb650) (o := .cells #[.int .i64 a0_0, .int .i64 a0_1, .slice A0_2 l0_2.length c0_2, .slice A0_3 l0_3.length c0_3, .slice A0_4 l0_4.length c0_4] 48 (0, 0)) (BK650.out) k_ hn_))⟩)) (below_size (HB.out)))
 have n4_ := Aside0.mk (blk_below (g := gb650) (o := .cells #[.int .i64 a0_0, .int .i64 a0_1, .slice A0_2 l0_2.length c0_2, .slice A0_3 l0_3.length c0_3, .slice A0_4 l0_4.length c0_4] 48 (0, 0)) (BK650.out) hb)
 have n5_ := Aside0.mk (below_step (HB.out) hb)
 clear HO653
 clear HO656
 clear HO659
 clear BK650
 clear HB
 have HO653 := n0_
 have HO656 := n1_
 have HO659 := n2_
 have HO662 := n3_
 have BK650 := n4_
 have HB := n5_
 clear n0_ n1_ n2_ n3_ n4_ n5_
 (try clear hb)
 (try clear hb2)
 (try clear hk)
 (try clear hi)
 (try clear ho0)
 refine hK.out _ _ ⟨(blk_cell BK650.out 0).trans rfl, (blk_cell BK650.out 1).trans rfl, (blk_cell BK650.out 2).trans rfl, (blk_cell BK650.out 3).trans rfl, (blk_cell BK650.out 4).trans rfl⟩ (fun hHeld => ?_)
 clear hK K
 refine norm_ (a' := ?_) ?_ ?_
 rotate_left
 ·show Act.put _ (some 17) _ = _
  simp only [Act.put, List.setIfInBounds_toArray, List.set_cons_zero, List.set_cons_succ, i64_w, i32_w]
  rfl
 refine pure_ (i := 12) (N := some 3) (v := ?_) (a' := ?_) #[true, true, true, true, true, true, true, true, true, true, true, true, true] rfl rfl (any_of HT_.out (by kernel_rfl)) (fun _ _ _ h => h) (Or.inl ⟨by rfl, ?_⟩) ?_ ?_
 rotate_left
 ·intro w'
  go_simp
  with_reducible rfl
 rotate_left
 ·simp only [Act.put, List.setIfInBounds_toArray, List.set_cons_zero, List.set_cons_succ, i64_w, i32_w]
  rfl
 refine done_ (done_of HT_.out (by kernel_rfl)) ?_
 have hcz16_0 : w15.cell? ⟨gb650, 0, none⟩ = some (.int .i64 a0_0) := (blk_cell BK650.out 0).trans rfl
 have hcz16_1 : w15.cell? ⟨gb650, 1, none⟩ = some (.int .i64 a0_1) := (blk_cell BK650.out 1).trans rfl
 have hcz16_2 : w15.cell? ⟨gb650, 2, none⟩ = some (.slice A0_2 l0_2.length c0_2) := (blk_cell BK650.out 2).trans rfl
 have hcz16_3 : w15.cell? ⟨gb650, 3, none⟩ = some (.slice A0_3 l0_3.length c0_3) := (blk_cell BK650.out 3).trans rfl
 have hcz16_4 : w15.cell? ⟨gb650, 4, none⟩ = some (.slice A0_4 l0_4.length c0_4) := (blk_cell BK650.out 4).trans rfl
 have hfz16_0 := blk_frozen BK650.out 0
 have hfz16_1 := blk_frozen BK650.out 1
 have hfz16_2 := blk_frozen BK650.out 2
 have hfz16_3 := blk_frozen BK650.out 3
 have hfz16_4 := blk_frozen BK650.out 4
 try go_wp2_with (first | ((with_reducible refine gate_dst (N := 22) rfl ?_); refine Kd.R_lit (Kd.int .i64) _ 3 ?hg (N := 22) ?hd (xs := ([(l0_4.length : Int)] : List Int)) (inner := [.int .i64 (l0_4.length : Int)]) (ok := fun _ => True) (okp := fun _ => True) ?hr ?hp (fun _ hk => hk) trivial (Below.refl _ _) (Nat.le_refl _) (by simp) ?_; (case hd => rfl); (case hg => rfl); (case hr => first | (go_simp; done) | (go_simp; rfl)); (case hp => exact (Reps.one (show Kd.M (Kd.int .i64) _ _ _ (l0_4.length : Int) [.int .i64 (l0_4.length : Int)] from rfl) (Reps.none _ _))); intro v664 w17 ho18 hb hg_ hnew_; clear hg_ hnew_; (first | rw [← Ny663.out] at ho18 | (simp only [Int.reduceToNat] at ho18; rw [← Ny663.out] at ho18)); have n0_ := Aside0.mk (Kd.R_elder' (HO653.out) (Kd.R_base ho18) hb); have n1_ := Aside0.mk (Kd.V_elder' (HO656.out) (Kd.R_base ho18) hb); have n2_ := Aside0.mk (Kd.V_elder' (HO659.out) (Kd.R_base ho18) hb); have n3_ := Aside0.mk (Kd.V_elder' (HO662.out) (Kd.R_base ho18) hb); have n4_ := Aside0.mk (Kd.R_lower (Kd.R_new' (Kd.R_newM (M := fun k_ => (w.heap.size ≤ k_)) ho18 (below_size (HB.out)) (fun k_ h_ => h_)) (Kd.R_lt (HO653.out))) (below_size (HB.out))); have n5_ := Aside0.mk (blk_below (g := gb650) (o := .cells #[.int .i64 a0_0, .int .i64 a0_1, .slice A0_2 l0_2.length c0_2, .slice A0_3 l0_3.length c0_3, .slice A0_4 l0_4.length c0_4] 48 (0, 0)) (BK650.out) hb); have n6_ := Aside0.mk (below_step (HB.out) hb); clear HO653; clear HO656; clear HO659; clear HO662; clear BK650; clear HB; have HO653 := n0_; have HO656 := n1_; have HO659 := n2_; have HO662 := n3_; have HO665 := n4_; have BK650 := n5_; have HB := n6_; clear n0_ n1_ n2_ n3_ n4_ n5_ n6_; clear hb ho18; obtain ⟨Ao19, co19, eo19⟩ := Kd.V_slice HO662.out; subst eo19; obtain ⟨Ao20, co20, eo20⟩ := Kd.R_slice HO665.out; subst eo20) | ((with_reducible refine gate_callee (f := 32) rfl ?_); refine goesL_ (some 23) rfl rfl Try.func32 (by kernel_rfl) rfl #[.slice Ao19 t660.length co19, .slice Ao20 y663.length co20] rfl (by (try simp only [List.map_toArray, List.map_cons, List.map_nil]); first | done | rfl | (simp only [List.length_drop, List.length_take]; rfl)) ?_; (with_reducible refine (msg_numbers.calls k (fun k_ => (((w.heap.size ≤ k_) ∧ (some k_ ≠ (.slice Ao10 y651.length co10 : Value).ownBlock ∧ k_ ≠ gb650)) ∧ some k_ ≠ (.slice Ao20 y663.length co20 : Value).ownBlock)) _ _ t660 _ _ y663 t666 _ ?side1 ?side2 ?side3 A5.out).mono ?_); (case side1 => exact HO662.out); (case side2 => repeat (first | exact (Kd.R_reads' HO665.out).2.2 | (with_reducible refine Kd.C_alloc ?_ _) | (with_reducible refine Kd.C_drewN ?_ _) | (with_reducible refine Kd.C_drew ?_))); (case side3 => exact (Kd.R_reads' HO665.out).2.1); rintro e w21 ⟨v667, rfl, ho0, hb⟩; refine ⟨_, rfl, ?_⟩; have n0_ := Aside0.mk (Kd.R_below (HO653.out) hb); have n1_ := Aside0.mk (Kd.V_below (HO656.out) hb); have n2_ := Aside0.mk (Kd.V_below (HO659.out) hb); have n3_ := Aside0.mk (Kd.V_below (HO662.out) hb); have n4_ := Aside0.mk (Kd.R_below (HO665.out) hb); have n5_ := Aside0.mk (Kd.V_lower (Kd.V_mono (ok' := fun k_ => (w.heap.size ≤ k_) ∧ some k_ ≠ (.slice Ao10 y651.length co10 : Value).ownBlock ∧ some k_ ≠ (.slice Ao20 y663.length co20 : Value).ownBlock ∧ k_ ≠ gb650) ho0 (fun k_ hk_ => ⟨Or.elim hk_ (fun hs_ => hs_.1.1) (fun hn_ => (Nat.le_trans (below_size (HB.out)) hn_)), Or.elim hk_ (fun hs_ => hs_.1.2.1) (fun hn_ => (Kd.fresh' (Kd.R_lt (HO653.out)) k_ hn_)), Or.elim hk_ (fun hs_ => hs_.2) (fun hn_ => (Kd.fresh' (Kd.R_lt (HO665.out)) k_ hn_)), Or.elim hk_ (fun hs_ => hs_.1.2.2) (fun hn_ => (Kd.freshB (g := gb650) (o := .cells #[.int .i64 a0_0, .int .i64 a0_1, .slice A0_2 l0_2.length c0_2, .slice A0_3 l0_3.length c0_3, .slice A0_4 l0_4.length c0_4] 48 (0, 0)) (BK650.out) k_ hn_))⟩)) (below_size (HB.out))); have n6_ := Aside0.mk (blk_below (g := gb650) (o := .cells #[.int .i64 a0_0, .int .i64 a0_1, .slice A0_2 l0_2.length c0_2, .slice A0_3 l0_3.length c0_3, .slice A0_4 l0_4.length c0_4] 48 (0, 0)) (BK650.out) hb); have n7_ := Aside0.mk (below_step (HB.out) hb); clear HO653; clear HO656; clear HO659; clear HO662; clear HO665; clear BK650; clear HB; have HO653 := n0_; have HO656 := n1_; have HO659 := n2_; have HO662 := n3_; have HO665 := n4_; have HO668 := n5_; have BK650 := n6_; have HB := n7_; clear n0_ n1_ n2_ n3_ n4_ n5_ n6_ n7_; (try clear hb); (try clear hb2); (try clear hk); (try clear hi); (try clear ho0); have hcz22_0 : w21.cell? ⟨gb650, 0, none⟩ = some (.int .i64 a0_0) := (blk_cell BK650.out 0).trans rfl; have hcz22_1 : w21.cell? ⟨gb650, 1, none⟩ = some (.int .i64 a0_1) := (blk_cell BK650.out 1).trans rfl; have hcz22_2 : w21.cell? ⟨gb650, 2, none⟩ = some (.slice A0_2 l0_2.length c0_2) := (blk_cell BK650.out 2).trans rfl; have hcz22_3 : w21.cell? ⟨gb650, 3, none⟩ = some (.slice A0_3 l0_3.length c0_3) := (blk_cell BK650.out 3).trans rfl; have hcz22_4 : w21.cell? ⟨gb650, 4, none⟩ = some (.slice A0_4 l0_4.length c0_4) := (blk_cell BK650.out 4).trans rfl; have hfz22_0 := blk_frozen BK650.out 0; have hfz22_1 := blk_frozen BK650.out 1; have hfz22_2 := blk_frozen BK650.out 2; have hfz22_3 := blk_frozen BK650.out 3; have hfz22_4 := blk_frozen BK650.out 4))
 go_loopg [3, 27] k (fun kq v3 v27 w' => ∃ (x3_1 : List Int) (x27_1 : Int), v27 = .int .i64 x27_1 ∧ Aside0 (msg_written.l0 kq x3_1 l0_4 (l0_4.length : Int) x27_1 = some r) ∧ Aside0 (kq ≤ k) ∧ Aside0 (Kd.V (Kd.int .u8) 5 w' w.heap.size (fun k_ => (w.heap.size ≤ k_) ∧ k_ ≠ gb650) v3 x3_1) ∧ Aside0 (w'.heap[gb650]? = some (.cells #[.int .i64 a0_0, .int .i64 a0_1, (.slice A0_2 l0_2.length c0_2), (.slice A0_3 l0_3.length c0_3), (.slice A0_4 l0_4.length c0_4)] 48 (0, 0))) ∧ Aside0 (Below w.heap.size w w'))
 case atStart => exact ⟨(t666), (0), (by first | rfl | (simp; done) | (simp [*]; done)), H', ⟨Nat.le_refl _⟩, ⟨Kd.V_mono HO668.out (fun _ hk => ⟨hk.1, hk.2.2.2⟩)⟩, ⟨BK650.out⟩, ⟨HB.out⟩⟩
 case round =>
  clear H'
  try clear p2
  try clear c3
  try clear c4
  try clear c7
  try clear hcz16_0
  try clear hcz16_1
  try clear hcz16_2
  try clear hcz16_3
  try clear hcz16_4
  try clear hcz22_0
  try clear hcz22_1
  try clear hcz22_2
  try clear hcz22_3
  try clear hcz22_4
  try clear hfz16_0
  try clear hfz16_1
  try clear hfz16_2
  try clear hfz16_3
  try clear hfz16_4
  try clear hfz22_0
  try clear hfz22_1
  try clear hfz22_2
  try clear hfz22_3
  try clear hfz22_4
  obtain ⟨x3_1, x27_1, rfl, HA, HK1, HO_3, BK650, HB⟩ := hrel
  cases gk with
  | zero => exact absurd HA.out (by simp [msg_written.l0])
  | succ k1 =>
   have H := HA.out
   clear HA
   simp only [msg_written.l0] at H
   by_cases c23 : x27_1 < (l0_4.length : Int)
   ·rw [if_pos c23] at H
    have c23b0 : decide (x27_1 < (l0_4.length : Int)) = true := decide_eq_true c23
    clear c23
    by_cases c24 : 0 ≤ x27_1
    ·rw [if_pos c24] at H
     have c24b0 : decide (0 ≤ x27_1) = true := decide_eq_true c24
     clear c24
     by_cases c25 : x27_1 < (l0_4.length : Int)
     ·rw [if_pos c25] at H
      have c25b0 : decide (x27_1 < (l0_4.length : Int)) = true := decide_eq_true c25
      clear c25
      replace H := Option.bind_eq_some_iff.mp H
      obtain ⟨t671, A260, H⟩ := H
      replace H : ((msg_numbers.f k1 t671 (([(rd_T58 l0_4 x27_1).f1] : List Int))).bind fun t677 => ((msg_list.f k1 t677 ((rd_T58 l0_4 x27_1).f2)).bind fun t680 => (msg_written.l0 k1 t680 l0_4 (l0_4.length : Int) (wrap64 (x27_1 + 1))))) = some r := H
      have A26 := Aside0.mk A260
      clear A260
      obtain ⟨y674, hy674⟩ : ∃ y_ : List Int, y_ = (([(rd_T58 l0_4 x27_1).f1] : List Int)) := ⟨_, rfl⟩
      replace H : ((msg_numbers.f k1 t671 y674).bind fun t677 => ((msg_list.f k1 t677 ((rd_T58 l0_4 x27_1).f2)).bind fun t680 => (msg_written.l0 k1 t680 l0_4 (l0_4.length : Int) (wrap64 (x27_1 + 1))))) = some r := by first | (rw [hy674]; with_reducible exact H) | (have H2_ := (Option.bind_some _ _).symm.trans H; rw [hy674]; with_reducible exact H2_) | (have H2_ := (Option.bind_some _ _).symm.trans H; with_reducible exact H2_) | with_reducible exact H | (rw [hy674]; exact H) | exact H
      have Ny674 := Aside0.mk hy674
      clear hy674
      replace H := Option.bind_eq_some_iff.mp H
      obtain ⟨t677, A270, H⟩ := H
      replace H : ((msg_list.f k1 t677 ((rd_T58 l0_4 x27_1).f2)).bind fun t680 => (msg_written.l0 k1 t680 l0_4 (l0_4.length : Int) (wrap64 (x27_1 + 1)))) = some r := H
      have A27 := Aside0.mk A270
      clear A270
      replace H := Option.bind_eq_some_iff.mp H
      obtain ⟨t680, A280, H⟩ := H
      replace H : (msg_written.l0 k1 t680 l0_4 (l0_4.length : Int) (wrap64 (x27_1 + 1))) = some r := H
      have A28 := Aside0.mk A280
      clear A280
      have H' := Aside0.mk H
      clear H
      have p669 : 0 ≤ (x27_1 : Int) := of_decide_eq_true (by first | (with_reducible assumption) | assumption)
      have q669 : x27_1 < (l0_4.length : Int) := of_decide_eq_true (by first | (with_reducible assumption) | assumption)
      obtain ⟨ad669, A669_2, c669_2, e669, hx669_0, hx669_1, hx669_2, hl669_2, hi669_2⟩ := at_T58 HR0_4.out x27_1 p669 q669
      cases e669
      replace hx669_0 := (HB.out.cell (World.block_lt_of_cell? w _ hx669_0)).trans hx669_0
      replace hx669_1 := (HB.out.cell (World.block_lt_of_cell? w _ hx669_1)).trans hx669_1
      replace hx669_2 := (HB.out.cell (World.block_lt_of_cell? w _ hx669_2)).trans hx669_2
      have HR669_2 := Aside0.mk hi669_2
      have HC669_2 := Aside0.mk hl669_2
      clear hi669_2 hl669_2
      replace p669 := eq_true p669
      replace q669 := eq_true q669
      try go_wp2_with (first | ((with_reducible refine gate_dst (N := 5) rfl ?_); refine box_event ?hg (N := 5) ?hd (cs := #[.string (⟨#[]⟩ : ByteArray), .int .i64 0, .slice none 0 0]) (t := 58) ?hr ?_; (case hd => rfl); (case hg => rfl); (case hr => first | (go_simp; done) | (go_simp; rfl)); intro gb670 hg w29 hbox hb; have n0_ := Aside0.mk (Kd.V_below (Kd.V_elderB (HO_3.out) gb670 (Nat.le_of_eq hg.symm)) hb); have n1_ := Aside0.mk (blk_below (g := gb650) (o := .cells #[.int .i64 a0_0, .int .i64 a0_1, .slice A0_2 l0_2.length c0_2, .slice A0_3 l0_3.length c0_3, .slice (some ad669) l0_4.length c0_4] 48 (0, 0)) (BK650.out) hb); have n2_ := Aside0.mk (below_step (HB.out) hb); have n3_ := Aside0.mk (hbox); have n4_ := Aside0.mk ((by rw [hg]; exact (below_size (HB.out)) : w.heap.size ≤ gb670)); have n5_ := Aside0.mk ((by rw [hg]; exact (below_size (HB.out)) : w.heap.size ≤ gb670)); have n6_ := Aside0.mk ((by rw [hg]; exact Nat.ne_of_lt (blk_lt (g := gb650) (o := .cells #[.int .i64 a0_0, .int .i64 a0_1, .slice A0_2 l0_2.length c0_2, .slice A0_3 l0_3.length c0_3, .slice (some ad669) l0_4.length c0_4] 48 (0, 0)) (BK650.out)) : gb650 ≠ gb670)); have n7_ := Aside0.mk ((by rw [hg]; exact Nat.ne_of_gt (blk_lt (g := gb650) (o := .cells #[.int .i64 a0_0, .int .i64 a0_1, .slice A0_2 l0_2.length c0_2, .slice A0_3 l0_3.length c0_3, .slice (some ad669) l0_4.length c0_4] 48 (0, 0)) (BK650.out)) : gb670 ≠ gb650)); clear HO_3; clear BK650; clear HB; have HO_3 := n0_; have BK650 := n1_; have HB := n2_; have BK670 := n3_; have GW670 := n4_; have GE670 := n5_; have NB650_670 := n6_; have NB670_650 := n7_; clear n0_ n1_ n2_ n3_ n4_ n5_ n6_ n7_; clear hb hbox hg; have hnb30 := NB670_650.out; have hnc30 := NB650_670.out; have hcz31_0 : w29.cell? ⟨gb670, 0, none⟩ = some (.string (⟨#[]⟩ : ByteArray)) := (blk_cell BK670.out 0).trans rfl; have hcz31_1 : w29.cell? ⟨gb670, 1, none⟩ = some (.int .i64 0) := (blk_cell BK670.out 1).trans rfl; have hcz31_2 : w29.cell? ⟨gb670, 2, none⟩ = some (.slice none 0 0) := (blk_cell BK670.out 2).trans rfl; have hfz31_0 := blk_frozen BK670.out 0; have hfz31_1 := blk_frozen BK670.out 1; have hfz31_2 := blk_frozen BK670.out 2; obtain ⟨Ao32, co32, eo32⟩ := Kd.V_slice HO_3.out; subst eo32))
      have n0_ : Aside0 (Kd.V (Kd.int .u8) 5 (((w29.setCell ⟨gb670, 0, none⟩ (.string ((rd_T58 l0_4 x27_1).f0))).setCell ⟨gb670, 1, none⟩ (.int .i64 ((rd_T58 l0_4 x27_1).f1))).setCell ⟨gb670, 2, none⟩ (.slice A669_2 ((rd_T58 l0_4 x27_1).f2).length c669_2)) w.heap.size (fun k_ => (w.heap.size ≤ k_) ∧ k_ ≠ gb650 ∧ k_ ≠ gb670) (.slice Ao32 x3_1.length co32) x3_1) := ⟨Kd.V_mono (Kd.V_far (p := ⟨gb670, 2, none⟩) (Kd.V_far (p := ⟨gb670, 1, none⟩) (Kd.V_far (p := ⟨gb670, 0, none⟩) (Kd.V_mono HO_3.out (fun k_ hk => (⟨hk, hk.2⟩ : _ ∧ k_ ≠ gb670))) (fun _ hk => hk.2) (.string ((rd_T58 l0_4 x27_1).f0))) (fun _ hk => hk.2) (.int .i64 ((rd_T58 l0_4 x27_1).f1))) (fun _ hk => hk.2) (.slice A669_2 ((rd_T58 l0_4 x27_1).f2).length c669_2)) (fun _ hk => ⟨hk.1.1.1, ⟨hk.1.1.2, hk.1.2⟩⟩)⟩
      have n1_ : Aside0 ((((w29.setCell ⟨gb670, 0, none⟩ (.string ((rd_T58 l0_4 x27_1).f0))).setCell ⟨gb670, 1, none⟩ (.int .i64 ((rd_T58 l0_4 x27_1).f1))).setCell ⟨gb670, 2, none⟩ (.slice A669_2 ((rd_T58 l0_4 x27_1).f2).length c669_2)).heap[gb650]? = some (.cells #[.int .i64 a0_0, .int .i64 a0_1, .slice A0_2 l0_2.length c0_2, .slice A0_3 l0_3.length c0_3, .slice (some ad669) l0_4.length c0_4] 48 (0, 0))) := ⟨by refine blk_far ?_ NB650_670.out _; refine blk_far ?_ NB650_670.out _; refine blk_far ?_ NB650_670.out _; exact BK650.out⟩
      have n2_ : Aside0 ((((w29.setCell ⟨gb670, 0, none⟩ (.string ((rd_T58 l0_4 x27_1).f0))).setCell ⟨gb670, 1, none⟩ (.int .i64 ((rd_T58 l0_4 x27_1).f1))).setCell ⟨gb670, 2, none⟩ (.slice A669_2 ((rd_T58 l0_4 x27_1).f2).length c669_2)).heap[gb670]? = some (.cells #[.string ((rd_T58 l0_4 x27_1).f0), .int .i64 ((rd_T58 l0_4 x27_1).f1), .slice A669_2 ((rd_T58 l0_4 x27_1).f2).length c669_2] 58 (0, 0))) := ⟨by refine blk_put (cs := #[.string ((rd_T58 l0_4 x27_1).f0), .int .i64 ((rd_T58 l0_4 x27_1).f1), .slice none 0 0]) ?_ 2 _ rfl; refine blk_put (cs := #[.string ((rd_T58 l0_4 x27_1).f0), .int .i64 0, .slice none 0 0]) ?_ 1 _ rfl; refine blk_put (cs := #[.string (⟨#[]⟩ : ByteArray), .int .i64 0, .slice none 0 0]) ?_ 0 _ rfl; exact BK670.out⟩
      have n3_ : Aside0 (Below w.heap.size w (((w29.setCell ⟨gb670, 0, none⟩ (.string ((rd_T58 l0_4 x27_1).f0))).setCell ⟨gb670, 1, none⟩ (.int .i64 ((rd_T58 l0_4 x27_1).f1))).setCell ⟨gb670, 2, none⟩ (.slice A669_2 ((rd_T58 l0_4 x27_1).f2).length c669_2))) := ⟨by repeat (first | (with_reducible first | exact HB.out | apply below_alloc | apply pw_below_drewN | apply below_drew1 | refine below_set ?_ GE650.out | refine below_set ?_ GE670.out) | exact HB.out)⟩
      (try clear HO_3)
      (try clear BK650)
      (try clear BK670)
      (try clear HB)
      generalize (((w29.setCell ⟨gb670, 0, none⟩ (.string ((rd_T58 l0_4 x27_1).f0))).setCell ⟨gb670, 1, none⟩ (.int .i64 ((rd_T58 l0_4 x27_1).f1))).setCell ⟨gb670, 2, none⟩ (.slice A669_2 ((rd_T58 l0_4 x27_1).f2).length c669_2)) = w33 at n0_ n1_ n2_ n3_ ⊢
      have HO_3 := n0_
      have BK650 := n1_
      have BK670 := n2_
      have HB := n3_
      clear n0_ n1_ n2_ n3_
      have n0_ := Aside0.mk (Kd.V_drew HO_3.out)
      have n1_ := Aside0.mk (blk_drew BK650.out)
      have n2_ := Aside0.mk (blk_drew BK670.out)
      have n3_ := Aside0.mk (below_drew1 HB.out)
      clear HO_3
      clear BK650
      clear BK670
      clear HB
      have HO_3 := n0_
      have BK650 := n1_
      have BK670 := n2_
      have HB := n3_
      clear n0_ n1_ n2_ n3_
      refine start_ (n := 12) (S := fun w' => w'.cell? ⟨gb670, 0, none⟩ = some (.string ((rd_T58 l0_4 x27_1).f0)) ∧ w'.cell? ⟨gb670, 1, none⟩ = some (.int .i64 ((rd_T58 l0_4 x27_1).f1)) ∧ w'.cell? ⟨gb670, 2, none⟩ = some (.slice A669_2 ((rd_T58 l0_4 x27_1).f2).length c669_2)) (ds := []) #[false, false, false, false, false, false, false, false, false, false, false, false] (by kernel_rfl) rfl rfl ⟨(blk_cell BK670.out 0).trans rfl, (blk_cell BK670.out 1).trans rfl, (blk_cell BK670.out 2).trans rfl⟩ (fun hHeld => ?_); refine with_tabW msg_written.tab6 msg_written.bits6 (fun HT_ HW_ => ?_)
      generalize w33.drew = w34 at HO_3 BK650 BK670 HB hHeld ⊢
      refine pure_ (i := 0) (N := some 31) (v := ?_) (a' := ?_) #[true, false, false, false, false, false, false, false, false, false, false, false] rfl rfl (any_of HT_.out (by kernel_rfl)) (fun _ _ _ h => h) (Or.inl ⟨by rfl, ?_⟩) ?_ ?_
      rotate_left
      ·intro w'
       go_simp
       with_reducible rfl
      rotate_left
      ·simp only [Act.put, List.setIfInBounds_toArray, List.set_cons_zero, List.set_cons_succ, i64_w, i32_w]
       rfl
      refine pure_ (i := 1) (N := some 32) (v := ?_) (a' := ?_) #[true, true, false, false, false, false, false, false, false, false, false, false] rfl rfl (any_of HT_.out (by kernel_rfl)) (fun _ _ _ h => h) (Or.inl ⟨by rfl, ?_⟩) ?_ ?_
      rotate_left
      ·intro w'
       go_simp
       with_reducible rfl
      rotate_left
      ·simp only [Act.put, List.setIfInBounds_toArray, List.set_cons_zero, List.set_cons_succ, i64_w, i32_w]
       rfl
      refine pure_ (i := 4) (N := some 35) (v := ?_) (a' := ?_) #[true, true, false, false, true, false, false, false, false, false, false, false] rfl rfl (any_of HT_.out (by kernel_rfl)) (fun _ _ _ h => h) (Or.inl ⟨by rfl, ?_⟩) ?_ ?_
      rotate_left
      ·intro w'
       go_simp
       with_reducible rfl
      rotate_left
      ·simp only [Act.put, List.setIfInBounds_toArray, List.set_cons_zero, List.set_cons_succ, i64_w, i32_w]
       rfl
      refine pure_ (i := 8) (N := some 39) (v := ?_) (a' := ?_) #[true, true, false, false, true, false, false, false, true, false, false, false] rfl rfl (any_of HT_.out (by kernel_rfl)) (fun _ _ _ h => h) (Or.inl ⟨by rfl, ?_⟩) ?_ ?_
      rotate_left
      ·intro w'
       go_simp
       with_reducible rfl
      rotate_left
      ·simp only [Act.put, List.setIfInBounds_toArray, List.set_cons_zero, List.set_cons_succ, i64_w, i32_w]
       rfl
      refine take_ (i := 2) (N := some 33) (v := ?_) (a' := ?_) #[true, true, true, false, true, false, false, false, true, false, false, false] rfl rfl (take_ofW HT_.out HW_.out (by kernel_rfl)) (fun _ _ _ h => h) (Or.inl ⟨by rfl, ?_⟩) hHeld ?_ ?_
      rotate_left
      ·rintro w' ⟨s0, s1, s2⟩
       go_simp
       with_reducible rfl
      rotate_left
      ·simp only [Act.put, List.setIfInBounds_toArray, List.set_cons_zero, List.set_cons_succ, i64_w, i32_w]
       rfl
      refine take_ (i := 5) (N := some 36) (v := ?_) (a' := ?_) #[true, true, true, false, true, true, false, false, true, false, false, false] rfl rfl (take_ofW HT_.out HW_.out (by kernel_rfl)) (fun _ _ _ h => h) (Or.inl ⟨by rfl, ?_⟩) hHeld ?_ ?_
      rotate_left
      ·rintro w' ⟨s0, s1, s2⟩
       go_simp
       with_reducible rfl
      rotate_left
      ·simp only [Act.put, List.setIfInBounds_toArray, List.set_cons_zero, List.set_cons_succ, i64_w, i32_w]
       rfl
      refine take_ (i := 9) (N := some 40) (v := ?_) (a' := ?_) #[true, true, true, false, true, true, false, false, true, true, false, false] rfl rfl (take_ofW HT_.out HW_.out (by kernel_rfl)) (fun _ _ _ h => h) (Or.inl ⟨by rfl, ?_⟩) hHeld ?_ ?_
      rotate_left
      ·rintro w' ⟨s0, s1, s2⟩
       go_simp
       with_reducible rfl
      rotate_left
      ·simp only [Act.put, List.setIfInBounds_toArray, List.set_cons_zero, List.set_cons_succ, i64_w, i32_w]
       rfl
      refine join_ (σ := Value × Value) 3 #[true, true, true, true, true, true, true, false, true, true, false, false] (fun s_ => [(34, s_.1), (37, s_.2)]) (fun s_ w' => (w'.cell? ⟨gb670, 0, none⟩ = some (.string ((rd_T58 l0_4 x27_1).f0)) ∧ w'.cell? ⟨gb670, 1, none⟩ = some (.int .i64 ((rd_T58 l0_4 x27_1).f1)) ∧ w'.cell? ⟨gb670, 2, none⟩ = some (.slice A669_2 ((rd_T58 l0_4 x27_1).f2).length c669_2)) ∧ (Kd.R (Kd.int .u8) 5 w' w.heap.size (fun k_ => (w.heap.size ≤ k_)) s_.1 t671) ∧ (Kd.R (Kd.int .i64) 3 w' w.heap.size (fun k_ => (w.heap.size ≤ k_)) s_.2 y674) ∧ (Kd.V (Kd.int .u8) 5 w' w.heap.size (fun k_ => (w.heap.size ≤ k_) ∧ some k_ ≠ (s_.1 : Value).ownBlock ∧ some k_ ≠ (s_.2 : Value).ownBlock ∧ k_ ≠ gb650 ∧ k_ ≠ gb670) (.slice Ao32 x3_1.length co32) x3_1) ∧ (w'.heap[gb650]? = some (.cells #[.int .i64 a0_0, .int .i64 a0_1, .slice A0_2 l0_2.length c0_2, .slice A0_3 l0_3.length c0_3, .slice (some ad669) l0_4.length c0_4] 48 (0, 0))) ∧ (w'.heap[gb670]? = some (.cells #[.string ((rd_T58 l0_4 x27_1).f0), .int .i64 ((rd_T58 l0_4 x27_1).f1), .slice A669_2 ((rd_T58 l0_4 x27_1).f2).length c669_2] 58 (0, 0))) ∧ (Below w.heap.size w w')) ?_ ?_
      rotate_left
      ·intro hCont
       refine two_ (i := 3) (j := 6) (Ni := some 34) (Nj := some 37) #[true, true, true, true, true, true, false, false, true, true, false, false] #[true, true, true, false, true, true, true, false, true, true, false, false] rfl rfl rfl rfl (two_of HT_.out (by kernel_rfl)) (by decide) (by decide) (fun K hK => ?_) (fun K hK => ?_)
       ·skip
        refine goes_ Try.func31 (by kernel_rfl) rfl #[.slice Ao32 x3_1.length co32, .string ((rd_T58 l0_4 x27_1).f0)] (by rfl) rfl rfl (by (try simp only [List.map_toArray, List.map_cons, List.map_nil]); first | done | rfl | (simp only [List.length_drop, List.length_take]; rfl)) ?_
        with_reducible refine (wire_Text.calls k1 _ _ x3_1 ((rd_T58 l0_4 x27_1).f0) t671 _ ?side1 ?side2 A26.out).mono ?_
        (case side1 => repeat (first | exact (Kd.V_reads' HO_3.out).2.2 | (with_reducible refine Kd.C_alloc ?_ _) | (with_reducible refine Kd.C_drewN ?_ _) | (with_reducible refine Kd.C_drew ?_)))
        (case side2 => exact (Kd.V_reads' HO_3.out).2.1)
        rintro e w35 ⟨v672, rfl, ho0, hb⟩
        refine ⟨_, rfl, ?_⟩
        have n0_ := Aside0.mk (Kd.V_elder' (HO_3.out) (Kd.R_base ho0) hb)
        have n1_ := Aside0.mk (Kd.R_lower (Kd.R_newM (M := fun k_ => (w.heap.size ≤ k_)) ho0 (below_size (HB.out)) (fun k_ h_ => h_)) (below_size (HB.out)))
        have n2_ := Aside0.mk (blk_below (g := gb650) (o := .cells #[.int .i64 a0_0, .int .i64 a0_1, .slice A0_2 l0_2.length c0_2, .slice A0_3 l0_3.length c0_3, .slice (some ad669) l0_4.length c0_4] 48 (0, 0)) (BK650.out) hb)
        have n3_ := Aside0.mk (blk_below (g := gb670) (o := .cells #[.string ((rd_T58 l0_4 x27_1).f0), .int .i64 ((rd_T58 l0_4 x27_1).f1), .slice A669_2 ((rd_T58 l0_4 x27_1).f2).length c669_2] 58 (0, 0)) (BK670.out) hb)
        have n4_ := Aside0.mk (below_step (HB.out) hb)
        clear HO_3
        clear BK650
        clear BK670
        clear HB
        have HO_3 := n0_
        have HO673 := n1_
        have BK650 := n2_
        have BK670 := n3_
        have HB := n4_
        clear n0_ n1_ n2_ n3_ n4_
        (try clear hb)
        (try clear hb2)
        (try clear hk)
        (try clear hi)
        (try clear ho0)
        refine hK.out _ _ ⟨(blk_cell BK670.out 0).trans rfl, (blk_cell BK670.out 1).trans rfl, (blk_cell BK670.out 2).trans rfl⟩ (fun hHeld => ?_)
        clear hK K
        refine norm_ (a' := ?_) ?_ ?_
        rotate_left
        ·show Act.put _ (some 34) _ = _
         simp only [Act.put, List.setIfInBounds_toArray, List.set_cons_zero, List.set_cons_succ, i64_w, i32_w]
         rfl
        refine one_ (i := 6) (N := some 37) #[true, true, true, true, true, true, true, false, true, true, false, false] rfl rfl (one_of HT_.out (by kernel_rfl)) (by decide) (fun K hK => ?_)
        refine Kd.R_lit_step (Kd.int .i64) _ 3 ?hg (N := 37) ?hd (xs := ([(rd_T58 l0_4 x27_1).f1] : List Int)) (inner := [.int .i64 ((rd_T58 l0_4 x27_1).f1)]) (ok := fun _ => True) (okp := fun _ => True) ?hr ?hp (fun _ hk => hk) trivial (Below.refl _ _) (Nat.le_refl _) (by simp) ?_; (case hd => rfl); (case hg => rfl); (case hr => first | (go_simp; done) | (go_simp; rfl)); (case hp => exact (Reps.one (show Kd.M (Kd.int .i64) _ _ _ ((rd_T58 l0_4 x27_1).f1) [.int .i64 ((rd_T58 l0_4 x27_1).f1)] from rfl) (Reps.none _ _)))
        intro v675 w36 ho37 hb hg_ hnew_
        clear hg_ hnew_
        (first | rw [← Ny674.out] at ho37 | (simp only [Int.reduceToNat] at ho37; rw [← Ny674.out] at ho37))
        have n0_ := Aside0.mk (Kd.V_elder' (HO_3.out) (Kd.R_base ho37) hb)
        have n1_ := Aside0.mk (Kd.R_below (HO673.out) hb)
        have n2_ := Aside0.mk (Kd.R_lower (Kd.R_newM (M := fun k_ => (w.heap.size ≤ k_)) ho37 (below_size (HB.out)) (fun k_ h_ => h_)) (below_size (HB.out)))
        have n3_ := Aside0.mk (blk_below (g := gb650) (o := .cells #[.int .i64 a0_0, .int .i64 a0_1, .slice A0_2 l0_2.length c0_2, .slice A0_3 l0_3.length c0_3, .slice (some ad669) l0_4.length c0_4] 48 (0, 0)) (BK650.out) hb)
        have n4_ := Aside0.mk (blk_below (g := gb670) (o := .cells #[.string ((rd_T58 l0_4 x27_1).f0), .int .i64 ((rd_T58 l0_4 x27_1).f1), .slice A669_2 ((rd_T58 l0_4 x27_1).f2).length c669_2] 58 (0, 0)) (BK670.out) hb)
        have n5_ := Aside0.mk (below_step (HB.out) hb)
        clear HO_3
        clear HO673
        clear BK650
        clear BK670
        clear HB
        have HO_3 := n0_
        have HO673 := n1_
        have HO676 := n2_
        have BK650 := n3_
        have BK670 := n4_
        have HB := n5_
        clear n0_ n1_ n2_ n3_ n4_ n5_
        clear hb ho37
        refine hK.out _ _ ⟨(blk_cell BK670.out 0).trans rfl, (blk_cell BK670.out 1).trans rfl, (blk_cell BK670.out 2).trans rfl⟩ (fun hHeld => ?_)
        clear hK K
        refine norm_ (a' := ?_) ?_ ?_
        rotate_left
        ·show Act.put _ (some 37) _ = _
         simp only [Act.put, List.setIfInBounds_toArray, List.set_cons_zero, List.set_cons_succ, i64_w, i32_w]
         rfl
        exact norm_ (by simp only [putAll, Act.put, List.setIfInBounds_toArray, List.set_cons_zero, List.set_cons_succ]) (hCont (v672, v675) _ ⟨hHeld, (Kd.R_mono HO673.out (fun _ hk => hk.1)), (Kd.R_mono HO676.out (fun _ hk => hk.1)), (Kd.V_mono HO_3.out (fun _ hk => ⟨hk.1.1.1, ⟨hk.1.2, ⟨hk.2, ⟨hk.1.1.2.1, hk.1.1.2.2⟩⟩⟩⟩)), (BK650.out), (BK670.out), (HB.out)⟩)
       ·skip
        refine Kd.R_lit_step (Kd.int .i64) _ 3 ?hg (N := 37) ?hd (xs := ([(rd_T58 l0_4 x27_1).f1] : List Int)) (inner := [.int .i64 ((rd_T58 l0_4 x27_1).f1)]) (ok := fun _ => True) (okp := fun _ => True) ?hr ?hp (fun _ hk => hk) trivial (Below.refl _ _) (Nat.le_refl _) (by simp) ?_; (case hd => rfl); (case hg => rfl); (case hr => first | (go_simp; done) | (go_simp; rfl)); (case hp => exact (Reps.one (show Kd.M (Kd.int .i64) _ _ _ ((rd_T58 l0_4 x27_1).f1) [.int .i64 ((rd_T58 l0_4 x27_1).f1)] from rfl) (Reps.none _ _)))
        intro v675 w35 ho36 hb hg_ hnew_
        clear hg_ hnew_
        (first | rw [← Ny674.out] at ho36 | (simp only [Int.reduceToNat] at ho36; rw [← Ny674.out] at ho36))
        have n0_ := Aside0.mk (Kd.V_elder' (HO_3.out) (Kd.R_base ho36) hb)
        have n1_ := Aside0.mk (Kd.R_lower (Kd.R_newM (M := fun k_ => (w.heap.size ≤ k_)) ho36 (below_size (HB.out)) (fun k_ h_ => h_)) (below_size (HB.out)))
        have n2_ := Aside0.mk (blk_below (g := gb650) (o := .cells #[.int .i64 a0_0, .int .i64 a0_1, .slice A0_2 l0_2.length c0_2, .slice A0_3 l0_3.length c0_3, .slice (some ad669) l0_4.length c0_4] 48 (0, 0)) (BK650.out) hb)
        have n3_ := Aside0.mk (blk_below (g := gb670) (o := .cells #[.string ((rd_T58 l0_4 x27_1).f0), .int .i64 ((rd_T58 l0_4 x27_1).f1), .slice A669_2 ((rd_T58 l0_4 x27_1).f2).length c669_2] 58 (0, 0)) (BK670.out) hb)
        have n4_ := Aside0.mk (below_step (HB.out) hb)
        clear HO_3
        clear BK650
        clear BK670
        clear HB
        have HO_3 := n0_
        have HO676 := n1_
        have BK650 := n2_
        have BK670 := n3_
        have HB := n4_
        clear n0_ n1_ n2_ n3_ n4_
        clear hb ho36
        refine hK.out _ _ ⟨(blk_cell BK670.out 0).trans rfl, (blk_cell BK670.out 1).trans rfl, (blk_cell BK670.out 2).trans rfl⟩ (fun hHeld => ?_)
        clear hK K
        refine norm_ (a' := ?_) ?_ ?_
        rotate_left
        ·show Act.put _ (some 37) _ = _
         simp only [Act.put, List.setIfInBounds_toArray, List.set_cons_zero, List.set_cons_succ, i64_w, i32_w]
         rfl
        refine one_ (i := 3) (N := some 34) #[true, true, true, true, true, true, true, false, true, true, false, false] rfl rfl (one_of HT_.out (by kernel_rfl)) (by decide) (fun K hK => ?_)
        refine goes_ Try.func31 (by kernel_rfl) rfl #[.slice Ao32 x3_1.length co32, .string ((rd_T58 l0_4 x27_1).f0)] (by rfl) rfl rfl (by (try simp only [List.map_toArray, List.map_cons, List.map_nil]); first | done | rfl | (simp only [List.length_drop, List.length_take]; rfl)) ?_
        with_reducible refine (wire_Text.calls k1 _ _ x3_1 ((rd_T58 l0_4 x27_1).f0) t671 _ ?side1 ?side2 A26.out).mono ?_
        (case side1 => repeat (first | exact (Kd.V_reads' HO_3.out).2.2 | (with_reducible refine Kd.C_alloc ?_ _) | (with_reducible refine Kd.C_drewN ?_ _) | (with_reducible refine Kd.C_drew ?_)))
        (case side2 => exact (Kd.V_reads' HO_3.out).2.1)
        rintro e w37 ⟨v672, rfl, ho0, hb⟩
        refine ⟨_, rfl, ?_⟩
        have n0_ := Aside0.mk (Kd.V_elder' (HO_3.out) (Kd.R_base ho0) hb)
        have n1_ := Aside0.mk (Kd.R_below (HO676.out) hb)
        have n2_ := Aside0.mk (Kd.R_lower (Kd.R_newM (M := fun k_ => (w.heap.size ≤ k_)) ho0 (below_size (HB.out)) (fun k_ h_ => h_)) (below_size (HB.out)))
        have n3_ := Aside0.mk (blk_below (g := gb650) (o := .cells #[.int .i64 a0_0, .int .i64 a0_1, .slice A0_2 l0_2.length c0_2, .slice A0_3 l0_3.length c0_3, .slice (some ad669) l0_4.length c0_4] 48 (0, 0)) (BK650.out) hb)
        have n4_ := Aside0.mk (blk_below (g := gb670) (o := .cells #[.string ((rd_T58 l0_4 x27_1).f0), .int .i64 ((rd_T58 l0_4 x27_1).f1), .slice A669_2 ((rd_T58 l0_4 x27_1).f2).length c669_2] 58 (0, 0)) (BK670.out) hb)
        have n5_ := Aside0.mk (below_step (HB.out) hb)
        clear HO_3
        clear HO676
        clear BK650
        clear BK670
        clear HB
        have HO_3 := n0_
        have HO676 := n1_
        have HO673 := n2_
        have BK650 := n3_
        have BK670 := n4_
        have HB := n5_
        clear n0_ n1_ n2_ n3_ n4_ n5_
        (try clear hb)
        (try clear hb2)
        (try clear hk)
        (try clear hi)
        (try clear ho0)
        refine hK.out _ _ ⟨(blk_cell BK670.out 0).trans rfl, (blk_cell BK670.out 1).trans rfl, (blk_cell BK670.out 2).trans rfl⟩ (fun hHeld => ?_)
        clear hK K
        refine norm_ (a' := ?_) ?_ ?_
        rotate_left
        ·show Act.put _ (some 34) _ = _
         simp only [Act.put, List.setIfInBounds_toArray, List.set_cons_zero, List.set_cons_succ, i64_w, i32_w]
         rfl
        exact norm_ (by simp only [putAll, Act.put, List.setIfInBounds_toArray, List.set_cons_zero, List.set_cons_succ]) (hCont (v672, v675) _ ⟨hHeld, (Kd.R_mono HO673.out (fun _ hk => hk.1)), (Kd.R_mono HO676.out (fun _ hk => hk.1)), (Kd.V_mono HO_3.out (fun _ hk => ⟨hk.1.1.1, ⟨hk.2, ⟨hk.1.2, ⟨hk.1.1.2.1, hk.1.1.2.2⟩⟩⟩⟩)), (BK650.out), (BK670.out), (HB.out)⟩)
      rintro ⟨v672, v675⟩ w38 ⟨hS_, h0_, h1_, h2_, h3_, h4_, h5_⟩
      have n0_ : Aside0 (Kd.R (Kd.int .u8) 5 w38 w.heap.size (fun k_ => (w.heap.size ≤ k_)) v672 t671) := ⟨h0_⟩
      have n1_ : Aside0 (Kd.R (Kd.int .i64) 3 w38 w.heap.size (fun k_ => (w.heap.size ≤ k_)) v675 y674) := ⟨h1_⟩
      have n2_ : Aside0 (Kd.V (Kd.int .u8) 5 w38 w.heap.size (fun k_ => (w.heap.size ≤ k_) ∧ some k_ ≠ (v672 : Value).ownBlock ∧ some k_ ≠ (v675 : Value).ownBlock ∧ k_ ≠ gb650 ∧ k_ ≠ gb670) (.slice Ao32 x3_1.length co32) x3_1) := ⟨h2_⟩
      have n3_ : Aside0 (w38.heap[gb650]? = some (.cells #[.int .i64 a0_0, .int .i64 a0_1, .slice A0_2 l0_2.length c0_2, .slice A0_3 l0_3.length c0_3, .slice (some ad669) l0_4.length c0_4] 48 (0, 0))) := ⟨h3_⟩
      have n4_ : Aside0 (w38.heap[gb670]? = some (.cells #[.string ((rd_T58 l0_4 x27_1).f0), .int .i64 ((rd_T58 l0_4 x27_1).f1), .slice A669_2 ((rd_T58 l0_4 x27_1).f2).length c669_2] 58 (0, 0))) := ⟨h4_⟩
      have n5_ : Aside0 (Below w.heap.size w w38) := ⟨h5_⟩
      clear HO_3
      clear BK650
      clear BK670
      clear HB
      clear h0_ h1_ h2_ h3_ h4_ h5_
      have HO673 := n0_
      have HO676 := n1_
      have HO_3 := n2_
      have BK650 := n3_
      have BK670 := n4_
      have HB := n5_
      clear n0_ n1_ n2_ n3_ n4_ n5_
      have hHeld : w38.cell? ⟨gb670, 0, none⟩ = some (.string ((rd_T58 l0_4 x27_1).f0)) ∧ w38.cell? ⟨gb670, 1, none⟩ = some (.int .i64 ((rd_T58 l0_4 x27_1).f1)) ∧ w38.cell? ⟨gb670, 2, none⟩ = some (.slice A669_2 ((rd_T58 l0_4 x27_1).f2).length c669_2) := hS_
      obtain ⟨Ao39, co39, eo39⟩ := Kd.R_slice HO673.out
      (first | subst eo39 | (injection eo39 with f1_ f2_ f3_; have f4_ := f1_.symm; have f5_ := f3_.symm; clear f1_ f2_ f3_; subst f4_; subst f5_))
      obtain ⟨Ao40, co40, eo40⟩ := Kd.R_slice HO676.out
      (first | subst eo40 | (injection eo40 with f1_ f2_ f3_; have f4_ := f1_.symm; have f5_ := f3_.symm; clear f1_ f2_ f3_; subst f4_; subst f5_))
      refine norm_ (a' := ?_) ?_ ?_
      rotate_left
      ·simp only [putAll, Act.put, List.setIfInBounds_toArray, List.set_cons_zero, List.set_cons_succ]
       rfl
      refine one_ (i := 7) (N := some 38) #[true, true, true, true, true, true, true, true, true, true, false, false] rfl rfl (one_of HT_.out (by kernel_rfl)) (by decide) (fun K hK => ?_)
      refine goes_ Try.func32 (by kernel_rfl) rfl #[.slice Ao39 t671.length co39, .slice Ao40 y674.length co40] (by rfl) rfl rfl (by (try simp only [List.map_toArray, List.map_cons, List.map_nil]); first | done | rfl | (simp only [List.length_drop, List.length_take]; rfl)) ?_
      with_reducible refine (msg_numbers.calls k1 (fun k_ => some k_ = (.slice Ao39 t671.length co39 : Value).ownBlock) _ _ t671 _ _ y674 t677 _ ?side1 ?side2 ?side3 A27.out).mono ?_
      (case side1 => exact Kd.R_V (Kd.R_tight rfl (Kd.R_types (Kd.R_types (Kd.R_apart' (HO673.out) (Kd.R_typed HO676.out) (by decide)) BK650.out (by decide)) BK670.out (by decide))))
      (case side2 => repeat (first | exact (Kd.R_reads' HO676.out).2.2 | (with_reducible refine Kd.C_alloc ?_ _) | (with_reducible refine Kd.C_drewN ?_ _) | (with_reducible refine Kd.C_drew ?_)))
      (case side3 => exact (Kd.R_reads' HO676.out).2.1)
      rintro e w41 ⟨v678, rfl, ho0, hb⟩
      refine ⟨_, rfl, ?_⟩
      have n0_ := Aside0.mk (Kd.V_below (HO_3.out) hb)
      have n1_ := Aside0.mk (Kd.R_below (HO673.out) hb)
      have n2_ := Aside0.mk (Kd.R_below (HO676.out) hb)
      have n3_ := Aside0.mk (Kd.V_lower (Kd.V_mono (ok' := fun k_ => (w.heap.size ≤ k_) ∧ some k_ ≠ (.slice Ao40 y674.length co40 : Value).ownBlock ∧ k_ ≠ gb650 ∧ k_ ≠ gb670) ho0 (fun k_ hk_ => ⟨Or.elim hk_ (fun hs_ => ((Kd.R_types (Kd.R_types (Kd.R_apart' (HO673.out) (Kd.R_typed HO676.out) (by decide)) BK650.out (by decide)) BK670.out (by decide)).1 k_ hs_.symm).1.1.1) (fun hn_ => (Nat.le_trans (below_size (HB.out)) hn_)), Or.elim hk_ (fun hs_ => ((Kd.R_types (Kd.R_types (Kd.R_apart' (HO673.out) (Kd.R_typed HO676.out) (by decide)) BK650.out (by decide)) BK670.out (by decide)).1 k_ hs_.symm).1.1.2) (fun hn_ => (Kd.fresh' (Kd.R_lt (HO676.out)) k_ hn_)), Or.elim hk_ (fun hs_ => ((Kd.R_types (Kd.R_types (Kd.R_apart' (HO673.out) (Kd.R_typed HO676.out) (by decide)) BK650.out (by decide)) BK670.out (by decide)).1 k_ hs_.symm).1.2) (fun hn_ => (Kd.freshB (g := gb650) (o := .cells #[.int .i64 a0_0, .int .i64 a0_1, .slice A0_2 l0_2.length c0_2, .slice A0_3 l0_3.length c0_3, .slice (some ad669) l0_4.length c0_4] 48 (0, 0)) (BK650.out) k_ hn_)), Or.elim hk_ (fun hs_ => ((Kd.R_types (Kd.R_types (Kd.R_apart' (HO673.out) (Kd.R_typed HO676.out) (by decide)) BK650.out (by decide)) BK670.out (by decide)).1 k_ hs_.symm).2) (fun hn_ => (Kd.freshB (g := gb670) (o := .cells #[.string ((rd_T58 l0_4 x27_1).f0), .int .i64 ((rd_T58 l0_4 x27_1).f1), .slice A669_2 ((rd_T58 l0_4 x27_1).f2).length c669_2] 58 (0, 0)) (BK670.out) k_ hn_))⟩)) (below_size (HB.out)))
      have n4_ := Aside0.mk (blk_below (g := gb650) (o := .cells #[.int .i64 a0_0, .int .i64 a0_1, .slice A0_2 l0_2.length c0_2, .slice A0_3 l0_3.length c0_3, .slice (some ad669) l0_4.length c0_4] 48 (0, 0)) (BK650.out) hb)
      have n5_ := Aside0.mk (blk_below (g := gb670) (o := .cells #[.string ((rd_T58 l0_4 x27_1).f0), .int .i64 ((rd_T58 l0_4 x27_1).f1), .slice A669_2 ((rd_T58 l0_4 x27_1).f2).length c669_2] 58 (0, 0)) (BK670.out) hb)
      have n6_ := Aside0.mk (below_step (HB.out) hb)
      clear HO_3
      clear HO673
      clear HO676
      clear BK650
      clear BK670
      clear HB
      have HO_3 := n0_
      have HO673 := n1_
      have HO676 := n2_
      have HO679 := n3_
      have BK650 := n4_
      have BK670 := n5_
      have HB := n6_
      clear n0_ n1_ n2_ n3_ n4_ n5_ n6_
      (try clear hb)
      (try clear hb2)
      (try clear hk)
      (try clear hi)
      (try clear ho0)
      obtain ⟨Ao42, co42, eo42⟩ := Kd.V_slice HO679.out
      (first | subst eo42 | (injection eo42 with f1_ f2_ f3_; have f4_ := f1_.symm; have f5_ := f3_.symm; clear f1_ f2_ f3_; subst f4_; subst f5_))
      refine hK.out _ _ ⟨(blk_cell BK670.out 0).trans rfl, (blk_cell BK670.out 1).trans rfl, (blk_cell BK670.out 2).trans rfl⟩ (fun hHeld => ?_)
      clear hK K
      refine norm_ (a' := ?_) ?_ ?_
      rotate_left
      ·show Act.put _ (some 38) _ = _
       simp only [Act.put, List.setIfInBounds_toArray, List.set_cons_zero, List.set_cons_succ, i64_w, i32_w]
       rfl
      refine one_ (i := 10) (N := some 41) #[true, true, true, true, true, true, true, true, true, true, true, false] rfl rfl (one_of HT_.out (by kernel_rfl)) (by decide) (fun K hK => ?_)
      refine goes_ Try.func71 (by kernel_rfl) rfl #[.slice Ao42 t677.length co42, .slice A669_2 ((rd_T58 l0_4 x27_1).f2).length c669_2] (by rfl) rfl rfl (by (try simp only [List.map_toArray, List.map_cons, List.map_nil]); first | done | rfl | (simp only [List.length_drop, List.length_take]; rfl)) ?_
      with_reducible refine (msg_list.calls k1 (fun k_ => ((w.heap.size ≤ k_) ∧ (some k_ ≠ (.slice Ao40 y674.length co40 : Value).ownBlock ∧ (k_ ≠ gb650 ∧ k_ ≠ gb670)))) _ _ t677 _ _ ((rd_T58 l0_4 x27_1).f2) t680 _ ?side1 ?side2 ?side3 A28.out).mono ?_
      (case side1 => exact HO679.out)
      (case side2 => repeat (first | exact (Kd.C_below HR669_2.out HB.out) | (with_reducible refine Kd.C_alloc ?_ _) | (with_reducible refine Kd.C_drewN ?_ _) | (with_reducible refine Kd.C_drew ?_)))
      (case side3 => exact HC669_2.out)
      rintro e w43 ⟨v681, rfl, ho0, hb⟩
      refine ⟨_, rfl, ?_⟩
      have n0_ := Aside0.mk (Kd.V_below (HO_3.out) hb)
      have n1_ := Aside0.mk (Kd.R_below (HO673.out) hb)
      have n2_ := Aside0.mk (Kd.R_below (HO676.out) hb)
      have n3_ := Aside0.mk (Kd.V_below (HO679.out) hb)
      have n4_ := Aside0.mk (Kd.V_lower (Kd.V_mono (ok' := fun k_ => (w.heap.size ≤ k_) ∧ some k_ ≠ (.slice Ao40 y674.length co40 : Value).ownBlock ∧ k_ ≠ gb650 ∧ k_ ≠ gb670) ho0 (fun k_ hk_ => ⟨Or.elim hk_ (fun hs_ => hs_.1) (fun hn_ => (Nat.le_trans (below_size (HB.out)) hn_)), Or.elim hk_ (fun hs_ => hs_.2.1) (fun hn_ => (Kd.fresh' (Kd.R_lt (HO676.out)) k_ hn_)), Or.elim hk_ (fun hs_ => hs_.2.2.1) (fun hn_ => (Kd.freshB (g := gb650) (o := .cells #[.int .i64 a0_0, .int .i64 a0_1, .slice A0_2 l0_2.length c0_2, .slice A0_3 l0_3.length c0_3, .slice (some ad669) l0_4.length c0_4] 48 (0, 0)) (BK650.out) k_ hn_)), Or.elim hk_ (fun hs_ => hs_.2.2.2) (fun hn_ => (Kd.freshB (g := gb670) (o := .cells #[.string ((rd_T58 l0_4 x27_1).f0), .int .i64 ((rd_T58 l0_4 x27_1).f1), .slice A669_2 ((rd_T58 l0_4 x27_1).f2).length c669_2] 58 (0, 0)) (BK670.out) k_ hn_))⟩)) (below_size (HB.out)))
      have n5_ := Aside0.mk (blk_below (g := gb650) (o := .cells #[.int .i64 a0_0, .int .i64 a0_1, .slice A0_2 l0_2.length c0_2, .slice A0_3 l0_3.length c0_3, .slice (some ad669) l0_4.length c0_4] 48 (0, 0)) (BK650.out) hb)
      have n6_ := Aside0.mk (blk_below (g := gb670) (o := .cells #[.string ((rd_T58 l0_4 x27_1).f0), .int .i64 ((rd_T58 l0_4 x27_1).f1), .slice A669_2 ((rd_T58 l0_4 x27_1).f2).length c669_2] 58 (0, 0)) (BK670.out) hb)
      have n7_ := Aside0.mk (below_step (HB.out) hb)
      clear HO_3
      clear HO673
      clear HO676
      clear HO679
      clear BK650
      clear BK670
      clear HB
      have HO_3 := n0_
      have HO673 := n1_
      have HO676 := n2_
      have HO679 := n3_
      have HO682 := n4_
      have BK650 := n5_
      have BK670 := n6_
      have HB := n7_
      clear n0_ n1_ n2_ n3_ n4_ n5_ n6_ n7_
      (try clear hb)
      (try clear hb2)
      (try clear hk)
      (try clear hi)
      (try clear ho0)
      refine hK.out _ _ ⟨(blk_cell BK670.out 0).trans rfl, (blk_cell BK670.out 1).trans rfl, (blk_cell BK670.out 2).trans rfl⟩ (fun hHeld => ?_)
      clear hK K
      refine norm_ (a' := ?_) ?_ ?_
      rotate_left
      ·show Act.put _ (some 41) _ = _
       simp only [Act.put, List.setIfInBounds_toArray, List.set_cons_zero, List.set_cons_succ, i64_w, i32_w]
       rfl
      refine pure_ (i := 11) (N := some 3) (v := ?_) (a' := ?_) #[true, true, true, true, true, true, true, true, true, true, true, true] rfl rfl (any_of HT_.out (by kernel_rfl)) (fun _ _ _ h => h) (Or.inl ⟨by rfl, ?_⟩) ?_ ?_
      rotate_left
      ·intro w'
       go_simp
       with_reducible rfl
      rotate_left
      ·simp only [Act.put, List.setIfInBounds_toArray, List.set_cons_zero, List.set_cons_succ, i64_w, i32_w]
       rfl
      refine done_ (done_of HT_.out (by kernel_rfl)) ?_
      try go_wp2
      go_roundg k1
      case measure => have := HK1.out; omega
      case rel => exact ⟨(t680), (wrap64 (x27_1 + 1)), (by first | rfl | (simp; done) | (simp [*]; done)), H', ⟨by have := HK1.out; omega⟩, ⟨Kd.V_mono HO682.out (fun _ hk => ⟨hk.1, hk.2.2.1⟩)⟩, ⟨BK650.out⟩, ⟨HB.out⟩⟩
     ·rw [if_neg c25] at H
      exact absurd H (by simp)
    ·rw [if_neg c24] at H
     exact absurd H (by simp)
   ·rw [if_neg c23] at H
    have c23b0 : decide (x27_1 < (l0_4.length : Int)) = false := decide_eq_false c23
    clear c23
    obtain rfl := Option.some.inj H
    go_wp2
    go_ret
    exact ⟨_, by first | rfl | (simp [errW_none, errW_some] <;> rfl) | (simp [*, errW_none, errW_some] <;> rfl), Kd.V_mono HO_3.out (fun _ hk => hk.1), HB.out⟩
end Go.Proofs.Ytpbbgbikebcnbaa.Ms
