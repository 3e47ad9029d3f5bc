-- Cut by a program of this session (wip/shake.py) out of a text of this seat: what this claim doesn't reach is struck out. Lean checks it.
import Derived.Test.YtpbbgbikebcnbaaMsx0Cp
import Derived.Test.YtpbbgbikebcnbaaMsx5Cp
import Derived.Test.YtpbbgbikebcnbaaMsx7Cp
import Derived.Test.YtpbbgbikebcnbaaMsx8Cp
import Derived.Test.YtpbbgbikebcnbaaMsx17Cp
namespace Go.Proofs.Ytpbbgbikebcnbaa.Ms
open Go.RowKit Go.Proofs.YtpbbgbikebcnbaaW.PrintWords Go.Proofs.YtpbbgbikebcnbaaW.PrintLast Go.Proofs.YtpbbgbikebcnbaaW.PrintMore
attribute [local go_sem] max2_int min2_int max_two min_two max_three min_three max_four min_four   -- for this text's walks alone
set_option linter.unusedVariables false
set_option linter.unusedSimpArgs false
attribute [local go_sem] eqlErr neqErr eqlErrNil neqErrNil
open Go.Proofs.Ytpbbgbikebcnbaa.Mw
def becketlaw12_MsgApart.j0 : Nat → Bool → Bool → Int → Int → Int → Int → ByteArray → List (S95) → List (S61) → Int → Int → Int → Int → ByteArray → List (S95) → List (S61) → Option (Bool)
  | 0, _, _, _, _, _, _, _, _, _, _, _, _, _, _, _, _ => none
  | k + 1, x5, x6, x487000, x487001, x487002, x487003, x487004, x487005, x487006, x488000, x488001, x488002, x488003, x488004, x488005, x488006 => if x6 = true then ((msg_Put.f k x487000 x487001 x487002 x487003 x487004 x487005 x487006).bind fun bt491 => ((msg_Put.f k x488000 x488001 x488002 x488003 x488004 x488005 x488006).bind fun bt495 => (if bt491.2.isNone = true then (if bt495.2.isNone = true then (if x5 = true then ((becketref12_Same.f x487000 x487001 x487002 x487003 x487004 x487005 x487006 x488000 x488001 x488002 x488003 x488004 x488005 x488006).bind fun t501 => (some (((strOfNums bt491.1).toList == (strOfNums bt495.1).toList) == t501))) else (some false)) else (some x5)) else (some x5)))) else (some x5)
def becketlaw12_MsgApart.f (k : Nat) (a0_0 : Int) (a0_1 : Int) (a0_2 : Int) (a0_3 : Int) (a0_4 : ByteArray) (l0_5 : List (S95)) (l0_6 : List (S61)) (a1_0 : Int) (a1_1 : Int) (a1_2 : Int) (a1_3 : Int) (a1_4 : ByteArray) (l1_5 : List (S95)) (l1_6 : List (S61)) : Option (Bool) := (becketlaw12_up.f k).bind fun t488 => ((becketref12_Short.f k a0_0 a0_1 a0_2 a0_3 a0_4 l0_5 l0_6).bind fun t489 => (if t489 = true then ((becketref12_Short.f k a1_0 a1_1 a1_2 a1_3 a1_4 l1_5 l1_6).bind fun t490 => (becketlaw12_MsgApart.j0 k t488 t490 a0_0 a0_1 a0_2 a0_3 a0_4 l0_5 l0_6 a1_0 a1_1 a1_2 a1_3 a1_4 l1_5 l1_6)) else (becketlaw12_MsgApart.j0 k t488 false a0_0 a0_1 a0_2 a0_3 a0_4 l0_5 l0_6 a1_0 a1_1 a1_2 a1_3 a1_4 l1_5 l1_6)))
def becketlaw12_MsgApart.T9 : Bool × List (List Nat × List Nat) := (true, [([], []), ([0], [0]), ([1], [1]), ([2, 1], [1, 2]), ([1], [1]), ([4, 1], [1, 4]), ([3, 5, 1], [1, 3, 5]), ([1], [1]), ([1], [1]), ([7, 8, 1, 1], [1, 7, 8]), ([6, 9, 1], [1, 6, 9]), ([1, 10], [1, 10]), ([11, 9, 0, 1, 2, 3, 4, 5, 6, 7, 8, 9, 10, 11], [11])])
def becketlaw12_MsgApart.B9 : List Nat := [0, 1, 3, 7, 3, 19, 63, 3, 3, 387, 1023, 2047, 4095]
theorem becketlaw12_MsgApart.tab9 : rtab .any (opsOf Try.f7 9) = becketlaw12_MsgApart.T9 := by kernel_rfl
theorem becketlaw12_MsgApart.bits9 : waitsOk becketlaw12_MsgApart.T9.2 becketlaw12_MsgApart.B9 = true := by kernel_rfl
theorem V_string_becketlaw12_MsgApart {P : Program} {w : World} {base E : Nat} {ok : Nat → Prop} {src dst e : TypeId} {v : Value} {xs : List Int} (hs : P.underlying src = some (.slice e)) (he : P.underlying e = some (.int .u8)) (hd : P.underlying dst = some .string) (h : (Kd.int .u8).V E w base ok v xs) : (convert src dst v).run P w = .ok (.string (strOfNums xs)) w := by
  obtain ⟨A, c, rfl, hc, hF⟩ := h
  exact Kd.C_string hs he hd (Kd.F_now hF)
set_option maxHeartbeats 8000000 in
set_option maxRecDepth 100000 in
theorem becketlaw12_MsgApart.calls (k : Nat) (a0_0 : Int) (a0_1 : Int) (a0_2 : Int) (a0_3 : Int) (a0_4 : ByteArray) (A0_5 : Option Addr) (c0_5 : Nat) (l0_5 : List (S95)) (A0_6 : Option Addr) (c0_6 : Nat) (l0_6 : List (S61)) (a1_0 : Int) (a1_1 : Int) (a1_2 : Int) (a1_3 : Int) (a1_4 : ByteArray) (A1_5 : Option Addr) (c1_5 : Nat) (l1_5 : List (S95)) (A1_6 : Option Addr) (c1_6 : Nat) (l1_6 : List (S61)) (r : Bool) (w : World) (hr0_5 : Kd.C k95 w A0_5 l0_5.length l0_5) (hc0_5 : l0_5.length ≤ c0_5) (hr0_6 : Kd.C k61 w A0_6 l0_6.length l0_6) (hc0_6 : l0_6.length ≤ c0_6) (hr1_5 : Kd.C k95 w A1_5 l1_5.length l1_5) (hc1_5 : l1_5.length ≤ c1_5) (hr1_6 : Kd.C k61 w A1_6 l1_6.length l1_6) (hc1_6 : l1_6.length ≤ c1_6) (h : becketlaw12_MsgApart.f k a0_0 a0_1 a0_2 a0_3 a0_4 l0_5 l0_6 a1_0 a1_1 a1_2 a1_3 a1_4 l1_5 l1_6 = some r) :
    Calls Try.prog 7 #[.agg #[.int .i64 a0_0, .int .i64 a0_1, .int .i64 a0_2, .int .i64 a0_3, .string a0_4, .slice A0_5 l0_5.length c0_5, .slice A0_6 l0_6.length c0_6], .agg #[.int .i64 a1_0, .int .i64 a1_1, .int .i64 a1_2, .int .i64 a1_3, .string a1_4, .slice A1_5 l1_5.length c1_5, .slice A1_6 l1_6.length c1_6]] w fun e w' => e = .returned (.bool r) ∧ Below w.heap.size w w' := by
  have hu25 := Try.underlying25
  have hu29 := Try.underlying29
  have hu34 := Try.underlying34
  have HR0_5 := Aside0.mk hr0_5
  have HC0_5 := Aside0.mk hc0_5
  clear hr0_5 hc0_5
  have HR0_6 := Aside0.mk hr0_6
  have HC0_6 := Aside0.mk hc0_6
  clear hr0_6 hc0_6
  have HR1_5 := Aside0.mk hr1_5
  have HC1_5 := Aside0.mk hc1_5
  clear hr1_5 hc1_5
  have HR1_6 := Aside0.mk hr1_6
  have HC1_6 := Aside0.mk hc1_6
  clear hr1_6 hc1_6
  have HB := Aside0.mk (Below.refl w.heap.size w)
  have H : ((becketlaw12_up.f k).bind fun t488 => ((becketref12_Short.f k a0_0 a0_1 a0_2 a0_3 a0_4 l0_5 l0_6).bind fun t489 => (if t489 = true then ((becketref12_Short.f k a1_0 a1_1 a1_2 a1_3 a1_4 l1_5 l1_6).bind fun t490 => (becketlaw12_MsgApart.j0 k t488 t490 a0_0 a0_1 a0_2 a0_3 a0_4 l0_5 l0_6 a1_0 a1_1 a1_2 a1_3 a1_4 l1_5 l1_6)) else (becketlaw12_MsgApart.j0 k t488 false a0_0 a0_1 a0_2 a0_3 a0_4 l0_5 l0_6 a1_0 a1_1 a1_2 a1_3 a1_4 l1_5 l1_6)))) = some r := h
  clear h
  replace H := Option.bind_eq_some_iff.mp H
  obtain ⟨t488, A30, H⟩ := H
  replace H : ((becketref12_Short.f k a0_0 a0_1 a0_2 a0_3 a0_4 l0_5 l0_6).bind fun t489 => (if t489 = true then ((becketref12_Short.f k a1_0 a1_1 a1_2 a1_3 a1_4 l1_5 l1_6).bind fun t490 => (becketlaw12_MsgApart.j0 k t488 t490 a0_0 a0_1 a0_2 a0_3 a0_4 l0_5 l0_6 a1_0 a1_1 a1_2 a1_3 a1_4 l1_5 l1_6)) else (becketlaw12_MsgApart.j0 k t488 false a0_0 a0_1 a0_2 a0_3 a0_4 l0_5 l0_6 a1_0 a1_1 a1_2 a1_3 a1_4 l1_5 l1_6))) = some r := H
  have A3 := Aside0.mk A30
  clear A30
  have HC4 := Aside0.mk H
  clear H
  go_enter Try.func7, Try.ntmps7
  go_upto_region 2 with (first | ((with_reducible refine gate_dst (N := 2) rfl ?_); refine box_event ?hg (N := 2) ?hd (cs := #[.int .i64 a0_0, .int .i64 a0_1, .int .i64 a0_2, .int .i64 a0_3, .string a0_4, .slice A0_5 l0_5.length c0_5, .slice A0_6 l0_6.length c0_6]) (t := 25) ?hr ?_; (case hd => rfl); (case hg => rfl); (case hr => first | (go_simp; done) | (go_simp; rfl)); intro gb486 hg w5 hbox hb; have n0_ := Aside0.mk (below_step (by repeat (first | (with_reducible first | exact HB.out | apply below_alloc | apply pw_below_drewN | apply below_drew1) | exact HB.out)) hb); have n1_ := Aside0.mk (hbox); have n2_ := Aside0.mk ((by rw [hg]; exact (below_size (by repeat (first | (with_reducible first | exact HB.out | apply below_alloc | apply pw_below_drewN | apply below_drew1) | exact HB.out))) : w.heap.size ≤ gb486)); have n3_ := Aside0.mk ((by rw [hg]; exact (below_size (by repeat (first | (with_reducible first | exact HB.out | apply below_alloc | apply pw_below_drewN | apply below_drew1) | exact HB.out))) : w.heap.size ≤ gb486)); clear HB; have HB := n0_; have BK486 := n1_; have GW486 := n2_; have GE486 := n3_; clear n0_ n1_ n2_ n3_; clear hb hbox hg) | ((with_reducible refine gate_dst (N := 3) rfl ?_); refine box_event ?hg (N := 3) ?hd (cs := #[.int .i64 a1_0, .int .i64 a1_1, .int .i64 a1_2, .int .i64 a1_3, .string a1_4, .slice A1_5 l1_5.length c1_5, .slice A1_6 l1_6.length c1_6]) (t := 25) ?hr ?_; (case hd => rfl); (case hg => rfl); (case hr => first | (go_simp; done) | (go_simp; rfl)); intro gb487 hg w6 hbox hb; have n0_ := Aside0.mk (blk_below (g := gb486) (o := .cells #[.int .i64 a0_0, .int .i64 a0_1, .int .i64 a0_2, .int .i64 a0_3, .string a0_4, .slice A0_5 l0_5.length c0_5, .slice A0_6 l0_6.length c0_6] 25 (0, 0)) (by (with_reducible repeat (first | refine blk_drewN ?_ _ | refine blk_drew ?_ | refine blk_alloc ?_ _)); exact BK486.out) hb); have n1_ := Aside0.mk (below_step (by repeat (first | (with_reducible first | exact HB.out | apply below_alloc | apply pw_below_drewN | apply below_drew1 | refine below_set ?_ GE486.out) | exact HB.out)) hb); have n2_ := Aside0.mk (hbox); have n3_ := Aside0.mk ((by rw [hg]; exact (below_size (by repeat (first | (with_reducible first | exact HB.out | apply below_alloc | apply pw_below_drewN | apply below_drew1 | refine below_set ?_ GE486.out) | exact HB.out))) : w.heap.size ≤ gb487)); have n4_ := Aside0.mk ((by rw [hg]; exact (below_size (by repeat (first | (with_reducible first | exact HB.out | apply below_alloc | apply pw_below_drewN | apply below_drew1 | refine below_set ?_ GE486.out) | exact HB.out))) : w.heap.size ≤ gb487)); have n5_ := Aside0.mk ((by rw [hg]; exact Nat.ne_of_lt (blk_lt (g := gb486) (o := .cells #[.int .i64 a0_0, .int .i64 a0_1, .int .i64 a0_2, .int .i64 a0_3, .string a0_4, .slice A0_5 l0_5.length c0_5, .slice A0_6 l0_6.length c0_6] 25 (0, 0)) (by (with_reducible repeat (first | refine blk_drewN ?_ _ | refine blk_drew ?_ | refine blk_alloc ?_ _)); exact BK486.out)) : gb486 ≠ gb487)); have n6_ := Aside0.mk ((by rw [hg]; exact Nat.ne_of_gt (blk_lt (g := gb486) (o := .cells #[.int .i64 a0_0, .int .i64 a0_1, .int .i64 a0_2, .int .i64 a0_3, .string a0_4, .slice A0_5 l0_5.length c0_5, .slice A0_6 l0_6.length c0_6] 25 (0, 0)) (by (with_reducible repeat (first | refine blk_drewN ?_ _ | refine blk_drew ?_ | refine blk_alloc ?_ _)); exact BK486.out)) : gb487 ≠ gb486)); clear BK486; clear HB; have BK486 := n0_; have HB := n1_; have BK487 := n2_; have GW487 := n3_; have GE487 := n4_; have NB486_487 := n5_; have NB487_486 := n6_; clear n0_ n1_ n2_ n3_ n4_ n5_ n6_; clear hb hbox hg) | ((with_reducible refine gate_callee (f := 10) rfl ?_); refine goesL_ (some 11) rfl rfl Try.func10 (by kernel_rfl) rfl #[] rfl (by (try simp only [List.map_toArray, List.map_cons, List.map_nil]); first | done | rfl | (simp only [List.length_drop, List.length_take]; rfl)) ?_; (with_reducible refine (becketlaw12_up.calls k  t488 _ A3.out).mono ?_); rintro e w7 ⟨rfl, hb⟩; refine ⟨_, rfl, ?_⟩; have n0_ := Aside0.mk (blk_below (g := gb486) (o := .cells #[.int .i64 a0_0, .int .i64 a0_1, .int .i64 a0_2, .int .i64 a0_3, .string a0_4, .slice A0_5 l0_5.length c0_5, .slice A0_6 l0_6.length c0_6] 25 (0, 0)) (by (with_reducible repeat (first | refine blk_drewN ?_ _ | refine blk_drew ?_ | refine blk_alloc ?_ _)); exact BK486.out) hb); have n1_ := Aside0.mk (blk_below (g := gb487) (o := .cells #[.int .i64 a1_0, .int .i64 a1_1, .int .i64 a1_2, .int .i64 a1_3, .string a1_4, .slice A1_5 l1_5.length c1_5, .slice A1_6 l1_6.length c1_6] 25 (0, 0)) (by (with_reducible repeat (first | refine blk_drewN ?_ _ | refine blk_drew ?_ | refine blk_alloc ?_ _)); exact BK487.out) hb); have n2_ := Aside0.mk (below_step (by repeat (first | (with_reducible first | exact HB.out | apply below_alloc | apply pw_below_drewN | apply below_drew1 | refine below_set ?_ GE486.out | refine below_set ?_ GE487.out) | exact HB.out)) hb); clear BK486; clear BK487; clear HB; have BK486 := n0_; have BK487 := n1_; have HB := n2_; clear n0_ n1_ n2_; (try clear hb); (try clear hb2); (try clear hk); (try clear hi)))
  (try simp only [Act.put, List.setIfInBounds_toArray, List.set_cons_zero, List.set_cons_succ])
  go_cut [6] (fun v6 wc => ∃ (kq : Nat) (x6_3 : Bool), v6 = .bool x6_3 ∧ Aside0 (becketlaw12_MsgApart.j0 kq t488 x6_3 a0_0 a0_1 a0_2 a0_3 a0_4 l0_5 l0_6 a1_0 a1_1 a1_2 a1_3 a1_4 l1_5 l1_6 = some r) ∧ Aside0 (kq ≤ k) ∧ Aside0 (wc.heap[gb486]? = some (.cells #[.int .i64 a0_0, .int .i64 a0_1, .int .i64 a0_2, .int .i64 a0_3, .string a0_4, (.slice A0_5 l0_5.length c0_5), (.slice A0_6 l0_6.length c0_6)] 25 (0, 0))) ∧ Aside0 (wc.heap[gb487]? = some (.cells #[.int .i64 a1_0, .int .i64 a1_1, .int .i64 a1_2, .int .i64 a1_3, .string a1_4, (.slice A1_5 l1_5.length c1_5), (.slice A1_6 l1_6.length c1_6)] 25 (0, 0))) ∧ Aside0 (Below w.heap.size w wc))
  case first =>
    have H := HC4.out
    clear HC4
    replace H := Option.bind_eq_some_iff.mp H
    obtain ⟨t489, A80, H⟩ := H
    replace H : (if t489 = true then ((becketref12_Short.f k a1_0 a1_1 a1_2 a1_3 a1_4 l1_5 l1_6).bind fun t490 => (becketlaw12_MsgApart.j0 k t488 t490 a0_0 a0_1 a0_2 a0_3 a0_4 l0_5 l0_6 a1_0 a1_1 a1_2 a1_3 a1_4 l1_5 l1_6)) else (becketlaw12_MsgApart.j0 k t488 false a0_0 a0_1 a0_2 a0_3 a0_4 l0_5 l0_6 a1_0 a1_1 a1_2 a1_3 a1_4 l1_5 l1_6)) = some r := H
    have A8 := Aside0.mk A80
    clear A80
    by_cases c9 : t489 = true
    · subst c9
      have H1 : ((becketref12_Short.f k a1_0 a1_1 a1_2 a1_3 a1_4 l1_5 l1_6).bind fun t490 => (becketlaw12_MsgApart.j0 k t488 t490 a0_0 a0_1 a0_2 a0_3 a0_4 l0_5 l0_6 a1_0 a1_1 a1_2 a1_3 a1_4 l1_5 l1_6)) = some r := by first | (rw [if_pos rfl] at H; with_reducible exact H) | exact (if_pos rfl).symm.trans H | (simp only [if_true, eq_self_iff_true] at H ⊢; exact H)
      clear H
      have H := H1
      clear H1
      replace H := Option.bind_eq_some_iff.mp H
      obtain ⟨t490, A100, H⟩ := H
      replace H : (becketlaw12_MsgApart.j0 k t488 t490 a0_0 a0_1 a0_2 a0_3 a0_4 l0_5 l0_6 a1_0 a1_1 a1_2 a1_3 a1_4 l1_5 l1_6) = some r := H
      have A10 := Aside0.mk A100
      clear A100
      have H' := Aside0.mk H
      clear H
      have hnb11 := NB486_487.out
      have hnc11 := NB487_486.out
      have hcz12_0 : w7.cell? ⟨gb486, 0, none⟩ = some (.int .i64 a0_0) := (blk_cell BK486.out 0).trans rfl
      have hcz12_1 : w7.cell? ⟨gb486, 1, none⟩ = some (.int .i64 a0_1) := (blk_cell BK486.out 1).trans rfl
      have hcz12_2 : w7.cell? ⟨gb486, 2, none⟩ = some (.int .i64 a0_2) := (blk_cell BK486.out 2).trans rfl
      have hcz12_3 : w7.cell? ⟨gb486, 3, none⟩ = some (.int .i64 a0_3) := (blk_cell BK486.out 3).trans rfl
      have hcz12_4 : w7.cell? ⟨gb486, 4, none⟩ = some (.string a0_4) := (blk_cell BK486.out 4).trans rfl
      have hcz12_5 : w7.cell? ⟨gb486, 5, none⟩ = some (.slice A0_5 l0_5.length c0_5) := (blk_cell BK486.out 5).trans rfl
      have hcz12_6 : w7.cell? ⟨gb486, 6, none⟩ = some (.slice A0_6 l0_6.length c0_6) := (blk_cell BK486.out 6).trans rfl
      have hfz12_0 := blk_frozen BK486.out 0
      have hfz12_1 := blk_frozen BK486.out 1
      have hfz12_2 := blk_frozen BK486.out 2
      have hfz12_3 := blk_frozen BK486.out 3
      have hfz12_4 := blk_frozen BK486.out 4
      have hfz12_5 := blk_frozen BK486.out 5
      have hfz12_6 := blk_frozen BK486.out 6
      go_wp2_with (first | ((with_reducible refine gate_callee (f := 11) rfl ?_); refine goesL_ (some 13) rfl rfl Try.func11 (by kernel_rfl) rfl #[.agg #[.int .i64 a0_0, .int .i64 a0_1, .int .i64 a0_2, .int .i64 a0_3, .string a0_4, .slice A0_5 l0_5.length c0_5, .slice A0_6 l0_6.length c0_6]] rfl (by (try simp only [List.map_toArray, List.map_cons, List.map_nil]); first | done | rfl | (simp only [List.length_drop, List.length_take]; rfl)) ?_; (with_reducible refine (becketref12_Short.calls k a0_0 a0_1 a0_2 a0_3 a0_4 _ _ l0_5 _ _ l0_6 true _ ?side1 ?side2 ?side3 ?side4 A8.out).mono ?_); (case side1 => repeat (first | exact (Kd.C_below HR0_5.out HB.out) | (with_reducible refine Kd.C_alloc ?_ _) | (with_reducible refine Kd.C_drewN ?_ _) | (with_reducible refine Kd.C_drew ?_))); (case side2 => exact HC0_5.out); (case side3 => repeat (first | exact (Kd.C_below HR0_6.out HB.out) | (with_reducible refine Kd.C_alloc ?_ _) | (with_reducible refine Kd.C_drewN ?_ _) | (with_reducible refine Kd.C_drew ?_))); (case side4 => exact HC0_6.out); rintro e w13 ⟨rfl, hb⟩; refine ⟨_, rfl, ?_⟩; have n0_ := Aside0.mk (blk_below (g := gb486) (o := .cells #[.int .i64 a0_0, .int .i64 a0_1, .int .i64 a0_2, .int .i64 a0_3, .string a0_4, .slice A0_5 l0_5.length c0_5, .slice A0_6 l0_6.length c0_6] 25 (0, 0)) (by (with_reducible repeat (first | refine blk_drewN ?_ _ | refine blk_drew ?_ | refine blk_alloc ?_ _)); exact BK486.out) hb); have n1_ := Aside0.mk (blk_below (g := gb487) (o := .cells #[.int .i64 a1_0, .int .i64 a1_1, .int .i64 a1_2, .int .i64 a1_3, .string a1_4, .slice A1_5 l1_5.length c1_5, .slice A1_6 l1_6.length c1_6] 25 (0, 0)) (by (with_reducible repeat (first | refine blk_drewN ?_ _ | refine blk_drew ?_ | refine blk_alloc ?_ _)); exact BK487.out) hb); have n2_ := Aside0.mk (below_step (by repeat (first | (with_reducible first | exact HB.out | apply below_alloc | apply pw_below_drewN | apply below_drew1 | refine below_set ?_ GE486.out | refine below_set ?_ GE487.out) | exact HB.out)) hb); clear BK486; clear BK487; clear HB; have BK486 := n0_; have BK487 := n1_; have HB := n2_; clear n0_ n1_ n2_; (try clear hb); (try clear hb2); (try clear hk); (try clear hi); have hcz14_0 : w13.cell? ⟨gb487, 0, none⟩ = some (.int .i64 a1_0) := (blk_cell BK487.out 0).trans rfl; have hcz14_1 : w13.cell? ⟨gb487, 1, none⟩ = some (.int .i64 a1_1) := (blk_cell BK487.out 1).trans rfl; have hcz14_2 : w13.cell? ⟨gb487, 2, none⟩ = some (.int .i64 a1_2) := (blk_cell BK487.out 2).trans rfl; have hcz14_3 : w13.cell? ⟨gb487, 3, none⟩ = some (.int .i64 a1_3) := (blk_cell BK487.out 3).trans rfl; have hcz14_4 : w13.cell? ⟨gb487, 4, none⟩ = some (.string a1_4) := (blk_cell BK487.out 4).trans rfl; have hcz14_5 : w13.cell? ⟨gb487, 5, none⟩ = some (.slice A1_5 l1_5.length c1_5) := (blk_cell BK487.out 5).trans rfl; have hcz14_6 : w13.cell? ⟨gb487, 6, none⟩ = some (.slice A1_6 l1_6.length c1_6) := (blk_cell BK487.out 6).trans rfl; have hfz14_0 := blk_frozen BK487.out 0; have hfz14_1 := blk_frozen BK487.out 1; have hfz14_2 := blk_frozen BK487.out 2; have hfz14_3 := blk_frozen BK487.out 3; have hfz14_4 := blk_frozen BK487.out 4; have hfz14_5 := blk_frozen BK487.out 5; have hfz14_6 := blk_frozen BK487.out 6) | (go_at_call 11; (with_reducible refine (becketref12_Short.calls k a1_0 a1_1 a1_2 a1_3 a1_4 _ _ l1_5 _ _ l1_6 t490 _ ?side1 ?side2 ?side3 ?side4 A10.out).mono ?_); (case side1 => repeat (first | exact (Kd.C_below HR1_5.out HB.out) | (with_reducible refine Kd.C_alloc ?_ _) | (with_reducible refine Kd.C_drewN ?_ _) | (with_reducible refine Kd.C_drew ?_))); (case side2 => exact HC1_5.out); (case side3 => repeat (first | exact (Kd.C_below HR1_6.out HB.out) | (with_reducible refine Kd.C_alloc ?_ _) | (with_reducible refine Kd.C_drewN ?_ _) | (with_reducible refine Kd.C_drew ?_))); (case side4 => exact HC1_6.out); rintro e w15 ⟨rfl, hb⟩; have n0_ := Aside0.mk (blk_below (g := gb486) (o := .cells #[.int .i64 a0_0, .int .i64 a0_1, .int .i64 a0_2, .int .i64 a0_3, .string a0_4, .slice A0_5 l0_5.length c0_5, .slice A0_6 l0_6.length c0_6] 25 (0, 0)) (by (with_reducible repeat (first | refine blk_drewN ?_ _ | refine blk_drew ?_ | refine blk_alloc ?_ _)); exact BK486.out) hb); have n1_ := Aside0.mk (blk_below (g := gb487) (o := .cells #[.int .i64 a1_0, .int .i64 a1_1, .int .i64 a1_2, .int .i64 a1_3, .string a1_4, .slice A1_5 l1_5.length c1_5, .slice A1_6 l1_6.length c1_6] 25 (0, 0)) (by (with_reducible repeat (first | refine blk_drewN ?_ _ | refine blk_drew ?_ | refine blk_alloc ?_ _)); exact BK487.out) hb); have n2_ := Aside0.mk (below_step (by repeat (first | (with_reducible first | exact HB.out | apply below_alloc | apply pw_below_drewN | apply below_drew1 | refine below_set ?_ GE486.out | refine below_set ?_ GE487.out) | exact HB.out)) hb); clear BK486; clear BK487; clear HB; have BK486 := n0_; have BK487 := n1_; have HB := n2_; clear n0_ n1_ n2_; (try clear hb); (try clear hb2); (try clear hk); (try clear hi)))
      go_meet
      case rel => exact ⟨_, (t490), (by first | rfl | (simp; done) | (simp [*]; done)), H', ⟨by first | omega | exact Nat.le_refl _⟩, ⟨by (with_reducible repeat (first | refine blk_drewN ?_ _ | refine blk_drew ?_ | refine blk_alloc ?_ _)); exact BK486.out⟩, ⟨by (with_reducible repeat (first | refine blk_drewN ?_ _ | refine blk_drew ?_ | refine blk_alloc ?_ _)); exact BK487.out⟩, ⟨by repeat (first | (with_reducible first | exact HB.out | apply below_alloc | apply pw_below_drewN | apply below_drew1 | refine below_set ?_ GE486.out | refine below_set ?_ GE487.out) | exact HB.out)⟩⟩
    · replace c9 := Bool.eq_false_iff.mpr c9
      subst c9
      have H1 : (becketlaw12_MsgApart.j0 k t488 false a0_0 a0_1 a0_2 a0_3 a0_4 l0_5 l0_6 a1_0 a1_1 a1_2 a1_3 a1_4 l1_5 l1_6) = some r := by rw [if_neg (show ¬ (false = true) by decide)] at H; exact H
      clear H
      have H := H1
      clear H1
      have H' := Aside0.mk H
      clear H
      have hnb16 := NB486_487.out
      have hnc16 := NB487_486.out
      have hcz17_0 : w7.cell? ⟨gb486, 0, none⟩ = some (.int .i64 a0_0) := (blk_cell BK486.out 0).trans rfl
      have hcz17_1 : w7.cell? ⟨gb486, 1, none⟩ = some (.int .i64 a0_1) := (blk_cell BK486.out 1).trans rfl
      have hcz17_2 : w7.cell? ⟨gb486, 2, none⟩ = some (.int .i64 a0_2) := (blk_cell BK486.out 2).trans rfl
      have hcz17_3 : w7.cell? ⟨gb486, 3, none⟩ = some (.int .i64 a0_3) := (blk_cell BK486.out 3).trans rfl
      have hcz17_4 : w7.cell? ⟨gb486, 4, none⟩ = some (.string a0_4) := (blk_cell BK486.out 4).trans rfl
      have hcz17_5 : w7.cell? ⟨gb486, 5, none⟩ = some (.slice A0_5 l0_5.length c0_5) := (blk_cell BK486.out 5).trans rfl
      have hcz17_6 : w7.cell? ⟨gb486, 6, none⟩ = some (.slice A0_6 l0_6.length c0_6) := (blk_cell BK486.out 6).trans rfl
      have hfz17_0 := blk_frozen BK486.out 0
      have hfz17_1 := blk_frozen BK486.out 1
      have hfz17_2 := blk_frozen BK486.out 2
      have hfz17_3 := blk_frozen BK486.out 3
      have hfz17_4 := blk_frozen BK486.out 4
      have hfz17_5 := blk_frozen BK486.out 5
      have hfz17_6 := blk_frozen BK486.out 6
      go_wp2_with (first | ((with_reducible refine gate_callee (f := 11) rfl ?_); refine goesL_ (some 13) rfl rfl Try.func11 (by kernel_rfl) rfl #[.agg #[.int .i64 a0_0, .int .i64 a0_1, .int .i64 a0_2, .int .i64 a0_3, .string a0_4, .slice A0_5 l0_5.length c0_5, .slice A0_6 l0_6.length c0_6]] rfl (by (try simp only [List.map_toArray, List.map_cons, List.map_nil]); first | done | rfl | (simp only [List.length_drop, List.length_take]; rfl)) ?_; (with_reducible refine (becketref12_Short.calls k a0_0 a0_1 a0_2 a0_3 a0_4 _ _ l0_5 _ _ l0_6 false _ ?side1 ?side2 ?side3 ?side4 A8.out).mono ?_); (case side1 => repeat (first | exact (Kd.C_below HR0_5.out HB.out) | (with_reducible refine Kd.C_alloc ?_ _) | (with_reducible refine Kd.C_drewN ?_ _) | (with_reducible refine Kd.C_drew ?_))); (case side2 => exact HC0_5.out); (case side3 => repeat (first | exact (Kd.C_below HR0_6.out HB.out) | (with_reducible refine Kd.C_alloc ?_ _) | (with_reducible refine Kd.C_drewN ?_ _) | (with_reducible refine Kd.C_drew ?_))); (case side4 => exact HC0_6.out); rintro e w18 ⟨rfl, hb⟩; refine ⟨_, rfl, ?_⟩; have n0_ := Aside0.mk (blk_below (g := gb486) (o := .cells #[.int .i64 a0_0, .int .i64 a0_1, .int .i64 a0_2, .int .i64 a0_3, .string a0_4, .slice A0_5 l0_5.length c0_5, .slice A0_6 l0_6.length c0_6] 25 (0, 0)) (by (with_reducible repeat (first | refine blk_drewN ?_ _ | refine blk_drew ?_ | refine blk_alloc ?_ _)); exact BK486.out) hb); have n1_ := Aside0.mk (blk_below (g := gb487) (o := .cells #[.int .i64 a1_0, .int .i64 a1_1, .int .i64 a1_2, .int .i64 a1_3, .string a1_4, .slice A1_5 l1_5.length c1_5, .slice A1_6 l1_6.length c1_6] 25 (0, 0)) (by (with_reducible repeat (first | refine blk_drewN ?_ _ | refine blk_drew ?_ | refine blk_alloc ?_ _)); exact BK487.out) hb); have n2_ := Aside0.mk (below_step (by repeat (first | (with_reducible first | exact HB.out | apply below_alloc | apply pw_below_drewN | apply below_drew1 | refine below_set ?_ GE486.out | refine below_set ?_ GE487.out) | exact HB.out)) hb); clear BK486; clear BK487; clear HB; have BK486 := n0_; have BK487 := n1_; have HB := n2_; clear n0_ n1_ n2_; (try clear hb); (try clear hb2); (try clear hk); (try clear hi)))
      go_meet
      case rel => exact ⟨_, (false), (by first | rfl | (simp; done) | (simp [*]; done)), H', ⟨by first | omega | exact Nat.le_refl _⟩, ⟨by (with_reducible repeat (first | refine blk_drewN ?_ _ | refine blk_drew ?_ | refine blk_alloc ?_ _)); exact BK486.out⟩, ⟨by (with_reducible repeat (first | refine blk_drewN ?_ _ | refine blk_drew ?_ | refine blk_alloc ?_ _)); exact BK487.out⟩, ⟨by repeat (first | (with_reducible first | exact HB.out | apply below_alloc | apply pw_below_drewN | apply below_drew1 | refine below_set ?_ GE486.out | refine below_set ?_ GE487.out) | exact HB.out)⟩⟩
  case rest =>
    clear HC4
    try clear c1
    try clear p2
    try clear c7
    try clear c9
    try clear c10
    try clear c11
    try clear c16
    try clear hcz12_0
    try clear hcz12_1
    try clear hcz12_2
    try clear hcz12_3
    try clear hcz12_4
    try clear hcz12_5
    try clear hcz12_6
    try clear hcz14_0
    try clear hcz14_1
    try clear hcz14_2
    try clear hcz14_3
    try clear hcz14_4
    try clear hcz14_5
    try clear hcz14_6
    try clear hcz17_0
    try clear hcz17_1
    try clear hcz17_2
    try clear hcz17_3
    try clear hcz17_4
    try clear hcz17_5
    try clear hcz17_6
    try clear hfz12_0
    try clear hfz12_1
    try clear hfz12_2
    try clear hfz12_3
    try clear hfz12_4
    try clear hfz12_5
    try clear hfz12_6
    try clear hfz14_0
    try clear hfz14_1
    try clear hfz14_2
    try clear hfz14_3
    try clear hfz14_4
    try clear hfz14_5
    try clear hfz14_6
    try clear hfz17_0
    try clear hfz17_1
    try clear hfz17_2
    try clear hfz17_3
    try clear hfz17_4
    try clear hfz17_5
    try clear hfz17_6
    obtain ⟨kq, x6_3, rfl, HA, HJ3, BK486, BK487, HB⟩ := hcut
    cases kq with
    | zero => exact absurd HA.out (by simp [becketlaw12_MsgApart.j0])
    | succ kj3 =>
      have H := HA.out
      clear HA
      simp only [becketlaw12_MsgApart.j0] at H
      by_cases c19 : x6_3 = true
      · subst c19
        have H1 : ((msg_Put.f kj3 a0_0 a0_1 a0_2 a0_3 a0_4 l0_5 l0_6).bind fun bt491 => ((msg_Put.f kj3 a1_0 a1_1 a1_2 a1_3 a1_4 l1_5 l1_6).bind fun bt495 => (if bt491.2.isNone = true then (if bt495.2.isNone = true then (if t488 = true then ((becketref12_Same.f a0_0 a0_1 a0_2 a0_3 a0_4 l0_5 l0_6 a1_0 a1_1 a1_2 a1_3 a1_4 l1_5 l1_6).bind fun t501 => (some (((strOfNums bt491.1).toList == (strOfNums bt495.1).toList) == t501))) else (some false)) else (some t488)) else (some t488)))) = some r := by first | (rw [if_pos rfl] at H; with_reducible exact H) | exact (if_pos rfl).symm.trans H | (simp only [if_true, eq_self_iff_true] at H ⊢; exact H)
        clear H
        have H := H1
        clear H1
        replace H := Option.bind_eq_some_iff.mp H
        obtain ⟨⟨t491, t494⟩, A200, H⟩ := H
        replace H : ((msg_Put.f kj3 a1_0 a1_1 a1_2 a1_3 a1_4 l1_5 l1_6).bind fun bt495 => (if t494.isNone = true then (if bt495.2.isNone = true then (if t488 = true then ((becketref12_Same.f a0_0 a0_1 a0_2 a0_3 a0_4 l0_5 l0_6 a1_0 a1_1 a1_2 a1_3 a1_4 l1_5 l1_6).bind fun t501 => (some (((strOfNums t491).toList == (strOfNums bt495.1).toList) == t501))) else (some false)) else (some t488)) else (some t488))) = some r := H
        have A20 := Aside0.mk A200
        clear A200
        replace H := Option.bind_eq_some_iff.mp H
        obtain ⟨⟨t495, t498⟩, A210, H⟩ := H
        replace H : (if t494.isNone = true then (if t498.isNone = true then (if t488 = true then ((becketref12_Same.f a0_0 a0_1 a0_2 a0_3 a0_4 l0_5 l0_6 a1_0 a1_1 a1_2 a1_3 a1_4 l1_5 l1_6).bind fun t501 => (some (((strOfNums t491).toList == (strOfNums t495).toList) == t501))) else (some false)) else (some t488)) else (some t488)) = some r := H
        have A21 := Aside0.mk A210
        clear A210
        rcases t494 with _ | q499
        · have H1 : (if t498.isNone = true then (if t488 = true then ((becketref12_Same.f a0_0 a0_1 a0_2 a0_3 a0_4 l0_5 l0_6 a1_0 a1_1 a1_2 a1_3 a1_4 l1_5 l1_6).bind fun t501 => (some (((strOfNums t491).toList == (strOfNums t495).toList) == t501))) else (some false)) else (some t488)) = some r := by rw [if_pos (show (none : Option Int).isNone = true by rfl)] at H; exact H
          clear H
          have H := H1
          clear H1
          try simp only [errW_none, errW_some]
          rcases t498 with _ | q500
          · have H1 : (if t488 = true then ((becketref12_Same.f a0_0 a0_1 a0_2 a0_3 a0_4 l0_5 l0_6 a1_0 a1_1 a1_2 a1_3 a1_4 l1_5 l1_6).bind fun t501 => (some (((strOfNums t491).toList == (strOfNums t495).toList) == t501))) else (some false)) = some r := by rw [if_pos (show (none : Option Int).isNone = true by rfl)] at H; exact H
            clear H
            have H := H1
            clear H1
            try simp only [errW_none, errW_some]
            by_cases c22 : t488 = true
            · subst c22
              have H1 : ((becketref12_Same.f a0_0 a0_1 a0_2 a0_3 a0_4 l0_5 l0_6 a1_0 a1_1 a1_2 a1_3 a1_4 l1_5 l1_6).bind fun t501 => (some (((strOfNums t491).toList == (strOfNums t495).toList) == t501))) = some r := by first | (rw [if_pos rfl] at H; with_reducible exact H) | exact (if_pos rfl).symm.trans H | (simp only [if_true, eq_self_iff_true] at H ⊢; exact H)
              clear H
              have H := H1
              clear H1
              replace H := Option.bind_eq_some_iff.mp H
              obtain ⟨t501, A230, H⟩ := H
              replace H : (some (((strOfNums t491).toList == (strOfNums t495).toList) == t501)) = some r := H
              have A23 := Aside0.mk A230
              clear A230
              obtain rfl := Option.some.inj H
              have hnb24 := NB486_487.out
              have hnc24 := NB487_486.out
              have hcz25_0 : wc.cell? ⟨gb486, 0, none⟩ = some (.int .i64 a0_0) := (blk_cell BK486.out 0).trans rfl
              have hcz25_1 : wc.cell? ⟨gb486, 1, none⟩ = some (.int .i64 a0_1) := (blk_cell BK486.out 1).trans rfl
              have hcz25_2 : wc.cell? ⟨gb486, 2, none⟩ = some (.int .i64 a0_2) := (blk_cell BK486.out 2).trans rfl
              have hcz25_3 : wc.cell? ⟨gb486, 3, none⟩ = some (.int .i64 a0_3) := (blk_cell BK486.out 3).trans rfl
              have hcz25_4 : wc.cell? ⟨gb486, 4, none⟩ = some (.string a0_4) := (blk_cell BK486.out 4).trans rfl
              have hcz25_5 : wc.cell? ⟨gb486, 5, none⟩ = some (.slice A0_5 l0_5.length c0_5) := (blk_cell BK486.out 5).trans rfl
              have hcz25_6 : wc.cell? ⟨gb486, 6, none⟩ = some (.slice A0_6 l0_6.length c0_6) := (blk_cell BK486.out 6).trans rfl
              have hfz25_0 := blk_frozen BK486.out 0
              have hfz25_1 := blk_frozen BK486.out 1
              have hfz25_2 := blk_frozen BK486.out 2
              have hfz25_3 := blk_frozen BK486.out 3
              have hfz25_4 := blk_frozen BK486.out 4
              have hfz25_5 := blk_frozen BK486.out 5
              have hfz25_6 := blk_frozen BK486.out 6
              try go_wp2_with (first | ((with_reducible refine gate_callee (f := 13) rfl ?_); refine goesL_ (some 23) rfl rfl Try.func13 (by kernel_rfl) rfl #[.agg #[.int .i64 a0_0, .int .i64 a0_1, .int .i64 a0_2, .int .i64 a0_3, .string a0_4, .slice A0_5 l0_5.length c0_5, .slice A0_6 l0_6.length c0_6]] rfl (by (try simp only [List.map_toArray, List.map_cons, List.map_nil]); first | done | rfl | (simp only [List.length_drop, List.length_take]; rfl)) ?_; (with_reducible refine (msg_Put.calls kj3 a0_0 a0_1 a0_2 a0_3 a0_4 _ _ l0_5 _ _ l0_6 t491 none _ ?side1 ?side2 ?side3 ?side4 A20.out).mono ?_); (case side1 => repeat (first | exact (Kd.C_below HR0_5.out HB.out) | (with_reducible refine Kd.C_alloc ?_ _) | (with_reducible refine Kd.C_drewN ?_ _) | (with_reducible refine Kd.C_drew ?_))); (case side2 => exact HC0_5.out); (case side3 => repeat (first | exact (Kd.C_below HR0_6.out HB.out) | (with_reducible refine Kd.C_alloc ?_ _) | (with_reducible refine Kd.C_drewN ?_ _) | (with_reducible refine Kd.C_drew ?_))); (case side4 => exact HC0_6.out); rintro e w26 ⟨v492, rfl, ho0, hb⟩; refine ⟨_, rfl, ?_⟩; have n0_ := Aside0.mk (Kd.V_lower (Kd.V_mono (ok' := fun k_ => k_ ≠ gb486 ∧ k_ ≠ gb487) ho0 (fun k_ hk_ => ⟨(Kd.freshB (g := gb486) (o := .cells #[.int .i64 a0_0, .int .i64 a0_1, .int .i64 a0_2, .int .i64 a0_3, .string a0_4, .slice A0_5 l0_5.length c0_5, .slice A0_6 l0_6.length c0_6] 25 (0, 0)) (by (with_reducible repeat (first | refine blk_drewN ?_ _ | refine blk_drew ?_ | refine blk_alloc ?_ _)); exact BK486.out) k_ hk_), (Kd.freshB (g := gb487) (o := .cells #[.int .i64 a1_0, .int .i64 a1_1, .int .i64 a1_2, .int .i64 a1_3, .string a1_4, .slice A1_5 l1_5.length c1_5, .slice A1_6 l1_6.length c1_6] 25 (0, 0)) (by (with_reducible repeat (first | refine blk_drewN ?_ _ | refine blk_drew ?_ | refine blk_alloc ?_ _)); exact BK487.out) k_ hk_)⟩)) (below_size (by repeat (first | (with_reducible first | exact HB.out | apply below_alloc | apply pw_below_drewN | apply below_drew1 | refine below_set ?_ GE486.out | refine below_set ?_ GE487.out) | exact HB.out)))); have n1_ := Aside0.mk (blk_below (g := gb486) (o := .cells #[.int .i64 a0_0, .int .i64 a0_1, .int .i64 a0_2, .int .i64 a0_3, .string a0_4, .slice A0_5 l0_5.length c0_5, .slice A0_6 l0_6.length c0_6] 25 (0, 0)) (by (with_reducible repeat (first | refine blk_drewN ?_ _ | refine blk_drew ?_ | refine blk_alloc ?_ _)); exact BK486.out) hb); have n2_ := Aside0.mk (blk_below (g := gb487) (o := .cells #[.int .i64 a1_0, .int .i64 a1_1, .int .i64 a1_2, .int .i64 a1_3, .string a1_4, .slice A1_5 l1_5.length c1_5, .slice A1_6 l1_6.length c1_6] 25 (0, 0)) (by (with_reducible repeat (first | refine blk_drewN ?_ _ | refine blk_drew ?_ | refine blk_alloc ?_ _)); exact BK487.out) hb); have n3_ := Aside0.mk (below_step (by repeat (first | (with_reducible first | exact HB.out | apply below_alloc | apply pw_below_drewN | apply below_drew1 | refine below_set ?_ GE486.out | refine below_set ?_ GE487.out) | exact HB.out)) hb); clear BK486; clear BK487; clear HB; have HO493 := n0_; have BK486 := n1_; have BK487 := n2_; have HB := n3_; clear n0_ n1_ n2_ n3_; (try clear hb); (try clear hb2); (try clear hk); (try clear hi); (try clear ho0); (try simp only [errW_none, errW_some]); have hcz27_0 : w26.cell? ⟨gb487, 0, none⟩ = some (.int .i64 a1_0) := (blk_cell BK487.out 0).trans rfl; have hcz27_1 : w26.cell? ⟨gb487, 1, none⟩ = some (.int .i64 a1_1) := (blk_cell BK487.out 1).trans rfl; have hcz27_2 : w26.cell? ⟨gb487, 2, none⟩ = some (.int .i64 a1_2) := (blk_cell BK487.out 2).trans rfl; have hcz27_3 : w26.cell? ⟨gb487, 3, none⟩ = some (.int .i64 a1_3) := (blk_cell BK487.out 3).trans rfl; have hcz27_4 : w26.cell? ⟨gb487, 4, none⟩ = some (.string a1_4) := (blk_cell BK487.out 4).trans rfl; have hcz27_5 : w26.cell? ⟨gb487, 5, none⟩ = some (.slice A1_5 l1_5.length c1_5) := (blk_cell BK487.out 5).trans rfl; have hcz27_6 : w26.cell? ⟨gb487, 6, none⟩ = some (.slice A1_6 l1_6.length c1_6) := (blk_cell BK487.out 6).trans rfl; have hfz27_0 := blk_frozen BK487.out 0; have hfz27_1 := blk_frozen BK487.out 1; have hfz27_2 := blk_frozen BK487.out 2; have hfz27_3 := blk_frozen BK487.out 3; have hfz27_4 := blk_frozen BK487.out 4; have hfz27_5 := blk_frozen BK487.out 5; have hfz27_6 := blk_frozen BK487.out 6) | ((with_reducible refine gate_callee (f := 13) rfl ?_); refine goesL_ (some 28) rfl rfl Try.func13 (by kernel_rfl) rfl #[.agg #[.int .i64 a1_0, .int .i64 a1_1, .int .i64 a1_2, .int .i64 a1_3, .string a1_4, .slice A1_5 l1_5.length c1_5, .slice A1_6 l1_6.length c1_6]] rfl (by (try simp only [List.map_toArray, List.map_cons, List.map_nil]); first | done | rfl | (simp only [List.length_drop, List.length_take]; rfl)) ?_; (with_reducible refine (msg_Put.calls kj3 a1_0 a1_1 a1_2 a1_3 a1_4 _ _ l1_5 _ _ l1_6 t495 none _ ?side1 ?side2 ?side3 ?side4 A21.out).mono ?_); (case side1 => repeat (first | exact (Kd.C_below HR1_5.out HB.out) | (with_reducible refine Kd.C_alloc ?_ _) | (with_reducible refine Kd.C_drewN ?_ _) | (with_reducible refine Kd.C_drew ?_))); (case side2 => exact HC1_5.out); (case side3 => repeat (first | exact (Kd.C_below HR1_6.out HB.out) | (with_reducible refine Kd.C_alloc ?_ _) | (with_reducible refine Kd.C_drewN ?_ _) | (with_reducible refine Kd.C_drew ?_))); (case side4 => exact HC1_6.out); rintro e w28 ⟨v496, rfl, ho0, hb⟩; refine ⟨_, rfl, ?_⟩; have n0_ := Aside0.mk (Kd.V_below (by (with_reducible repeat (first | apply Kd.V_alloc | apply Kd.V_drewN | apply Kd.V_drew)); exact HO493.out) hb); have n1_ := Aside0.mk (Kd.V_lower (Kd.V_mono (ok' := fun k_ => k_ ≠ gb486 ∧ k_ ≠ gb487) ho0 (fun k_ hk_ => ⟨(Kd.freshB (g := gb486) (o := .cells #[.int .i64 a0_0, .int .i64 a0_1, .int .i64 a0_2, .int .i64 a0_3, .string a0_4, .slice A0_5 l0_5.length c0_5, .slice A0_6 l0_6.length c0_6] 25 (0, 0)) (by (with_reducible repeat (first | refine blk_drewN ?_ _ | refine blk_drew ?_ | refine blk_alloc ?_ _)); exact BK486.out) k_ hk_), (Kd.freshB (g := gb487) (o := .cells #[.int .i64 a1_0, .int .i64 a1_1, .int .i64 a1_2, .int .i64 a1_3, .string a1_4, .slice A1_5 l1_5.length c1_5, .slice A1_6 l1_6.length c1_6] 25 (0, 0)) (by (with_reducible repeat (first | refine blk_drewN ?_ _ | refine blk_drew ?_ | refine blk_alloc ?_ _)); exact BK487.out) k_ hk_)⟩)) (below_size (by repeat (first | (with_reducible first | exact HB.out | apply below_alloc | apply pw_below_drewN | apply below_drew1 | refine below_set ?_ GE486.out | refine below_set ?_ GE487.out) | exact HB.out)))); have n2_ := Aside0.mk (blk_below (g := gb486) (o := .cells #[.int .i64 a0_0, .int .i64 a0_1, .int .i64 a0_2, .int .i64 a0_3, .string a0_4, .slice A0_5 l0_5.length c0_5, .slice A0_6 l0_6.length c0_6] 25 (0, 0)) (by (with_reducible repeat (first | refine blk_drewN ?_ _ | refine blk_drew ?_ | refine blk_alloc ?_ _)); exact BK486.out) hb); have n3_ := Aside0.mk (blk_below (g := gb487) (o := .cells #[.int .i64 a1_0, .int .i64 a1_1, .int .i64 a1_2, .int .i64 a1_3, .string a1_4, .slice A1_5 l1_5.length c1_5, .slice A1_6 l1_6.length c1_6] 25 (0, 0)) (by (with_reducible repeat (first | refine blk_drewN ?_ _ | refine blk_drew ?_ | refine blk_alloc ?_ _)); exact BK487.out) hb); have n4_ := Aside0.mk (below_step (by repeat (first | (with_reducible first | exact HB.out | apply below_alloc | apply pw_below_drewN | apply below_drew1 | refine below_set ?_ GE486.out | refine below_set ?_ GE487.out) | exact HB.out)) hb); clear HO493; clear BK486; clear BK487; clear HB; have HO493 := n0_; have HO497 := n1_; have BK486 := n2_; have BK487 := n3_; have HB := n4_; clear n0_ n1_ n2_ n3_ n4_; (try clear hb); (try clear hb2); (try clear hk); (try clear hi); (try clear ho0); (try simp only [errW_none, errW_some])))
              have n0_ := Aside0.mk (Kd.V_drew HO493.out)
              have n1_ := Aside0.mk (Kd.V_drew HO497.out)
              have n2_ := Aside0.mk (blk_drew BK486.out)
              have n3_ := Aside0.mk (blk_drew BK487.out)
              have n4_ := Aside0.mk (below_drew1 HB.out)
              clear HO493
              clear HO497
              clear BK486
              clear BK487
              clear HB
              have HO493 := n0_
              have HO497 := n1_
              have BK486 := n2_
              have BK487 := n3_
              have HB := n4_
              clear n0_ n1_ n2_ n3_ n4_
              refine start_ (n := 13) (S := fun w' => w'.cell? ⟨gb486, 0, none⟩ = some (.int .i64 a0_0) ∧ w'.cell? ⟨gb486, 1, none⟩ = some (.int .i64 a0_1) ∧ w'.cell? ⟨gb486, 2, none⟩ = some (.int .i64 a0_2) ∧ w'.cell? ⟨gb486, 3, none⟩ = some (.int .i64 a0_3) ∧ w'.cell? ⟨gb486, 4, none⟩ = some (.string a0_4) ∧ w'.cell? ⟨gb486, 5, none⟩ = some (.slice A0_5 l0_5.length c0_5) ∧ w'.cell? ⟨gb486, 6, none⟩ = some (.slice A0_6 l0_6.length c0_6) ∧ w'.cell? ⟨gb487, 0, none⟩ = some (.int .i64 a1_0) ∧ w'.cell? ⟨gb487, 1, none⟩ = some (.int .i64 a1_1) ∧ w'.cell? ⟨gb487, 2, none⟩ = some (.int .i64 a1_2) ∧ w'.cell? ⟨gb487, 3, none⟩ = some (.int .i64 a1_3) ∧ w'.cell? ⟨gb487, 4, none⟩ = some (.string a1_4) ∧ w'.cell? ⟨gb487, 5, none⟩ = some (.slice A1_5 l1_5.length c1_5) ∧ w'.cell? ⟨gb487, 6, none⟩ = some (.slice A1_6 l1_6.length c1_6) ∧ (convert 31 9 (v492)).run Try.prog w' = .ok (.string (strOfNums t491)) w' ∧ (convert 31 9 (v496)).run Try.prog w' = .ok (.string (strOfNums t495)) w') (ds := []) #[false, false, false, false, false, false, false, false, false, false, false, false, false] (by kernel_rfl) rfl rfl ⟨(blk_cell BK486.out 0).trans rfl, (blk_cell BK486.out 1).trans rfl, (blk_cell BK486.out 2).trans rfl, (blk_cell BK486.out 3).trans rfl, (blk_cell BK486.out 4).trans rfl, (blk_cell BK486.out 5).trans rfl, (blk_cell BK486.out 6).trans rfl, (blk_cell BK487.out 0).trans rfl, (blk_cell BK487.out 1).trans rfl, (blk_cell BK487.out 2).trans rfl, (blk_cell BK487.out 3).trans rfl, (blk_cell BK487.out 4).trans rfl, (blk_cell BK487.out 5).trans rfl, (blk_cell BK487.out 6).trans rfl, (by first | exact own_string (P := Try.prog) Try.underlying31 Try.underlying5 Try.underlying9 (Kd.own_of_R HO493.out) | exact V_string_becketlaw12_MsgApart (P := Try.prog) Try.underlying31 Try.underlying5 Try.underlying9 HO493.out), (by first | exact own_string (P := Try.prog) Try.underlying31 Try.underlying5 Try.underlying9 (Kd.own_of_R HO497.out) | exact V_string_becketlaw12_MsgApart (P := Try.prog) Try.underlying31 Try.underlying5 Try.underlying9 HO497.out)⟩ (fun hHeld => ?_); refine with_tabW becketlaw12_MsgApart.tab9 becketlaw12_MsgApart.bits9 (fun HT_ HW_ => ?_)
              generalize w28.drew = w29 at HO493 HO497 BK486 BK487 HB hHeld ⊢
              refine pure_ (i := 0) (N := some 38) (v := ?_) (a' := ?_) #[true, false, false, false, false, false, false, false, false, false, false, false, false] rfl rfl (any_of HT_.out (by kernel_rfl)) (fun _ _ _ h => h) (Or.inl ⟨by rfl, ?_⟩) ?_ ?_
              rotate_left
              · intro w'
                go_simp
                with_reducible rfl
              rotate_left
              · simp only [Act.put, List.setIfInBounds_toArray, List.set_cons_zero, List.set_cons_succ, i64_w, i32_w]
                rfl
              refine pure_ (i := 1) (N := some 39) (v := ?_) (a' := ?_) #[true, true, false, false, false, false, false, false, false, false, false, false, false] rfl rfl (any_of HT_.out (by kernel_rfl)) (fun _ _ _ h => h) (Or.inl ⟨by rfl, ?_⟩) ?_ ?_
              rotate_left
              · intro w'
                go_simp
                with_reducible rfl
              rotate_left
              · simp only [Act.put, List.setIfInBounds_toArray, List.set_cons_zero, List.set_cons_succ, i64_w, i32_w]
                rfl
              refine pure_ (i := 2) (N := some 40) (v := ?_) (a' := ?_) #[true, true, true, false, false, false, false, false, false, false, false, false, false] rfl rfl (any_of HT_.out (by kernel_rfl)) (fun _ _ _ h => h) (Or.inl ⟨by rfl, ?_⟩) ?_ ?_
              rotate_left
              · intro w'
                go_simp
                with_reducible rfl
              rotate_left
              · simp only [Act.put, List.setIfInBounds_toArray, List.set_cons_zero, List.set_cons_succ, i64_w, i32_w]
                rfl
              refine pure_ (i := 4) (N := some 42) (v := ?_) (a' := ?_) #[true, true, true, false, true, false, false, false, false, false, false, false, false] rfl rfl (any_of HT_.out (by kernel_rfl)) (fun _ _ _ h => h) (Or.inl ⟨by rfl, ?_⟩) ?_ ?_
              rotate_left
              · intro w'
                go_simp
                with_reducible rfl
              rotate_left
              · simp only [Act.put, List.setIfInBounds_toArray, List.set_cons_zero, List.set_cons_succ, i64_w, i32_w]
                rfl
              refine take_ (i := 3) (N := some 41) (v := ?_) (a' := ?_) #[true, true, true, true, true, false, false, false, false, false, false, false, false] rfl rfl (take_ofW HT_.out HW_.out (by kernel_rfl)) (fun _ _ _ h => h) (Or.inl ⟨by rfl, ?_⟩) hHeld ?_ ?_
              rotate_left
              · rintro w' ⟨s0, s1, s2, s3, s4, s5, s6, s7, s8, s9, s10, s11, s12, s13, s14, s15⟩
                go_simp
                with_reducible rfl
              rotate_left
              · simp only [Act.put, List.setIfInBounds_toArray, List.set_cons_zero, List.set_cons_succ, i64_w, i32_w]
                rfl
              refine take_ (i := 5) (N := some 43) (v := ?_) (a' := ?_) #[true, true, true, true, true, true, false, false, false, false, false, false, false] rfl rfl (take_ofW HT_.out HW_.out (by kernel_rfl)) (fun _ _ _ h => h) (Or.inl ⟨by rfl, ?_⟩) hHeld ?_ ?_
              rotate_left
              · rintro w' ⟨s0, s1, s2, s3, s4, s5, s6, s7, s8, s9, s10, s11, s12, s13, s14, s15⟩
                go_simp
                with_reducible rfl
              rotate_left
              · simp only [Act.put, List.setIfInBounds_toArray, List.set_cons_zero, List.set_cons_succ, i64_w, i32_w]
                rfl
              refine pure_ (i := 6) (N := some 44) (v := ?_) (a' := ?_) #[true, true, true, true, true, true, true, false, false, false, false, false, false] rfl rfl (any_of HT_.out (by kernel_rfl)) (fun _ _ _ h => h) (Or.inl ⟨by rfl, ?_⟩) ?_ ?_
              rotate_left
              · intro w'
                go_simp
                with_reducible rfl
              rotate_left
              · simp only [Act.put, List.setIfInBounds_toArray, List.set_cons_zero, List.set_cons_succ, i64_w, i32_w]
                rfl
              refine take_ (i := 7) (N := some 45) (v := ?_) (a' := ?_) #[true, true, true, true, true, true, true, true, false, false, false, false, false] rfl rfl (take_ofW HT_.out HW_.out (by kernel_rfl)) (fun _ _ _ h => h) (Or.inl ⟨by rfl, ?_⟩) hHeld ?_ ?_
              rotate_left
              · rintro w' ⟨s0, s1, s2, s3, s4, s5, s6, s7, s8, s9, s10, s11, s12, s13, s14, s15⟩
                go_simp
                with_reducible rfl
              rotate_left
              · simp only [Act.put, List.setIfInBounds_toArray, List.set_cons_zero, List.set_cons_succ, i64_w, i32_w]
                rfl
              refine take_ (i := 8) (N := some 46) (v := ?_) (a' := ?_) #[true, true, true, true, true, true, true, true, true, false, false, false, false] rfl rfl (take_ofW HT_.out HW_.out (by kernel_rfl)) (fun _ _ _ h => h) (Or.inl ⟨by rfl, ?_⟩) hHeld ?_ ?_
              rotate_left
              · rintro w' ⟨s0, s1, s2, s3, s4, s5, s6, s7, s8, s9, s10, s11, s12, s13, s14, s15⟩
                go_simp
                with_reducible rfl
              rotate_left
              · simp only [Act.put, List.setIfInBounds_toArray, List.set_cons_zero, List.set_cons_succ, i64_w, i32_w]
                rfl
              refine one_ (i := 9) (N := some 47) #[true, true, true, true, true, true, true, true, true, true, false, false, false] rfl rfl (one_of HT_.out (by kernel_rfl)) (by decide) (fun K hK => ?_)
              refine goes_ Try.func18 (by kernel_rfl) rfl #[.agg #[.int .i64 a0_0, .int .i64 a0_1, .int .i64 a0_2, .int .i64 a0_3, .string a0_4, .slice A0_5 l0_5.length c0_5, .slice A0_6 l0_6.length c0_6], .agg #[.int .i64 a1_0, .int .i64 a1_1, .int .i64 a1_2, .int .i64 a1_3, .string a1_4, .slice A1_5 l1_5.length c1_5, .slice A1_6 l1_6.length c1_6]] (by rfl) rfl rfl (by (try simp only [List.map_toArray, List.map_cons, List.map_nil]); first | done | rfl | (simp only [List.length_drop, List.length_take]; rfl)) ?_
              with_reducible refine (becketref12_Same.calls a0_0 a0_1 a0_2 a0_3 a0_4 _ _ l0_5 _ _ l0_6 a1_0 a1_1 a1_2 a1_3 a1_4 _ _ l1_5 _ _ l1_6 t501 _ ?side1 ?side2 ?side3 ?side4 ?side5 ?side6 ?side7 ?side8 A23.out).mono ?_
              (case side1 => repeat (first | exact (Kd.C_below HR0_5.out HB.out) | (with_reducible refine Kd.C_alloc ?_ _) | (with_reducible refine Kd.C_drewN ?_ _) | (with_reducible refine Kd.C_drew ?_)))
              (case side2 => exact HC0_5.out)
              (case side3 => repeat (first | exact (Kd.C_below HR0_6.out HB.out) | (with_reducible refine Kd.C_alloc ?_ _) | (with_reducible refine Kd.C_drewN ?_ _) | (with_reducible refine Kd.C_drew ?_)))
              (case side4 => exact HC0_6.out)
              (case side5 => repeat (first | exact (Kd.C_below HR1_5.out HB.out) | (with_reducible refine Kd.C_alloc ?_ _) | (with_reducible refine Kd.C_drewN ?_ _) | (with_reducible refine Kd.C_drew ?_)))
              (case side6 => exact HC1_5.out)
              (case side7 => repeat (first | exact (Kd.C_below HR1_6.out HB.out) | (with_reducible refine Kd.C_alloc ?_ _) | (with_reducible refine Kd.C_drewN ?_ _) | (with_reducible refine Kd.C_drew ?_)))
              (case side8 => exact HC1_6.out)
              rintro e w30 ⟨rfl, hb⟩
              refine ⟨_, rfl, ?_⟩
              have n0_ := Aside0.mk (Kd.V_below (by (with_reducible repeat (first | apply Kd.V_alloc | apply Kd.V_drewN | apply Kd.V_drew)); exact HO493.out) hb)
              have n1_ := Aside0.mk (Kd.V_below (by (with_reducible repeat (first | apply Kd.V_alloc | apply Kd.V_drewN | apply Kd.V_drew)); exact HO497.out) hb)
              have n2_ := Aside0.mk (blk_below (g := gb486) (o := .cells #[.int .i64 a0_0, .int .i64 a0_1, .int .i64 a0_2, .int .i64 a0_3, .string a0_4, .slice A0_5 l0_5.length c0_5, .slice A0_6 l0_6.length c0_6] 25 (0, 0)) (by (with_reducible repeat (first | refine blk_drewN ?_ _ | refine blk_drew ?_ | refine blk_alloc ?_ _)); exact BK486.out) hb)
              have n3_ := Aside0.mk (blk_below (g := gb487) (o := .cells #[.int .i64 a1_0, .int .i64 a1_1, .int .i64 a1_2, .int .i64 a1_3, .string a1_4, .slice A1_5 l1_5.length c1_5, .slice A1_6 l1_6.length c1_6] 25 (0, 0)) (by (with_reducible repeat (first | refine blk_drewN ?_ _ | refine blk_drew ?_ | refine blk_alloc ?_ _)); exact BK487.out) hb)
              have n4_ := Aside0.mk (below_step (by repeat (first | (with_reducible first | exact HB.out | apply below_alloc | apply pw_below_drewN | apply below_drew1 | refine below_set ?_ GE486.out | refine below_set ?_ GE487.out) | exact HB.out)) hb)
              clear HO493
              clear HO497
              clear BK486
              clear BK487
              clear HB
              have HO493 := n0_
              have HO497 := n1_
              have BK486 := n2_
              have BK487 := n3_
              have HB := n4_
              clear n0_ n1_ n2_ n3_ n4_
              (try clear hb)
              (try clear hb2)
              (try clear hk)
              (try clear hi)
              refine hK.out _ _ ⟨(blk_cell BK486.out 0).trans rfl, (blk_cell BK486.out 1).trans rfl, (blk_cell BK486.out 2).trans rfl, (blk_cell BK486.out 3).trans rfl, (blk_cell BK486.out 4).trans rfl, (blk_cell BK486.out 5).trans rfl, (blk_cell BK486.out 6).trans rfl, (blk_cell BK487.out 0).trans rfl, (blk_cell BK487.out 1).trans rfl, (blk_cell BK487.out 2).trans rfl, (blk_cell BK487.out 3).trans rfl, (blk_cell BK487.out 4).trans rfl, (blk_cell BK487.out 5).trans rfl, (blk_cell BK487.out 6).trans rfl, (by first | exact own_string (P := Try.prog) Try.underlying31 Try.underlying5 Try.underlying9 (Kd.own_of_R HO493.out) | exact V_string_becketlaw12_MsgApart (P := Try.prog) Try.underlying31 Try.underlying5 Try.underlying9 HO493.out), (by first | exact own_string (P := Try.prog) Try.underlying31 Try.underlying5 Try.underlying9 (Kd.own_of_R HO497.out) | exact V_string_becketlaw12_MsgApart (P := Try.prog) Try.underlying31 Try.underlying5 Try.underlying9 HO497.out)⟩ (fun hHeld => ?_)
              clear hK K
              refine norm_ (a' := ?_) ?_ ?_
              rotate_left
              · show Act.put _ (some 47) _ = _
                simp only [Act.put, List.setIfInBounds_toArray, List.set_cons_zero, List.set_cons_succ, i64_w, i32_w]
                rfl
              refine pure_ (i := 10) (N := some 48) (v := ?_) (a' := ?_) #[true, true, true, true, true, true, true, true, true, true, true, false, false] rfl rfl (any_of HT_.out (by kernel_rfl)) (fun _ _ _ h => h) (Or.inl ⟨by rfl, ?_⟩) ?_ ?_
              rotate_left
              · intro w'
                go_simp
                with_reducible rfl
              rotate_left
              · simp only [Act.put, List.setIfInBounds_toArray, List.set_cons_zero, List.set_cons_succ, i64_w, i32_w]
                rfl
              refine pure_ (i := 11) (N := some 49) (v := ?_) (a' := ?_) #[true, true, true, true, true, true, true, true, true, true, true, true, false] rfl rfl (any_of HT_.out (by kernel_rfl)) (fun _ _ _ h => h) (Or.inl ⟨by rfl, ?_⟩) ?_ ?_
              rotate_left
              · intro w'
                go_simp
                with_reducible rfl
              rotate_left
              · simp only [Act.put, List.setIfInBounds_toArray, List.set_cons_zero, List.set_cons_succ, i64_w, i32_w]
                rfl
              refine pure_ (i := 12) (N := some 4) (v := ?_) (a' := ?_) #[true, true, true, true, true, true, true, true, true, true, true, true, true] rfl rfl (any_of HT_.out (by kernel_rfl)) (fun _ _ _ h => h) (Or.inl ⟨by rfl, ?_⟩) ?_ ?_
              rotate_left
              · intro w'
                go_simp
                with_reducible rfl
              rotate_left
              · simp only [Act.put, List.setIfInBounds_toArray, List.set_cons_zero, List.set_cons_succ, i64_w, i32_w]
                rfl
              refine done_ (done_of HT_.out (by kernel_rfl)) ?_
              try go_wp2
              go_ret
              exact ⟨by first | rfl | (simp [errW_none, errW_some] <;> rfl) | (simp [*, errW_none, errW_some] <;> rfl), by repeat (first | (with_reducible first | exact HB.out | apply below_alloc | apply pw_below_drewN | apply below_drew1 | refine below_set ?_ GE486.out | refine below_set ?_ GE487.out) | exact HB.out)⟩
            · replace c22 := Bool.eq_false_iff.mpr c22
              subst c22
              have H1 : (some false) = some r := by rw [if_neg (show ¬ (false = true) by decide)] at H; exact H
              clear H
              have H := H1
              clear H1
              obtain rfl := Option.some.inj H
              have hnb32 := NB486_487.out
              have hnc32 := NB487_486.out
              have hcz33_0 : wc.cell? ⟨gb486, 0, none⟩ = some (.int .i64 a0_0) := (blk_cell BK486.out 0).trans rfl
              have hcz33_1 : wc.cell? ⟨gb486, 1, none⟩ = some (.int .i64 a0_1) := (blk_cell BK486.out 1).trans rfl
              have hcz33_2 : wc.cell? ⟨gb486, 2, none⟩ = some (.int .i64 a0_2) := (blk_cell BK486.out 2).trans rfl
              have hcz33_3 : wc.cell? ⟨gb486, 3, none⟩ = some (.int .i64 a0_3) := (blk_cell BK486.out 3).trans rfl
              have hcz33_4 : wc.cell? ⟨gb486, 4, none⟩ = some (.string a0_4) := (blk_cell BK486.out 4).trans rfl
              have hcz33_5 : wc.cell? ⟨gb486, 5, none⟩ = some (.slice A0_5 l0_5.length c0_5) := (blk_cell BK486.out 5).trans rfl
              have hcz33_6 : wc.cell? ⟨gb486, 6, none⟩ = some (.slice A0_6 l0_6.length c0_6) := (blk_cell BK486.out 6).trans rfl
              have hfz33_0 := blk_frozen BK486.out 0
              have hfz33_1 := blk_frozen BK486.out 1
              have hfz33_2 := blk_frozen BK486.out 2
              have hfz33_3 := blk_frozen BK486.out 3
              have hfz33_4 := blk_frozen BK486.out 4
              have hfz33_5 := blk_frozen BK486.out 5
              have hfz33_6 := blk_frozen BK486.out 6
              try go_wp2_with (first | ((with_reducible refine gate_callee (f := 13) rfl ?_); refine goesL_ (some 23) rfl rfl Try.func13 (by kernel_rfl) rfl #[.agg #[.int .i64 a0_0, .int .i64 a0_1, .int .i64 a0_2, .int .i64 a0_3, .string a0_4, .slice A0_5 l0_5.length c0_5, .slice A0_6 l0_6.length c0_6]] rfl (by (try simp only [List.map_toArray, List.map_cons, List.map_nil]); first | done | rfl | (simp only [List.length_drop, List.length_take]; rfl)) ?_; (with_reducible refine (msg_Put.calls kj3 a0_0 a0_1 a0_2 a0_3 a0_4 _ _ l0_5 _ _ l0_6 t491 none _ ?side1 ?side2 ?side3 ?side4 A20.out).mono ?_); (case side1 => repeat (first | exact (Kd.C_below HR0_5.out HB.out) | (with_reducible refine Kd.C_alloc ?_ _) | (with_reducible refine Kd.C_drewN ?_ _) | (with_reducible refine Kd.C_drew ?_))); (case side2 => exact HC0_5.out); (case side3 => repeat (first | exact (Kd.C_below HR0_6.out HB.out) | (with_reducible refine Kd.C_alloc ?_ _) | (with_reducible refine Kd.C_drewN ?_ _) | (with_reducible refine Kd.C_drew ?_))); (case side4 => exact HC0_6.out); rintro e w34 ⟨v492, rfl, ho0, hb⟩; refine ⟨_, rfl, ?_⟩; have n0_ := Aside0.mk (Kd.V_lower (Kd.V_mono (ok' := fun k_ => k_ ≠ gb486 ∧ k_ ≠ gb487) ho0 (fun k_ hk_ => ⟨(Kd.freshB (g := gb486) (o := .cells #[.int .i64 a0_0, .int .i64 a0_1, .int .i64 a0_2, .int .i64 a0_3, .string a0_4, .slice A0_5 l0_5.length c0_5, .slice A0_6 l0_6.length c0_6] 25 (0, 0)) (by (with_reducible repeat (first | refine blk_drewN ?_ _ | refine blk_drew ?_ | refine blk_alloc ?_ _)); exact BK486.out) k_ hk_), (Kd.freshB (g := gb487) (o := .cells #[.int .i64 a1_0, .int .i64 a1_1, .int .i64 a1_2, .int .i64 a1_3, .string a1_4, .slice A1_5 l1_5.length c1_5, .slice A1_6 l1_6.length c1_6] 25 (0, 0)) (by (with_reducible repeat (first | refine blk_drewN ?_ _ | refine blk_drew ?_ | refine blk_alloc ?_ _)); exact BK487.out) k_ hk_)⟩)) (below_size (by repeat (first | (with_reducible first | exact HB.out | apply below_alloc | apply pw_below_drewN | apply below_drew1 | refine below_set ?_ GE486.out | refine below_set ?_ GE487.out) | exact HB.out)))); have n1_ := Aside0.mk (blk_below (g := gb486) (o := .cells #[.int .i64 a0_0, .int .i64 a0_1, .int .i64 a0_2, .int .i64 a0_3, .string a0_4, .slice A0_5 l0_5.length c0_5, .slice A0_6 l0_6.length c0_6] 25 (0, 0)) (by (with_reducible repeat (first | refine blk_drewN ?_ _ | refine blk_drew ?_ | refine blk_alloc ?_ _)); exact BK486.out) hb); have n2_ := Aside0.mk (blk_below (g := gb487) (o := .cells #[.int .i64 a1_0, .int .i64 a1_1, .int .i64 a1_2, .int .i64 a1_3, .string a1_4, .slice A1_5 l1_5.length c1_5, .slice A1_6 l1_6.length c1_6] 25 (0, 0)) (by (with_reducible repeat (first | refine blk_drewN ?_ _ | refine blk_drew ?_ | refine blk_alloc ?_ _)); exact BK487.out) hb); have n3_ := Aside0.mk (below_step (by repeat (first | (with_reducible first | exact HB.out | apply below_alloc | apply pw_below_drewN | apply below_drew1 | refine below_set ?_ GE486.out | refine below_set ?_ GE487.out) | exact HB.out)) hb); clear BK486; clear BK487; clear HB; have HO493 := n0_; have BK486 := n1_; have BK487 := n2_; have HB := n3_; clear n0_ n1_ n2_ n3_; (try clear hb); (try clear hb2); (try clear hk); (try clear hi); (try clear ho0); (try simp only [errW_none, errW_some]); have hcz35_0 : w34.cell? ⟨gb487, 0, none⟩ = some (.int .i64 a1_0) := (blk_cell BK487.out 0).trans rfl; have hcz35_1 : w34.cell? ⟨gb487, 1, none⟩ = some (.int .i64 a1_1) := (blk_cell BK487.out 1).trans rfl; have hcz35_2 : w34.cell? ⟨gb487, 2, none⟩ = some (.int .i64 a1_2) := (blk_cell BK487.out 2).trans rfl; have hcz35_3 : w34.cell? ⟨gb487, 3, none⟩ = some (.int .i64 a1_3) := (blk_cell BK487.out 3).trans rfl; have hcz35_4 : w34.cell? ⟨gb487, 4, none⟩ = some (.string a1_4) := (blk_cell BK487.out 4).trans rfl; have hcz35_5 : w34.cell? ⟨gb487, 5, none⟩ = some (.slice A1_5 l1_5.length c1_5) := (blk_cell BK487.out 5).trans rfl; have hcz35_6 : w34.cell? ⟨gb487, 6, none⟩ = some (.slice A1_6 l1_6.length c1_6) := (blk_cell BK487.out 6).trans rfl; have hfz35_0 := blk_frozen BK487.out 0; have hfz35_1 := blk_frozen BK487.out 1; have hfz35_2 := blk_frozen BK487.out 2; have hfz35_3 := blk_frozen BK487.out 3; have hfz35_4 := blk_frozen BK487.out 4; have hfz35_5 := blk_frozen BK487.out 5; have hfz35_6 := blk_frozen BK487.out 6) | ((with_reducible refine gate_callee (f := 13) rfl ?_); refine goesL_ (some 28) rfl rfl Try.func13 (by kernel_rfl) rfl #[.agg #[.int .i64 a1_0, .int .i64 a1_1, .int .i64 a1_2, .int .i64 a1_3, .string a1_4, .slice A1_5 l1_5.length c1_5, .slice A1_6 l1_6.length c1_6]] rfl (by (try simp only [List.map_toArray, List.map_cons, List.map_nil]); first | done | rfl | (simp only [List.length_drop, List.length_take]; rfl)) ?_; (with_reducible refine (msg_Put.calls kj3 a1_0 a1_1 a1_2 a1_3 a1_4 _ _ l1_5 _ _ l1_6 t495 none _ ?side1 ?side2 ?side3 ?side4 A21.out).mono ?_); (case side1 => repeat (first | exact (Kd.C_below HR1_5.out HB.out) | (with_reducible refine Kd.C_alloc ?_ _) | (with_reducible refine Kd.C_drewN ?_ _) | (with_reducible refine Kd.C_drew ?_))); (case side2 => exact HC1_5.out); (case side3 => repeat (first | exact (Kd.C_below HR1_6.out HB.out) | (with_reducible refine Kd.C_alloc ?_ _) | (with_reducible refine Kd.C_drewN ?_ _) | (with_reducible refine Kd.C_drew ?_))); (case side4 => exact HC1_6.out); rintro e w36 ⟨v496, rfl, ho0, hb⟩; refine ⟨_, rfl, ?_⟩; have n0_ := Aside0.mk (Kd.V_below (by (with_reducible repeat (first | apply Kd.V_alloc | apply Kd.V_drewN | apply Kd.V_drew)); exact HO493.out) hb); have n1_ := Aside0.mk (Kd.V_lower (Kd.V_mono (ok' := fun k_ => k_ ≠ gb486 ∧ k_ ≠ gb487) ho0 (fun k_ hk_ => ⟨(Kd.freshB (g := gb486) (o := .cells #[.int .i64 a0_0, .int .i64 a0_1, .int .i64 a0_2, .int .i64 a0_3, .string a0_4, .slice A0_5 l0_5.length c0_5, .slice A0_6 l0_6.length c0_6] 25 (0, 0)) (by (with_reducible repeat (first | refine blk_drewN ?_ _ | refine blk_drew ?_ | refine blk_alloc ?_ _)); exact BK486.out) k_ hk_), (Kd.freshB (g := gb487) (o := .cells #[.int .i64 a1_0, .int .i64 a1_1, .int .i64 a1_2, .int .i64 a1_3, .string a1_4, .slice A1_5 l1_5.length c1_5, .slice A1_6 l1_6.length c1_6] 25 (0, 0)) (by (with_reducible repeat (first | refine blk_drewN ?_ _ | refine blk_drew ?_ | refine blk_alloc ?_ _)); exact BK487.out) k_ hk_)⟩)) (below_size (by repeat (first | (with_reducible first | exact HB.out | apply below_alloc | apply pw_below_drewN | apply below_drew1 | refine below_set ?_ GE486.out | refine below_set ?_ GE487.out) | exact HB.out)))); have n2_ := Aside0.mk (blk_below (g := gb486) (o := .cells #[.int .i64 a0_0, .int .i64 a0_1, .int .i64 a0_2, .int .i64 a0_3, .string a0_4, .slice A0_5 l0_5.length c0_5, .slice A0_6 l0_6.length c0_6] 25 (0, 0)) (by (with_reducible repeat (first | refine blk_drewN ?_ _ | refine blk_drew ?_ | refine blk_alloc ?_ _)); exact BK486.out) hb); have n3_ := Aside0.mk (blk_below (g := gb487) (o := .cells #[.int .i64 a1_0, .int .i64 a1_1, .int .i64 a1_2, .int .i64 a1_3, .string a1_4, .slice A1_5 l1_5.length c1_5, .slice A1_6 l1_6.length c1_6] 25 (0, 0)) (by (with_reducible repeat (first | refine blk_drewN ?_ _ | refine blk_drew ?_ | refine blk_alloc ?_ _)); exact BK487.out) hb); have n4_ := Aside0.mk (below_step (by repeat (first | (with_reducible first | exact HB.out | apply below_alloc | apply pw_below_drewN | apply below_drew1 | refine below_set ?_ GE486.out | refine below_set ?_ GE487.out) | exact HB.out)) hb); clear HO493; clear BK486; clear BK487; clear HB; have HO493 := n0_; have HO497 := n1_; have BK486 := n2_; have BK487 := n3_; have HB := n4_; clear n0_ n1_ n2_ n3_ n4_; (try clear hb); (try clear hb2); (try clear hk); (try clear hi); (try clear ho0); (try simp only [errW_none, errW_some])))
              have n0_ := Aside0.mk (Kd.V_drew HO493.out)
              have n1_ := Aside0.mk (Kd.V_drew HO497.out)
              have n2_ := Aside0.mk (blk_drew BK486.out)
              have n3_ := Aside0.mk (blk_drew BK487.out)
              have n4_ := Aside0.mk (below_drew1 HB.out)
              clear HO493
              clear HO497
              clear BK486
              clear BK487
              clear HB
              have HO493 := n0_
              have HO497 := n1_
              have BK486 := n2_
              have BK487 := n3_
              have HB := n4_
              clear n0_ n1_ n2_ n3_ n4_
              refine start_ (n := 13) (S := fun w' => True) (ds := []) #[false, false, false, false, false, false, false, false, false, false, false, false, false] (by kernel_rfl) rfl rfl trivial (fun hHeld => ?_); refine with_tabW becketlaw12_MsgApart.tab9 becketlaw12_MsgApart.bits9 (fun HT_ HW_ => ?_)
              generalize w36.drew = w37 at HO493 HO497 BK486 BK487 HB hHeld ⊢
              refine pure_ (i := 0) (N := some 38) (v := ?_) (a' := ?_) #[true, false, false, false, false, false, false, false, false, false, false, false, false] rfl rfl (any_of HT_.out (by kernel_rfl)) (fun _ _ _ h => h) (Or.inl ⟨by rfl, ?_⟩) ?_ ?_
              rotate_left
              · intro w'
                go_simp
                with_reducible rfl
              rotate_left
              · simp only [Act.put, List.setIfInBounds_toArray, List.set_cons_zero, List.set_cons_succ, i64_w, i32_w]
                rfl
              refine pure_ (i := 1) (N := some 39) (v := ?_) (a' := ?_) #[true, true, false, false, false, false, false, false, false, false, false, false, false] rfl rfl (any_of HT_.out (by kernel_rfl)) (fun _ _ _ h => h) (Or.inl ⟨by rfl, ?_⟩) ?_ ?_
              rotate_left
              · intro w'
                go_simp
                with_reducible rfl
              rotate_left
              · simp only [Act.put, List.setIfInBounds_toArray, List.set_cons_zero, List.set_cons_succ, i64_w, i32_w]
                rfl
              refine pure_ (i := 2) (N := some 40) (v := undef) (a' := ?_) #[true, true, true, false, false, false, false, false, false, false, false, false, false] rfl rfl (any_of HT_.out (by kernel_rfl)) (fun _ _ _ h => h) (Or.inr ⟨by rfl, rfl⟩) ?_ ?_
              rotate_left
              · simp only [Act.put, List.setIfInBounds_toArray, List.set_cons_zero, List.set_cons_succ, i64_w, i32_w]
                rfl
              refine pure_ (i := 3) (N := some 41) (v := undef) (a' := ?_) #[true, true, true, true, false, false, false, false, false, false, false, false, false] rfl rfl (any_of HT_.out (by kernel_rfl)) (fun _ _ _ h => h) (Or.inr ⟨by rfl, rfl⟩) ?_ ?_
              rotate_left
              · simp only [Act.put, List.setIfInBounds_toArray, List.set_cons_zero, List.set_cons_succ, i64_w, i32_w]
                rfl
              refine pure_ (i := 4) (N := some 42) (v := undef) (a' := ?_) #[true, true, true, true, true, false, false, false, false, false, false, false, false] rfl rfl (any_of HT_.out (by kernel_rfl)) (fun _ _ _ h => h) (Or.inr ⟨by rfl, rfl⟩) ?_ ?_
              rotate_left
              · simp only [Act.put, List.setIfInBounds_toArray, List.set_cons_zero, List.set_cons_succ, i64_w, i32_w]
                rfl
              refine pure_ (i := 5) (N := some 43) (v := undef) (a' := ?_) #[true, true, true, true, true, true, false, false, false, false, false, false, false] rfl rfl (any_of HT_.out (by kernel_rfl)) (fun _ _ _ h => h) (Or.inr ⟨by rfl, rfl⟩) ?_ ?_
              rotate_left
              · simp only [Act.put, List.setIfInBounds_toArray, List.set_cons_zero, List.set_cons_succ, i64_w, i32_w]
                rfl
              refine pure_ (i := 6) (N := some 44) (v := undef) (a' := ?_) #[true, true, true, true, true, true, true, false, false, false, false, false, false] rfl rfl (any_of HT_.out (by kernel_rfl)) (fun _ _ _ h => h) (Or.inr ⟨by rfl, rfl⟩) ?_ ?_
              rotate_left
              · simp only [Act.put, List.setIfInBounds_toArray, List.set_cons_zero, List.set_cons_succ, i64_w, i32_w]
                rfl
              refine pure_ (i := 7) (N := some 45) (v := undef) (a' := ?_) #[true, true, true, true, true, true, true, true, false, false, false, false, false] rfl rfl (any_of HT_.out (by kernel_rfl)) (fun _ _ _ h => h) (Or.inr ⟨by rfl, rfl⟩) ?_ ?_
              rotate_left
              · simp only [Act.put, List.setIfInBounds_toArray, List.set_cons_zero, List.set_cons_succ, i64_w, i32_w]
                rfl
              refine pure_ (i := 8) (N := some 46) (v := undef) (a' := ?_) #[true, true, true, true, true, true, true, true, true, false, false, false, false] rfl rfl (any_of HT_.out (by kernel_rfl)) (fun _ _ _ h => h) (Or.inr ⟨by rfl, rfl⟩) ?_ ?_
              rotate_left
              · simp only [Act.put, List.setIfInBounds_toArray, List.set_cons_zero, List.set_cons_succ, i64_w, i32_w]
                rfl
              refine pure_ (i := 9) (N := some 47) (v := undef) (a' := ?_) #[true, true, true, true, true, true, true, true, true, true, false, false, false] rfl rfl (any_of HT_.out (by kernel_rfl)) (fun _ _ _ h => h) (Or.inr ⟨by rfl, rfl⟩) ?_ ?_
              rotate_left
              · simp only [Act.put, List.setIfInBounds_toArray, List.set_cons_zero, List.set_cons_succ, i64_w, i32_w]
                rfl
              refine pure_ (i := 10) (N := some 48) (v := undef) (a' := ?_) #[true, true, true, true, true, true, true, true, true, true, true, false, false] rfl rfl (any_of HT_.out (by kernel_rfl)) (fun _ _ _ h => h) (Or.inr ⟨by rfl, rfl⟩) ?_ ?_
              rotate_left
              · simp only [Act.put, List.setIfInBounds_toArray, List.set_cons_zero, List.set_cons_succ, i64_w, i32_w]
                rfl
              refine pure_ (i := 11) (N := some 49) (v := ?_) (a' := ?_) #[true, true, true, true, true, true, true, true, true, true, true, true, false] rfl rfl (any_of HT_.out (by kernel_rfl)) (fun _ _ _ h => h) (Or.inl ⟨by rfl, ?_⟩) ?_ ?_
              rotate_left
              · intro w'
                go_simp
                with_reducible rfl
              rotate_left
              · simp only [Act.put, List.setIfInBounds_toArray, List.set_cons_zero, List.set_cons_succ, i64_w, i32_w]
                rfl
              refine pure_ (i := 12) (N := some 4) (v := ?_) (a' := ?_) #[true, true, true, true, true, true, true, true, true, true, true, true, true] rfl rfl (any_of HT_.out (by kernel_rfl)) (fun _ _ _ h => h) (Or.inl ⟨by rfl, ?_⟩) ?_ ?_
              rotate_left
              · intro w'
                go_simp
                with_reducible rfl
              rotate_left
              · simp only [Act.put, List.setIfInBounds_toArray, List.set_cons_zero, List.set_cons_succ, i64_w, i32_w]
                rfl
              refine done_ (done_of HT_.out (by kernel_rfl)) ?_
              try go_wp2
              go_ret
              exact ⟨by first | rfl | (simp [errW_none, errW_some] <;> rfl) | (simp [*, errW_none, errW_some] <;> rfl), by repeat (first | (with_reducible first | exact HB.out | apply below_alloc | apply pw_below_drewN | apply below_drew1 | refine below_set ?_ GE486.out | refine below_set ?_ GE487.out) | exact HB.out)⟩
          · have H1 : (some t488) = some r := by rw [if_neg (show ¬ (some q500).isNone = true by simp)] at H; exact H
            clear H
            have H := H1
            clear H1
            try simp only [errW_none, errW_some]
            obtain rfl := Option.some.inj H
            have hnb38 := NB486_487.out
            have hnc38 := NB487_486.out
            have hcz39_0 : wc.cell? ⟨gb486, 0, none⟩ = some (.int .i64 a0_0) := (blk_cell BK486.out 0).trans rfl
            have hcz39_1 : wc.cell? ⟨gb486, 1, none⟩ = some (.int .i64 a0_1) := (blk_cell BK486.out 1).trans rfl
            have hcz39_2 : wc.cell? ⟨gb486, 2, none⟩ = some (.int .i64 a0_2) := (blk_cell BK486.out 2).trans rfl
            have hcz39_3 : wc.cell? ⟨gb486, 3, none⟩ = some (.int .i64 a0_3) := (blk_cell BK486.out 3).trans rfl
            have hcz39_4 : wc.cell? ⟨gb486, 4, none⟩ = some (.string a0_4) := (blk_cell BK486.out 4).trans rfl
            have hcz39_5 : wc.cell? ⟨gb486, 5, none⟩ = some (.slice A0_5 l0_5.length c0_5) := (blk_cell BK486.out 5).trans rfl
            have hcz39_6 : wc.cell? ⟨gb486, 6, none⟩ = some (.slice A0_6 l0_6.length c0_6) := (blk_cell BK486.out 6).trans rfl
            have hfz39_0 := blk_frozen BK486.out 0
            have hfz39_1 := blk_frozen BK486.out 1
            have hfz39_2 := blk_frozen BK486.out 2
            have hfz39_3 := blk_frozen BK486.out 3
            have hfz39_4 := blk_frozen BK486.out 4
            have hfz39_5 := blk_frozen BK486.out 5
            have hfz39_6 := blk_frozen BK486.out 6
            go_wp2_with (first | ((with_reducible refine gate_callee (f := 13) rfl ?_); refine goesL_ (some 23) rfl rfl Try.func13 (by kernel_rfl) rfl #[.agg #[.int .i64 a0_0, .int .i64 a0_1, .int .i64 a0_2, .int .i64 a0_3, .string a0_4, .slice A0_5 l0_5.length c0_5, .slice A0_6 l0_6.length c0_6]] rfl (by (try simp only [List.map_toArray, List.map_cons, List.map_nil]); first | done | rfl | (simp only [List.length_drop, List.length_take]; rfl)) ?_; (with_reducible refine (msg_Put.calls kj3 a0_0 a0_1 a0_2 a0_3 a0_4 _ _ l0_5 _ _ l0_6 t491 none _ ?side1 ?side2 ?side3 ?side4 A20.out).mono ?_); (case side1 => repeat (first | exact (Kd.C_below HR0_5.out HB.out) | (with_reducible refine Kd.C_alloc ?_ _) | (with_reducible refine Kd.C_drewN ?_ _) | (with_reducible refine Kd.C_drew ?_))); (case side2 => exact HC0_5.out); (case side3 => repeat (first | exact (Kd.C_below HR0_6.out HB.out) | (with_reducible refine Kd.C_alloc ?_ _) | (with_reducible refine Kd.C_drewN ?_ _) | (with_reducible refine Kd.C_drew ?_))); (case side4 => exact HC0_6.out); rintro e w40 ⟨v492, rfl, ho0, hb⟩; refine ⟨_, rfl, ?_⟩; have n0_ := Aside0.mk (Kd.V_lower (Kd.V_mono (ok' := fun k_ => k_ ≠ gb486 ∧ k_ ≠ gb487) ho0 (fun k_ hk_ => ⟨(Kd.freshB (g := gb486) (o := .cells #[.int .i64 a0_0, .int .i64 a0_1, .int .i64 a0_2, .int .i64 a0_3, .string a0_4, .slice A0_5 l0_5.length c0_5, .slice A0_6 l0_6.length c0_6] 25 (0, 0)) (by (with_reducible repeat (first | refine blk_drewN ?_ _ | refine blk_drew ?_ | refine blk_alloc ?_ _)); exact BK486.out) k_ hk_), (Kd.freshB (g := gb487) (o := .cells #[.int .i64 a1_0, .int .i64 a1_1, .int .i64 a1_2, .int .i64 a1_3, .string a1_4, .slice A1_5 l1_5.length c1_5, .slice A1_6 l1_6.length c1_6] 25 (0, 0)) (by (with_reducible repeat (first | refine blk_drewN ?_ _ | refine blk_drew ?_ | refine blk_alloc ?_ _)); exact BK487.out) k_ hk_)⟩)) (below_size (by repeat (first | (with_reducible first | exact HB.out | apply below_alloc | apply pw_below_drewN | apply below_drew1 | refine below_set ?_ GE486.out | refine below_set ?_ GE487.out) | exact HB.out)))); have n1_ := Aside0.mk (blk_below (g := gb486) (o := .cells #[.int .i64 a0_0, .int .i64 a0_1, .int .i64 a0_2, .int .i64 a0_3, .string a0_4, .slice A0_5 l0_5.length c0_5, .slice A0_6 l0_6.length c0_6] 25 (0, 0)) (by (with_reducible repeat (first | refine blk_drewN ?_ _ | refine blk_drew ?_ | refine blk_alloc ?_ _)); exact BK486.out) hb); have n2_ := Aside0.mk (blk_below (g := gb487) (o := .cells #[.int .i64 a1_0, .int .i64 a1_1, .int .i64 a1_2, .int .i64 a1_3, .string a1_4, .slice A1_5 l1_5.length c1_5, .slice A1_6 l1_6.length c1_6] 25 (0, 0)) (by (with_reducible repeat (first | refine blk_drewN ?_ _ | refine blk_drew ?_ | refine blk_alloc ?_ _)); exact BK487.out) hb); have n3_ := Aside0.mk (below_step (by repeat (first | (with_reducible first | exact HB.out | apply below_alloc | apply pw_below_drewN | apply below_drew1 | refine below_set ?_ GE486.out | refine below_set ?_ GE487.out) | exact HB.out)) hb); clear BK486; clear BK487; clear HB; have HO493 := n0_; have BK486 := n1_; have BK487 := n2_; have HB := n3_; clear n0_ n1_ n2_ n3_; (try clear hb); (try clear hb2); (try clear hk); (try clear hi); (try clear ho0); (try simp only [errW_none, errW_some]); have hcz41_0 : w40.cell? ⟨gb487, 0, none⟩ = some (.int .i64 a1_0) := (blk_cell BK487.out 0).trans rfl; have hcz41_1 : w40.cell? ⟨gb487, 1, none⟩ = some (.int .i64 a1_1) := (blk_cell BK487.out 1).trans rfl; have hcz41_2 : w40.cell? ⟨gb487, 2, none⟩ = some (.int .i64 a1_2) := (blk_cell BK487.out 2).trans rfl; have hcz41_3 : w40.cell? ⟨gb487, 3, none⟩ = some (.int .i64 a1_3) := (blk_cell BK487.out 3).trans rfl; have hcz41_4 : w40.cell? ⟨gb487, 4, none⟩ = some (.string a1_4) := (blk_cell BK487.out 4).trans rfl; have hcz41_5 : w40.cell? ⟨gb487, 5, none⟩ = some (.slice A1_5 l1_5.length c1_5) := (blk_cell BK487.out 5).trans rfl; have hcz41_6 : w40.cell? ⟨gb487, 6, none⟩ = some (.slice A1_6 l1_6.length c1_6) := (blk_cell BK487.out 6).trans rfl; have hfz41_0 := blk_frozen BK487.out 0; have hfz41_1 := blk_frozen BK487.out 1; have hfz41_2 := blk_frozen BK487.out 2; have hfz41_3 := blk_frozen BK487.out 3; have hfz41_4 := blk_frozen BK487.out 4; have hfz41_5 := blk_frozen BK487.out 5; have hfz41_6 := blk_frozen BK487.out 6) | ((with_reducible refine gate_callee (f := 13) rfl ?_); refine goesL_ (some 28) rfl rfl Try.func13 (by kernel_rfl) rfl #[.agg #[.int .i64 a1_0, .int .i64 a1_1, .int .i64 a1_2, .int .i64 a1_3, .string a1_4, .slice A1_5 l1_5.length c1_5, .slice A1_6 l1_6.length c1_6]] rfl (by (try simp only [List.map_toArray, List.map_cons, List.map_nil]); first | done | rfl | (simp only [List.length_drop, List.length_take]; rfl)) ?_; (with_reducible refine (msg_Put.calls kj3 a1_0 a1_1 a1_2 a1_3 a1_4 _ _ l1_5 _ _ l1_6 t495 (some q500) _ ?side1 ?side2 ?side3 ?side4 A21.out).mono ?_); (case side1 => repeat (first | exact (Kd.C_below HR1_5.out HB.out) | (with_reducible refine Kd.C_alloc ?_ _) | (with_reducible refine Kd.C_drewN ?_ _) | (with_reducible refine Kd.C_drew ?_))); (case side2 => exact HC1_5.out); (case side3 => repeat (first | exact (Kd.C_below HR1_6.out HB.out) | (with_reducible refine Kd.C_alloc ?_ _) | (with_reducible refine Kd.C_drewN ?_ _) | (with_reducible refine Kd.C_drew ?_))); (case side4 => exact HC1_6.out); rintro e w42 ⟨v496, rfl, ho0, hb⟩; refine ⟨_, rfl, ?_⟩; have n0_ := Aside0.mk (Kd.V_below (by (with_reducible repeat (first | apply Kd.V_alloc | apply Kd.V_drewN | apply Kd.V_drew)); exact HO493.out) hb); have n1_ := Aside0.mk (Kd.V_lower (Kd.V_mono (ok' := fun k_ => k_ ≠ gb486 ∧ k_ ≠ gb487) ho0 (fun k_ hk_ => ⟨(Kd.freshB (g := gb486) (o := .cells #[.int .i64 a0_0, .int .i64 a0_1, .int .i64 a0_2, .int .i64 a0_3, .string a0_4, .slice A0_5 l0_5.length c0_5, .slice A0_6 l0_6.length c0_6] 25 (0, 0)) (by (with_reducible repeat (first | refine blk_drewN ?_ _ | refine blk_drew ?_ | refine blk_alloc ?_ _)); exact BK486.out) k_ hk_), (Kd.freshB (g := gb487) (o := .cells #[.int .i64 a1_0, .int .i64 a1_1, .int .i64 a1_2, .int .i64 a1_3, .string a1_4, .slice A1_5 l1_5.length c1_5, .slice A1_6 l1_6.length c1_6] 25 (0, 0)) (by (with_reducible repeat (first | refine blk_drewN ?_ _ | refine blk_drew ?_ | refine blk_alloc ?_ _)); exact BK487.out) k_ hk_)⟩)) (below_size (by repeat (first | (with_reducible first | exact HB.out | apply below_alloc | apply pw_below_drewN | apply below_drew1 | refine below_set ?_ GE486.out | refine below_set ?_ GE487.out) | exact HB.out)))); have n2_ := Aside0.mk (blk_below (g := gb486) (o := .cells #[.int .i64 a0_0, .int .i64 a0_1, .int .i64 a0_2, .int .i64 a0_3, .string a0_4, .slice A0_5 l0_5.length c0_5, .slice A0_6 l0_6.length c0_6] 25 (0, 0)) (by (with_reducible repeat (first | refine blk_drewN ?_ _ | refine blk_drew ?_ | refine blk_alloc ?_ _)); exact BK486.out) hb); have n3_ := Aside0.mk (blk_below (g := gb487) (o := .cells #[.int .i64 a1_0, .int .i64 a1_1, .int .i64 a1_2, .int .i64 a1_3, .string a1_4, .slice A1_5 l1_5.length c1_5, .slice A1_6 l1_6.length c1_6] 25 (0, 0)) (by (with_reducible repeat (first | refine blk_drewN ?_ _ | refine blk_drew ?_ | refine blk_alloc ?_ _)); exact BK487.out) hb); have n4_ := Aside0.mk (below_step (by repeat (first | (with_reducible first | exact HB.out | apply below_alloc | apply pw_below_drewN | apply below_drew1 | refine below_set ?_ GE486.out | refine below_set ?_ GE487.out) | exact HB.out)) hb); clear HO493; clear BK486; clear BK487; clear HB; have HO493 := n0_; have HO497 := n1_; have BK486 := n2_; have BK487 := n3_; have HB := n4_; clear n0_ n1_ n2_ n3_ n4_; (try clear hb); (try clear hb2); (try clear hk); (try clear hi); (try clear ho0); (try simp only [errW_none, errW_some])))
            go_ret
            exact ⟨by first | rfl | (simp [errW_none, errW_some] <;> rfl) | (simp [*, errW_none, errW_some] <;> rfl), by repeat (first | (with_reducible first | exact HB.out | apply below_alloc | apply pw_below_drewN | apply below_drew1 | refine below_set ?_ GE486.out | refine below_set ?_ GE487.out) | exact HB.out)⟩
        · have H1 : (some t488) = some r := by rw [if_neg (show ¬ (some q499).isNone = true by simp)] at H; exact H
          clear H
          have H := H1
          clear H1
          try simp only [errW_none, errW_some]
          obtain rfl := Option.some.inj H
          have hnb43 := NB486_487.out
          have hnc43 := NB487_486.out
          have hcz44_0 : wc.cell? ⟨gb486, 0, none⟩ = some (.int .i64 a0_0) := (blk_cell BK486.out 0).trans rfl
          have hcz44_1 : wc.cell? ⟨gb486, 1, none⟩ = some (.int .i64 a0_1) := (blk_cell BK486.out 1).trans rfl
          have hcz44_2 : wc.cell? ⟨gb486, 2, none⟩ = some (.int .i64 a0_2) := (blk_cell BK486.out 2).trans rfl
          have hcz44_3 : wc.cell? ⟨gb486, 3, none⟩ = some (.int .i64 a0_3) := (blk_cell BK486.out 3).trans rfl
          have hcz44_4 : wc.cell? ⟨gb486, 4, none⟩ = some (.string a0_4) := (blk_cell BK486.out 4).trans rfl
          have hcz44_5 : wc.cell? ⟨gb486, 5, none⟩ = some (.slice A0_5 l0_5.length c0_5) := (blk_cell BK486.out 5).trans rfl
          have hcz44_6 : wc.cell? ⟨gb486, 6, none⟩ = some (.slice A0_6 l0_6.length c0_6) := (blk_cell BK486.out 6).trans rfl
          have hfz44_0 := blk_frozen BK486.out 0
          have hfz44_1 := blk_frozen BK486.out 1
          have hfz44_2 := blk_frozen BK486.out 2
          have hfz44_3 := blk_frozen BK486.out 3
          have hfz44_4 := blk_frozen BK486.out 4
          have hfz44_5 := blk_frozen BK486.out 5
          have hfz44_6 := blk_frozen BK486.out 6
          go_wp2_with (first | ((with_reducible refine gate_callee (f := 13) rfl ?_); refine goesL_ (some 23) rfl rfl Try.func13 (by kernel_rfl) rfl #[.agg #[.int .i64 a0_0, .int .i64 a0_1, .int .i64 a0_2, .int .i64 a0_3, .string a0_4, .slice A0_5 l0_5.length c0_5, .slice A0_6 l0_6.length c0_6]] rfl (by (try simp only [List.map_toArray, List.map_cons, List.map_nil]); first | done | rfl | (simp only [List.length_drop, List.length_take]; rfl)) ?_; (with_reducible refine (msg_Put.calls kj3 a0_0 a0_1 a0_2 a0_3 a0_4 _ _ l0_5 _ _ l0_6 t491 (some q499) _ ?side1 ?side2 ?side3 ?side4 A20.out).mono ?_); (case side1 => repeat (first | exact (Kd.C_below HR0_5.out HB.out) | (with_reducible refine Kd.C_alloc ?_ _) | (with_reducible refine Kd.C_drewN ?_ _) | (with_reducible refine Kd.C_drew ?_))); (case side2 => exact HC0_5.out); (case side3 => repeat (first | exact (Kd.C_below HR0_6.out HB.out) | (with_reducible refine Kd.C_alloc ?_ _) | (with_reducible refine Kd.C_drewN ?_ _) | (with_reducible refine Kd.C_drew ?_))); (case side4 => exact HC0_6.out); rintro e w45 ⟨v492, rfl, ho0, hb⟩; refine ⟨_, rfl, ?_⟩; have n0_ := Aside0.mk (Kd.V_lower (Kd.V_mono (ok' := fun k_ => k_ ≠ gb486 ∧ k_ ≠ gb487) ho0 (fun k_ hk_ => ⟨(Kd.freshB (g := gb486) (o := .cells #[.int .i64 a0_0, .int .i64 a0_1, .int .i64 a0_2, .int .i64 a0_3, .string a0_4, .slice A0_5 l0_5.length c0_5, .slice A0_6 l0_6.length c0_6] 25 (0, 0)) (by (with_reducible repeat (first | refine blk_drewN ?_ _ | refine blk_drew ?_ | refine blk_alloc ?_ _)); exact BK486.out) k_ hk_), (Kd.freshB (g := gb487) (o := .cells #[.int .i64 a1_0, .int .i64 a1_1, .int .i64 a1_2, .int .i64 a1_3, .string a1_4, .slice A1_5 l1_5.length c1_5, .slice A1_6 l1_6.length c1_6] 25 (0, 0)) (by (with_reducible repeat (first | refine blk_drewN ?_ _ | refine blk_drew ?_ | refine blk_alloc ?_ _)); exact BK487.out) k_ hk_)⟩)) (below_size (by repeat (first | (with_reducible first | exact HB.out | apply below_alloc | apply pw_below_drewN | apply below_drew1 | refine below_set ?_ GE486.out | refine below_set ?_ GE487.out) | exact HB.out)))); have n1_ := Aside0.mk (blk_below (g := gb486) (o := .cells #[.int .i64 a0_0, .int .i64 a0_1, .int .i64 a0_2, .int .i64 a0_3, .string a0_4, .slice A0_5 l0_5.length c0_5, .slice A0_6 l0_6.length c0_6] 25 (0, 0)) (by (with_reducible repeat (first | refine blk_drewN ?_ _ | refine blk_drew ?_ | refine blk_alloc ?_ _)); exact BK486.out) hb); have n2_ := Aside0.mk (blk_below (g := gb487) (o := .cells #[.int .i64 a1_0, .int .i64 a1_1, .int .i64 a1_2, .int .i64 a1_3, .string a1_4, .slice A1_5 l1_5.length c1_5, .slice A1_6 l1_6.length c1_6] 25 (0, 0)) (by (with_reducible repeat (first | refine blk_drewN ?_ _ | refine blk_drew ?_ | refine blk_alloc ?_ _)); exact BK487.out) hb); have n3_ := Aside0.mk (below_step (by repeat (first | (with_reducible first | exact HB.out | apply below_alloc | apply pw_below_drewN | apply below_drew1 | refine below_set ?_ GE486.out | refine below_set ?_ GE487.out) | exact HB.out)) hb); clear BK486; clear BK487; clear HB; have HO493 := n0_; have BK486 := n1_; have BK487 := n2_; have HB := n3_; clear n0_ n1_ n2_ n3_; (try clear hb); (try clear hb2); (try clear hk); (try clear hi); (try clear ho0); (try simp only [errW_none, errW_some]); have hcz46_0 : w45.cell? ⟨gb487, 0, none⟩ = some (.int .i64 a1_0) := (blk_cell BK487.out 0).trans rfl; have hcz46_1 : w45.cell? ⟨gb487, 1, none⟩ = some (.int .i64 a1_1) := (blk_cell BK487.out 1).trans rfl; have hcz46_2 : w45.cell? ⟨gb487, 2, none⟩ = some (.int .i64 a1_2) := (blk_cell BK487.out 2).trans rfl; have hcz46_3 : w45.cell? ⟨gb487, 3, none⟩ = some (.int .i64 a1_3) := (blk_cell BK487.out 3).trans rfl; have hcz46_4 : w45.cell? ⟨gb487, 4, none⟩ = some (.string a1_4) := (blk_cell BK487.out 4).trans rfl; have hcz46_5 : w45.cell? ⟨gb487, 5, none⟩ = some (.slice A1_5 l1_5.length c1_5) := (blk_cell BK487.out 5).trans rfl; have hcz46_6 : w45.cell? ⟨gb487, 6, none⟩ = some (.slice A1_6 l1_6.length c1_6) := (blk_cell BK487.out 6).trans rfl; have hfz46_0 := blk_frozen BK487.out 0; have hfz46_1 := blk_frozen BK487.out 1; have hfz46_2 := blk_frozen BK487.out 2; have hfz46_3 := blk_frozen BK487.out 3; have hfz46_4 := blk_frozen BK487.out 4; have hfz46_5 := blk_frozen BK487.out 5; have hfz46_6 := blk_frozen BK487.out 6) | ((with_reducible refine gate_callee (f := 13) rfl ?_); refine goesL_ (some 28) rfl rfl Try.func13 (by kernel_rfl) rfl #[.agg #[.int .i64 a1_0, .int .i64 a1_1, .int .i64 a1_2, .int .i64 a1_3, .string a1_4, .slice A1_5 l1_5.length c1_5, .slice A1_6 l1_6.length c1_6]] rfl (by (try simp only [List.map_toArray, List.map_cons, List.map_nil]); first | done | rfl | (simp only [List.length_drop, List.length_take]; rfl)) ?_; (with_reducible refine (msg_Put.calls kj3 a1_0 a1_1 a1_2 a1_3 a1_4 _ _ l1_5 _ _ l1_6 t495 t498 _ ?side1 ?side2 ?side3 ?side4 A21.out).mono ?_); (case side1 => repeat (first | exact (Kd.C_below HR1_5.out HB.out) | (with_reducible refine Kd.C_alloc ?_ _) | (with_reducible refine Kd.C_drewN ?_ _) | (with_reducible refine Kd.C_drew ?_))); (case side2 => exact HC1_5.out); (case side3 => repeat (first | exact (Kd.C_below HR1_6.out HB.out) | (with_reducible refine Kd.C_alloc ?_ _) | (with_reducible refine Kd.C_drewN ?_ _) | (with_reducible refine Kd.C_drew ?_))); (case side4 => exact HC1_6.out); rintro e w47 ⟨v496, rfl, ho0, hb⟩; refine ⟨_, rfl, ?_⟩; have n0_ := Aside0.mk (Kd.V_below (by (with_reducible repeat (first | apply Kd.V_alloc | apply Kd.V_drewN | apply Kd.V_drew)); exact HO493.out) hb); have n1_ := Aside0.mk (Kd.V_lower (Kd.V_mono (ok' := fun k_ => k_ ≠ gb486 ∧ k_ ≠ gb487) ho0 (fun k_ hk_ => ⟨(Kd.freshB (g := gb486) (o := .cells #[.int .i64 a0_0, .int .i64 a0_1, .int .i64 a0_2, .int .i64 a0_3, .string a0_4, .slice A0_5 l0_5.length c0_5, .slice A0_6 l0_6.length c0_6] 25 (0, 0)) (by (with_reducible repeat (first | refine blk_drewN ?_ _ | refine blk_drew ?_ | refine blk_alloc ?_ _)); exact BK486.out) k_ hk_), (Kd.freshB (g := gb487) (o := .cells #[.int .i64 a1_0, .int .i64 a1_1, .int .i64 a1_2, .int .i64 a1_3, .string a1_4, .slice A1_5 l1_5.length c1_5, .slice A1_6 l1_6.length c1_6] 25 (0, 0)) (by (with_reducible repeat (first | refine blk_drewN ?_ _ | refine blk_drew ?_ | refine blk_alloc ?_ _)); exact BK487.out) k_ hk_)⟩)) (below_size (by repeat (first | (with_reducible first | exact HB.out | apply below_alloc | apply pw_below_drewN | apply below_drew1 | refine below_set ?_ GE486.out | refine below_set ?_ GE487.out) | exact HB.out)))); have n2_ := Aside0.mk (blk_below (g := gb486) (o := .cells #[.int .i64 a0_0, .int .i64 a0_1, .int .i64 a0_2, .int .i64 a0_3, .string a0_4, .slice A0_5 l0_5.length c0_5, .slice A0_6 l0_6.length c0_6] 25 (0, 0)) (by (with_reducible repeat (first | refine blk_drewN ?_ _ | refine blk_drew ?_ | refine blk_alloc ?_ _)); exact BK486.out) hb); have n3_ := Aside0.mk (blk_below (g := gb487) (o := .cells #[.int .i64 a1_0, .int .i64 a1_1, .int .i64 a1_2, .int .i64 a1_3, .string a1_4, .slice A1_5 l1_5.length c1_5, .slice A1_6 l1_6.length c1_6] 25 (0, 0)) (by (with_reducible repeat (first | refine blk_drewN ?_ _ | refine blk_drew ?_ | refine blk_alloc ?_ _)); exact BK487.out) hb); have n4_ := Aside0.mk (below_step (by repeat (first | (with_reducible first | exact HB.out | apply below_alloc | apply pw_below_drewN | apply below_drew1 | refine below_set ?_ GE486.out | refine below_set ?_ GE487.out) | exact HB.out)) hb); clear HO493; clear BK486; clear BK487; clear HB; have HO493 := n0_; have HO497 := n1_; have BK486 := n2_; have BK487 := n3_; have HB := n4_; clear n0_ n1_ n2_ n3_ n4_; (try clear hb); (try clear hb2); (try clear hk); (try clear hi); (try clear ho0); (try simp only [errW_none, errW_some])))
          go_ret
          exact ⟨by first | rfl | (simp [errW_none, errW_some] <;> rfl) | (simp [*, errW_none, errW_some] <;> rfl), by repeat (first | (with_reducible first | exact HB.out | apply below_alloc | apply pw_below_drewN | apply below_drew1 | refine below_set ?_ GE486.out | refine below_set ?_ GE487.out) | exact HB.out)⟩
      · replace c19 := Bool.eq_false_iff.mpr c19
        subst c19
        have H1 : (some t488) = some r := by rw [if_neg (show ¬ (false = true) by decide)] at H; exact H
        clear H
        have H := H1
        clear H1
        obtain rfl := Option.some.inj H
        go_wp2
        go_ret
        exact ⟨by first | rfl | (simp [errW_none, errW_some] <;> rfl) | (simp [*, errW_none, errW_some] <;> rfl), by repeat (first | (with_reducible first | exact HB.out | apply below_alloc | apply pw_below_drewN | apply below_drew1 | refine below_set ?_ GE486.out | refine below_set ?_ GE487.out) | exact HB.out)⟩
end Go.Proofs.Ytpbbgbikebcnbaa.Ms
