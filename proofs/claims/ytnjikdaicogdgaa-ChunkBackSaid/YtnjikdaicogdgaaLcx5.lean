-- Out of the translation, by a program of this session (wip/myprint.py, over the kit's printer). Lean checks it.
import Derived.Test.YtnjikdaicogdgaaLcx0
import Derived.Test.YtnjikdaicogdgaaLcx1
import Derived.Test.YtnjikdaicogdgaaLcx2
namespace Go.Proofs.Ytnjikdaicogdgaa.Lc
open Go.RowKit Go.Proofs.YtnjikdaicogdgaaW.PrintWords Go.Proofs.YtnjikdaicogdgaaW.PrintLast Go.Proofs.YtnjikdaicogdgaaW.PrintMore
attribute [local go_sem] max2_int min2_int max_two min_two max_three min_three max_four min_four   -- for this text's walks alone
set_option linter.unusedVariables false
set_option linter.unusedSimpArgs false

attribute [local go_sem] eqlErr neqErr eqlErrNil neqErrNil
/-! ### becketlaw03_ChunkBack: function 13 -/
mutual
def becketlaw03_ChunkBack.j0 : Nat → ByteArray → ByteArray → Bool → Bool → Int → Int → Int → Option (Bool)
  | 0, _, _, _, _, _, _, _ => none
  | k + 1, x0, x1, x7, x22, x168000, x168001, x168002 => if x22 = true then (some x7) else ((chunk_Split.f k x0 x168000 x168001 x168002).bind fun bt169 => (if bt169.2.isNone = true then (becketlaw03_ChunkBack.l0 k x0 x1 x7 bt169.1 0 x168000 x168001 x168002) else (some x7)))
def becketlaw03_ChunkBack.l0 : Nat → ByteArray → ByteArray → Bool → List ByteArray → Int → Int → Int → Int → Option (Bool)
  | 0, _, _, _, _, _, _, _, _ => none
  | k + 1, x0, x1, x7, x8, x10, x168000, x168001, x168002 => if x10 < (x8.length : Int) then (if 0 ≤ x10 then (if ((rdOf ByteArray.empty x8 x10).size : Int) > x168001 then (some false) else (if ((rdOf ByteArray.empty x8 x10).size : Int) < 1 then (some false) else (if x10 < (wrap64 ((x8.length : Int) - 1)) then (if ((rdOf ByteArray.empty x8 x10).size : Int) < x168000 then (some false) else (becketlaw03_ChunkBack.l0 k x0 x1 x7 x8 (wrap64 (x10 + 1)) x168000 x168001 x168002)) else (becketlaw03_ChunkBack.l0 k x0 x1 x7 x8 (wrap64 (x10 + 1)) x168000 x168001 x168002)))) else (none)) else ((chunk_Join.f x8).bind fun t177 => (if t177.toList = x0.toList then (if x0.size + x1.size ≤ 9223372036854775807 then ((chunk_Split.f k (x0 ++ x1) x168000 x168001 x168002).bind fun bt178 => (if bt178.2.isNone = true then (becketlaw03_ChunkBack.l1 k x7 x8 bt178.1 0) else (if x7 = true then (some (decide ((wrap64 ((x0.size : Int) + (x1.size : Int))) > 1024))) else (some false)))) else (none)) else (some false)))
def becketlaw03_ChunkBack.l1 : Nat → Bool → List ByteArray → List ByteArray → Int → Option (Bool)
  | 0, _, _, _, _ => none
  | k + 1, x7, x8, x11, x13 => if x13 < (wrap64 ((x8.length : Int) - 1)) then (if x13 ≥ (x11.length : Int) then (some false) else (if 0 ≤ x13 then (if x13 < (x11.length : Int) then (if x13 < (x8.length : Int) then (if (rdOf ByteArray.empty x11 x13).toList = (rdOf ByteArray.empty x8 x13).toList then (becketlaw03_ChunkBack.l1 k x7 x8 x11 (wrap64 (x13 + 1))) else (some false)) else (none)) else (none)) else (none))) else (some x7)
end
def becketlaw03_ChunkBack.f (k : Nat) (a0 : ByteArray) (a1 : ByteArray) (a2_0 : Int) (a2_1 : Int) (a2_2 : Int) : Option (Bool) := (becketlaw03_up.f k).bind fun t168 => (if (a0.size : Int) > 3000 then (becketlaw03_ChunkBack.j0 k a0 a1 t168 true a2_0 a2_1 a2_2) else (becketlaw03_ChunkBack.j0 k a0 a1 t168 (decide ((a1.size : Int) > 3000)) a2_0 a2_1 a2_2))
theorem becketlaw03_ChunkBack.mono_l : ∀ k, (∀ y0 y1 y2 y3 y4 y5 y6, LeO (becketlaw03_ChunkBack.j0 k y0 y1 y2 y3 y4 y5 y6) (becketlaw03_ChunkBack.j0 (k + 1) y0 y1 y2 y3 y4 y5 y6)) ∧ (∀ y0 y1 y2 y3 y4 y5 y6 y7, LeO (becketlaw03_ChunkBack.l0 k y0 y1 y2 y3 y4 y5 y6 y7) (becketlaw03_ChunkBack.l0 (k + 1) y0 y1 y2 y3 y4 y5 y6 y7)) ∧ (∀ y0 y1 y2 y3, LeO (becketlaw03_ChunkBack.l1 k y0 y1 y2 y3) (becketlaw03_ChunkBack.l1 (k + 1) y0 y1 y2 y3))
  | 0 => ⟨fun _ _ _ _ _ _ _ r h => by simp [becketlaw03_ChunkBack.j0] at h, fun _ _ _ _ _ _ _ _ r h => by simp [becketlaw03_ChunkBack.l0] at h, fun _ _ _ _ r h => by simp [becketlaw03_ChunkBack.l1] at h⟩
  | k + 1 => by
    obtain ⟨ih0, ih1, ih2⟩ := becketlaw03_ChunkBack.mono_l k
    refine ⟨?_, ?_, ?_⟩
    · intro y0 y1 y2 y3 y4 y5 y6
      unfold becketlaw03_ChunkBack.j0
      repeat' first
      | (with_reducible exact ih0 _ _ _ _ _ _ _)
      | (with_reducible exact ih1 _ _ _ _ _ _ _ _)
      | (with_reducible exact ih2 _ _ _ _)
      | (with_reducible exact becketlaw03_up.mono _)
      | (with_reducible exact chunk_Split.mono _ _ _ _ _)
      | (with_reducible exact LeO.refl _)
      | (with_reducible exact LeO.none _)
      | (with_reducible refine LeO.ite ?_ ?_)
      | (with_reducible refine LeO.bind ?_ (fun _ => ?_))
      | exact ih0 _ _ _ _ _ _ _
      | exact ih1 _ _ _ _ _ _ _ _
      | exact ih2 _ _ _ _
      | exact becketlaw03_up.mono _
      | exact chunk_Split.mono _ _ _ _ _
      | exact LeO.none _
      | refine LeO.ite ?_ ?_
      | refine LeO.bind ?_ (fun _ => ?_)
    · intro y0 y1 y2 y3 y4 y5 y6 y7
      unfold becketlaw03_ChunkBack.l0
      repeat' first
      | (with_reducible exact ih0 _ _ _ _ _ _ _)
      | (with_reducible exact ih1 _ _ _ _ _ _ _ _)
      | (with_reducible exact ih2 _ _ _ _)
      | (with_reducible exact becketlaw03_up.mono _)
      | (with_reducible exact chunk_Split.mono _ _ _ _ _)
      | (with_reducible exact LeO.refl _)
      | (with_reducible exact LeO.none _)
      | (with_reducible refine LeO.ite ?_ ?_)
      | (with_reducible refine LeO.bind ?_ (fun _ => ?_))
      | exact ih0 _ _ _ _ _ _ _
      | exact ih1 _ _ _ _ _ _ _ _
      | exact ih2 _ _ _ _
      | exact becketlaw03_up.mono _
      | exact chunk_Split.mono _ _ _ _ _
      | exact LeO.none _
      | refine LeO.ite ?_ ?_
      | refine LeO.bind ?_ (fun _ => ?_)
    · intro y0 y1 y2 y3
      unfold becketlaw03_ChunkBack.l1
      repeat' first
      | (with_reducible exact ih0 _ _ _ _ _ _ _)
      | (with_reducible exact ih1 _ _ _ _ _ _ _ _)
      | (with_reducible exact ih2 _ _ _ _)
      | (with_reducible exact becketlaw03_up.mono _)
      | (with_reducible exact chunk_Split.mono _ _ _ _ _)
      | (with_reducible exact LeO.refl _)
      | (with_reducible exact LeO.none _)
      | (with_reducible refine LeO.ite ?_ ?_)
      | (with_reducible refine LeO.bind ?_ (fun _ => ?_))
      | exact ih0 _ _ _ _ _ _ _
      | exact ih1 _ _ _ _ _ _ _ _
      | exact ih2 _ _ _ _
      | exact becketlaw03_up.mono _
      | exact chunk_Split.mono _ _ _ _ _
      | exact LeO.none _
      | refine LeO.ite ?_ ?_
      | refine LeO.bind ?_ (fun _ => ?_)
theorem becketlaw03_ChunkBack.mono : ∀ a0 a1 a2 a3 a4 k, LeO (becketlaw03_ChunkBack.f k a0 a1 a2 a3 a4) (becketlaw03_ChunkBack.f (k + 1) a0 a1 a2 a3 a4) := by
  intro a0 a1 a2 a3 a4 k
  obtain ⟨ih0, ih1, ih2⟩ := becketlaw03_ChunkBack.mono_l k
  unfold becketlaw03_ChunkBack.f
  repeat' first
      | (with_reducible exact ih0 _ _ _ _ _ _ _)
      | (with_reducible exact ih1 _ _ _ _ _ _ _ _)
      | (with_reducible exact ih2 _ _ _ _)
      | (with_reducible exact becketlaw03_up.mono _)
      | (with_reducible exact chunk_Split.mono _ _ _ _ _)
      | (with_reducible exact LeO.refl _)
      | (with_reducible exact LeO.none _)
      | (with_reducible refine LeO.ite ?_ ?_)
      | (with_reducible refine LeO.bind ?_ (fun _ => ?_))
      | exact ih0 _ _ _ _ _ _ _
      | exact ih1 _ _ _ _ _ _ _ _
      | exact ih2 _ _ _ _
      | exact becketlaw03_up.mono _
      | exact chunk_Split.mono _ _ _ _ _
      | exact LeO.none _
      | refine LeO.ite ?_ ?_
      | refine LeO.bind ?_ (fun _ => ?_)
set_option maxHeartbeats 8000000 in
set_option maxRecDepth 100000 in
theorem becketlaw03_ChunkBack.calls (k : Nat) (a0 : ByteArray) (a1 : ByteArray) (a2_0 : Int) (a2_1 : Int) (a2_2 : Int) (r : Bool) (w : World) (h : becketlaw03_ChunkBack.f k a0 a1 a2_0 a2_1 a2_2 = some r) :
    Calls Try.prog 13 #[.string a0, .string a1, .agg #[.int .i64 a2_0, .int .i64 a2_1, .int .i64 a2_2]] w fun e w' => e = .returned (.bool r) ∧ Below w.heap.size w w' := by
  have hu41 := Try.underlying41
  have hu27 := Try.underlying27
  have hu30 := Try.underlying30
  have HB := Aside0.mk (Below.refl w.heap.size w)
  have H : ((becketlaw03_up.f k).bind fun t168 => (if (a0.size : Int) > 3000 then (becketlaw03_ChunkBack.j0 k a0 a1 t168 true a2_0 a2_1 a2_2) else (becketlaw03_ChunkBack.j0 k a0 a1 t168 (decide ((a1.size : Int) > 3000)) a2_0 a2_1 a2_2))) = some r := h
  clear h
  replace H := Option.bind_eq_some_iff.mp H
  obtain ⟨t168, A40, H⟩ := H
  replace H : (if (a0.size : Int) > 3000 then (becketlaw03_ChunkBack.j0 k a0 a1 t168 true a2_0 a2_1 a2_2) else (becketlaw03_ChunkBack.j0 k a0 a1 t168 (decide ((a1.size : Int) > 3000)) a2_0 a2_1 a2_2)) = some r := H
  have A4 := Aside0.mk A40
  clear A40
  have HC5 := Aside0.mk H
  clear H
  go_enter Try.func13, Try.ntmps13
  go_upto_region 2 with (first | ((with_reducible refine gate_dst (N := 5) rfl ?_); (try (refine gate_guard (by rfl) ?_; dsimp only)); refine box_event ?hg (N := 5) ?hd (cs := #[.int .i64 a2_0, .int .i64 a2_1, .int .i64 a2_2]) (t := 41) ?hr ?_; (case hd => rfl); (case hg => rfl); (case hr => first | (go_simp; done) | (go_simp; rfl)); intro gb167 hg w6 hbox hb; have n0_ := Aside0.mk (below_step (by repeat (first | (with_reducible first | exact HB.out | apply below_alloc | apply pw_below_drewN | apply below_drew1) | exact HB.out)) hb); have n1_ := Aside0.mk (hbox); have n2_ := Aside0.mk ((by rw [hg]; exact (below_size (by repeat (first | (with_reducible first | exact HB.out | apply below_alloc | apply pw_below_drewN | apply below_drew1) | exact HB.out))) : w.heap.size ≤ gb167)); have n3_ := Aside0.mk ((by rw [hg]; exact (below_size (by repeat (first | (with_reducible first | exact HB.out | apply below_alloc | apply pw_below_drewN | apply below_drew1) | exact HB.out))) : w.heap.size ≤ gb167)); clear HB; have HB := n0_; have BK167 := n1_; have GW167 := n2_; have GE167 := n3_; clear n0_ n1_ n2_ n3_; clear hb hbox hg) | (go_at_call 23; (with_reducible refine (becketlaw03_up.calls k  t168 _ A4.out).mono ?_); rintro e w7 ⟨rfl, hb⟩; have n0_ := Aside0.mk (blk_below (g := gb167) (o := .cells #[.int .i64 a2_0, .int .i64 a2_1, .int .i64 a2_2] 41 (0, 0)) (by (with_reducible repeat (first | refine blk_drewN ?_ _ | refine blk_drew ?_ | refine blk_alloc ?_ _)); exact BK167.out) hb); have n1_ := Aside0.mk (below_step (by repeat (first | (with_reducible first | exact HB.out | apply below_alloc | apply pw_below_drewN | apply below_drew1 | refine below_set ?_ GE167.out) | exact HB.out)) hb); clear BK167; clear HB; have BK167 := n0_; have HB := n1_; clear n0_ n1_; (try clear hb); (try clear hb2); (try clear hk); (try clear hi)))
  repeat (go_quiet (first | ((with_reducible refine gate_dst (N := 5) rfl ?_); (try (refine gate_guard (by rfl) ?_; dsimp only)); refine box_event ?hg (N := 5) ?hd (cs := #[.int .i64 a2_0, .int .i64 a2_1, .int .i64 a2_2]) (t := 41) ?hr ?_; (case hd => rfl); (case hg => rfl); (case hr => first | (go_simp; done) | (go_simp; rfl)); intro gb167 hg w6 hbox hb; have n0_ := Aside0.mk (below_step (by repeat (first | (with_reducible first | exact HB.out | apply below_alloc | apply pw_below_drewN | apply below_drew1) | exact HB.out)) hb); have n1_ := Aside0.mk (hbox); have n2_ := Aside0.mk ((by rw [hg]; exact (below_size (by repeat (first | (with_reducible first | exact HB.out | apply below_alloc | apply pw_below_drewN | apply below_drew1) | exact HB.out))) : w.heap.size ≤ gb167)); have n3_ := Aside0.mk ((by rw [hg]; exact (below_size (by repeat (first | (with_reducible first | exact HB.out | apply below_alloc | apply pw_below_drewN | apply below_drew1) | exact HB.out))) : w.heap.size ≤ gb167)); clear HB; have HB := n0_; have BK167 := n1_; have GW167 := n2_; have GE167 := n3_; clear n0_ n1_ n2_ n3_; clear hb hbox hg) | (go_at_call 23; (with_reducible refine (becketlaw03_up.calls k  t168 _ A4.out).mono ?_); rintro e w7 ⟨rfl, hb⟩; have n0_ := Aside0.mk (blk_below (g := gb167) (o := .cells #[.int .i64 a2_0, .int .i64 a2_1, .int .i64 a2_2] 41 (0, 0)) (by (with_reducible repeat (first | refine blk_drewN ?_ _ | refine blk_drew ?_ | refine blk_alloc ?_ _)); exact BK167.out) hb); have n1_ := Aside0.mk (below_step (by repeat (first | (with_reducible first | exact HB.out | apply below_alloc | apply pw_below_drewN | apply below_drew1 | refine below_set ?_ GE167.out) | exact HB.out)) hb); clear BK167; clear HB; have BK167 := n0_; have HB := n1_; clear n0_ n1_; (try clear hb); (try clear hb2); (try clear hk); (try clear hi))); go_upto_region 2 with (first | ((with_reducible refine gate_dst (N := 5) rfl ?_); (try (refine gate_guard (by rfl) ?_; dsimp only)); refine box_event ?hg (N := 5) ?hd (cs := #[.int .i64 a2_0, .int .i64 a2_1, .int .i64 a2_2]) (t := 41) ?hr ?_; (case hd => rfl); (case hg => rfl); (case hr => first | (go_simp; done) | (go_simp; rfl)); intro gb167 hg w6 hbox hb; have n0_ := Aside0.mk (below_step (by repeat (first | (with_reducible first | exact HB.out | apply below_alloc | apply pw_below_drewN | apply below_drew1) | exact HB.out)) hb); have n1_ := Aside0.mk (hbox); have n2_ := Aside0.mk ((by rw [hg]; exact (below_size (by repeat (first | (with_reducible first | exact HB.out | apply below_alloc | apply pw_below_drewN | apply below_drew1) | exact HB.out))) : w.heap.size ≤ gb167)); have n3_ := Aside0.mk ((by rw [hg]; exact (below_size (by repeat (first | (with_reducible first | exact HB.out | apply below_alloc | apply pw_below_drewN | apply below_drew1) | exact HB.out))) : w.heap.size ≤ gb167)); clear HB; have HB := n0_; have BK167 := n1_; have GW167 := n2_; have GE167 := n3_; clear n0_ n1_ n2_ n3_; clear hb hbox hg) | (go_at_call 23; (with_reducible refine (becketlaw03_up.calls k  t168 _ A4.out).mono ?_); rintro e w7 ⟨rfl, hb⟩; have n0_ := Aside0.mk (blk_below (g := gb167) (o := .cells #[.int .i64 a2_0, .int .i64 a2_1, .int .i64 a2_2] 41 (0, 0)) (by (with_reducible repeat (first | refine blk_drewN ?_ _ | refine blk_drew ?_ | refine blk_alloc ?_ _)); exact BK167.out) hb); have n1_ := Aside0.mk (below_step (by repeat (first | (with_reducible first | exact HB.out | apply below_alloc | apply pw_below_drewN | apply below_drew1 | refine below_set ?_ GE167.out) | exact HB.out)) hb); clear BK167; clear HB; have BK167 := n0_; have HB := n1_; clear n0_ n1_; (try clear hb); (try clear hb2); (try clear hk); (try clear hi))))
  (try simp only [Act.put, List.setIfInBounds_toArray, List.set_cons_zero, List.set_cons_succ])
  go_cut [22] (fun v22 wc => ∃ (kq : Nat) (x22_4 : Bool), v22 = .bool x22_4 ∧ Aside0 (becketlaw03_ChunkBack.j0 kq a0 a1 t168 x22_4 a2_0 a2_1 a2_2 = some r) ∧ Aside0 (kq ≤ k) ∧ Aside0 (wc.heap[gb167]? = some (.cells #[.int .i64 a2_0, .int .i64 a2_1, .int .i64 a2_2] 41 (0, 0))) ∧ Aside0 (Below w.heap.size w wc))
  case first =>
    have H := HC5.out
    clear HC5
    by_cases c8 : (a0.size : Int) > 3000
    · rw [if_pos c8] at H
      have c8b0 : decide (3000 < (a0.size : Int)) = true := decide_eq_true c8
      have c8b1 : decide (3000 < a0.size) = true := decide_eq_true (by omega)
      clear c8
      (first | rw [c8b0] | (simp only [i64_w, i32_w]; rw [c8b0]) | skip)
      have H' := Aside0.mk H
      clear H
      go_wp2
      repeat (go_quiet (fail); try go_wp2)
      go_meet
      case rel => exact ⟨_, (true), (by first | rfl | (simp; done) | (simp [*]; done)), H', ⟨by first | omega | exact Nat.le_refl _⟩, ⟨by (with_reducible repeat (first | refine blk_drewN ?_ _ | refine blk_drew ?_ | refine blk_alloc ?_ _)); exact BK167.out⟩, ⟨by repeat (first | (with_reducible first | exact HB.out | apply below_alloc | apply pw_below_drewN | apply below_drew1 | refine below_set ?_ GE167.out) | exact HB.out)⟩⟩
    · rw [if_neg c8] at H
      have c8b0 : decide (3000 < (a0.size : Int)) = false := decide_eq_false c8
      have c8b1 : decide (3000 < a0.size) = false := decide_eq_false (by omega)
      clear c8
      (first | rw [c8b0] | (simp only [i64_w, i32_w]; rw [c8b0]) | skip)
      have H' := Aside0.mk H
      clear H
      go_wp2
      repeat (go_quiet (fail); try go_wp2)
      go_meet
      case rel => exact ⟨_, (decide ((a1.size : Int) > 3000)), (by first | rfl | (simp; done) | (simp [*]; done)), H', ⟨by first | omega | exact Nat.le_refl _⟩, ⟨by (with_reducible repeat (first | refine blk_drewN ?_ _ | refine blk_drew ?_ | refine blk_alloc ?_ _)); exact BK167.out⟩, ⟨by repeat (first | (with_reducible first | exact HB.out | apply below_alloc | apply pw_below_drewN | apply below_drew1 | refine below_set ?_ GE167.out) | exact HB.out)⟩⟩
  case rest =>
    clear HC5
    try clear c1
    try clear p2
    try clear c8
    try clear c8b0
    try clear c8b1
    obtain ⟨kq, x22_4, rfl, HA, HJ4, BK167, HB⟩ := hcut
    cases kq with
    | zero => exact absurd HA.out (by simp [becketlaw03_ChunkBack.j0])
    | succ kj4 =>
      have H := HA.out
      clear HA
      simp only [becketlaw03_ChunkBack.j0] at H
      by_cases c9 : x22_4 = true
      · subst c9
        have H1 : (some t168) = some r := by first | (rw [if_pos rfl] at H; with_reducible exact H) | exact (if_pos rfl).symm.trans H | (simp only [if_true, eq_self_iff_true] at H ⊢; exact H)
        clear H
        have H := H1
        clear H1
        obtain rfl := Option.some.inj H
        go_wp2
        repeat (go_quiet (fail); try go_wp2)
        go_ret
        exact ⟨by first | rfl | (have q1_ := of_decide_eq_true (by assumption : decide (a0.size + a1.size ≤ 9223372036854775807) = true); rw [show wrap64 ((a0.size : Int) + (a1.size : Int)) = (a0.size : Int) + (a1.size : Int) from by unfold wrap64; omega]; rfl) | (simp [errW_none, errW_some] <;> rfl) | (simp [*, errW_none, errW_some] <;> rfl), by repeat (first | (with_reducible first | exact HB.out | apply below_alloc | apply pw_below_drewN | apply below_drew1 | refine below_set ?_ GE167.out) | exact HB.out)⟩
      · replace c9 := Bool.eq_false_iff.mpr c9
        subst c9
        have H1 : ((chunk_Split.f kj4 a0 a2_0 a2_1 a2_2).bind fun bt169 => (if bt169.2.isNone = true then (becketlaw03_ChunkBack.l0 kj4 a0 a1 t168 bt169.1 0 a2_0 a2_1 a2_2) else (some t168))) = some r := by rw [if_neg (show ¬ (false = true) by decide)] at H; exact H
        clear H
        have H := H1
        clear H1
        replace H := Option.bind_eq_some_iff.mp H
        obtain ⟨⟨t169, t172⟩, A100, H⟩ := H
        replace H : (if t172.isNone = true then (becketlaw03_ChunkBack.l0 kj4 a0 a1 t168 t169 0 a2_0 a2_1 a2_2) else (some t168)) = some r := H
        have A10 := Aside0.mk A100
        clear A100
        rcases t172 with _ | q173
        · have H1 : (becketlaw03_ChunkBack.l0 kj4 a0 a1 t168 t169 0 a2_0 a2_1 a2_2) = some r := by rw [if_pos (show (none : Option Int).isNone = true by rfl)] at H; exact H
          clear H
          have H := H1
          clear H1
          try simp only [errW_none, errW_some]
          have H' := Aside0.mk H
          clear H
          have hcz11_0 : wc.cell? ⟨gb167, 0, none⟩ = some (.int .i64 a2_0) := (blk_cell BK167.out 0).trans rfl
          have hcz11_1 : wc.cell? ⟨gb167, 1, none⟩ = some (.int .i64 a2_1) := (blk_cell BK167.out 1).trans rfl
          have hcz11_2 : wc.cell? ⟨gb167, 2, none⟩ = some (.int .i64 a2_2) := (blk_cell BK167.out 2).trans rfl
          have hfz11_0 := blk_frozen BK167.out 0
          have hfz11_1 := blk_frozen BK167.out 1
          have hfz11_2 := blk_frozen BK167.out 2
          go_wp2_with (first | (go_at_call 24; (with_reducible refine (chunk_Split.calls kj4 a0 a2_0 a2_1 a2_2 t169 none _ A10.out).mono ?_); rintro e w12 ⟨v170, rfl, ho0, hb⟩; have n0_ := Aside0.mk (Kd.R_lower ho0 (below_size (by repeat (first | (with_reducible first | exact HB.out | apply below_alloc | apply pw_below_drewN | apply below_drew1 | refine below_set ?_ GE167.out) | exact HB.out)))); have n1_ := Aside0.mk (blk_below (g := gb167) (o := .cells #[.int .i64 a2_0, .int .i64 a2_1, .int .i64 a2_2] 41 (0, 0)) (by (with_reducible repeat (first | refine blk_drewN ?_ _ | refine blk_drew ?_ | refine blk_alloc ?_ _)); exact BK167.out) hb); have n2_ := Aside0.mk (below_step (by repeat (first | (with_reducible first | exact HB.out | apply below_alloc | apply pw_below_drewN | apply below_drew1 | refine below_set ?_ GE167.out) | exact HB.out)) hb); clear BK167; clear HB; have HO171 := n0_; have BK167 := n1_; have HB := n2_; clear n0_ n1_ n2_; (try clear hb); (try clear hb2); (try clear hk); (try clear hi); (try clear ho0); (try simp only [errW_none, errW_some])))
          repeat (go_quiet (first | (go_at_call 24; (with_reducible refine (chunk_Split.calls kj4 a0 a2_0 a2_1 a2_2 t169 none _ A10.out).mono ?_); rintro e w12 ⟨v170, rfl, ho0, hb⟩; have n0_ := Aside0.mk (Kd.R_lower ho0 (below_size (by repeat (first | (with_reducible first | exact HB.out | apply below_alloc | apply pw_below_drewN | apply below_drew1 | refine below_set ?_ GE167.out) | exact HB.out)))); have n1_ := Aside0.mk (blk_below (g := gb167) (o := .cells #[.int .i64 a2_0, .int .i64 a2_1, .int .i64 a2_2] 41 (0, 0)) (by (with_reducible repeat (first | refine blk_drewN ?_ _ | refine blk_drew ?_ | refine blk_alloc ?_ _)); exact BK167.out) hb); have n2_ := Aside0.mk (below_step (by repeat (first | (with_reducible first | exact HB.out | apply below_alloc | apply pw_below_drewN | apply below_drew1 | refine below_set ?_ GE167.out) | exact HB.out)) hb); clear BK167; clear HB; have HO171 := n0_; have BK167 := n1_; have HB := n2_; clear n0_ n1_ n2_; (try clear hb); (try clear hb2); (try clear hk); (try clear hi); (try clear ho0); (try simp only [errW_none, errW_some]))); try go_wp2_with (first | (go_at_call 24; (with_reducible refine (chunk_Split.calls kj4 a0 a2_0 a2_1 a2_2 t169 none _ A10.out).mono ?_); rintro e w12 ⟨v170, rfl, ho0, hb⟩; have n0_ := Aside0.mk (Kd.R_lower ho0 (below_size (by repeat (first | (with_reducible first | exact HB.out | apply below_alloc | apply pw_below_drewN | apply below_drew1 | refine below_set ?_ GE167.out) | exact HB.out)))); have n1_ := Aside0.mk (blk_below (g := gb167) (o := .cells #[.int .i64 a2_0, .int .i64 a2_1, .int .i64 a2_2] 41 (0, 0)) (by (with_reducible repeat (first | refine blk_drewN ?_ _ | refine blk_drew ?_ | refine blk_alloc ?_ _)); exact BK167.out) hb); have n2_ := Aside0.mk (below_step (by repeat (first | (with_reducible first | exact HB.out | apply below_alloc | apply pw_below_drewN | apply below_drew1 | refine below_set ?_ GE167.out) | exact HB.out)) hb); clear BK167; clear HB; have HO171 := n0_; have BK167 := n1_; have HB := n2_; clear n0_ n1_ n2_; (try clear hb); (try clear hb2); (try clear hk); (try clear hi); (try clear ho0); (try simp only [errW_none, errW_some]))))
          go_loopg [10] kj4 (fun kq v10 w' => ∃ (x10_2 : Int), v10 = .int .i64 x10_2 ∧ Aside0 (becketlaw03_ChunkBack.l0 kq a0 a1 t168 t169 x10_2 a2_0 a2_1 a2_2 = some r) ∧ Aside0 (kq ≤ kj4) ∧ Aside0 (Kd.R Kd.string 9 w' w.heap.size (fun _ => True) v170 t169) ∧ Aside0 (w'.heap[gb167]? = some (.cells #[.int .i64 a2_0, .int .i64 a2_1, .int .i64 a2_2] 41 (0, 0))) ∧ Aside0 (Below w.heap.size w w'))
          case atStart => exact ⟨(0), (by first | rfl | (simp; done) | (simp [*]; done)), H', ⟨Nat.le_refl _⟩, ⟨by (with_reducible repeat (first | apply Kd.R_alloc | apply Kd.R_drewN | apply Kd.R_drew)); exact HO171.out⟩, ⟨by (with_reducible repeat (first | refine blk_drewN ?_ _ | refine blk_drew ?_ | refine blk_alloc ?_ _)); exact BK167.out⟩, ⟨by repeat (first | (with_reducible first | exact HB.out | apply below_alloc | apply pw_below_drewN | apply below_drew1 | refine below_set ?_ GE167.out) | exact HB.out)⟩⟩
          case round =>
            clear H'
            try clear c1
            try clear q1
            try clear p2
            try clear c8
            try clear c8b0
            try clear c8b1
            try clear c9
            try clear hcz11_0
            try clear hcz11_1
            try clear hcz11_2
            try clear hfz11_0
            try clear hfz11_1
            try clear hfz11_2
            try clear p2
            try clear q173
            obtain ⟨x10_2, rfl, HA, HK2, HO_8, BK167, HB⟩ := hrel
            cases gk with
            | zero => exact absurd HA.out (by simp [becketlaw03_ChunkBack.l0])
            | succ k2 =>
              have H := HA.out
              clear HA
              simp only [becketlaw03_ChunkBack.l0] at H
              by_cases c13 : x10_2 < (t169.length : Int)
              · rw [if_pos c13] at H
                have c13b0 : decide (x10_2 < (t169.length : Int)) = true := decide_eq_true c13
                clear c13
                by_cases c14 : 0 ≤ x10_2
                · rw [if_pos c14] at H
                  have c14b0 : decide (0 ≤ x10_2) = true := decide_eq_true c14
                  clear c14
                  by_cases c15 : ((rdOf ByteArray.empty t169 x10_2).size : Int) > a2_1
                  · rw [if_pos c15] at H
                    have c15b0 : decide (a2_1 < ((rdOf ByteArray.empty t169 x10_2).size : Int)) = true := decide_eq_true c15
                    clear c15
                    obtain rfl := Option.some.inj H
                    obtain ⟨Ao16, co16, eo16⟩ := Kd.R_slice HO_8.out
                    subst eo16
                    have p174 : 0 ≤ (x10_2 : Int) := of_decide_eq_true (by first | (with_reducible assumption) | assumption)
                    have q174 : x10_2 < (t169.length : Int) := of_decide_eq_true (by first | (with_reducible assumption) | assumption)
                    obtain ⟨ad174, e174, hx174_0⟩ := Kd.at_string (Kd.R_reads' HO_8.out).2.2 x10_2 p174 q174
                    cases e174
                    replace p174 := eq_true p174
                    replace q174 := eq_true q174
                    have hcz17_0 : wr.cell? ⟨gb167, 0, none⟩ = some (.int .i64 a2_0) := (blk_cell BK167.out 0).trans rfl
                    have hcz17_1 : wr.cell? ⟨gb167, 1, none⟩ = some (.int .i64 a2_1) := (blk_cell BK167.out 1).trans rfl
                    have hcz17_2 : wr.cell? ⟨gb167, 2, none⟩ = some (.int .i64 a2_2) := (blk_cell BK167.out 2).trans rfl
                    have hfz17_0 := blk_frozen BK167.out 0
                    have hfz17_1 := blk_frozen BK167.out 1
                    have hfz17_2 := blk_frozen BK167.out 2
                    go_wp2
                    repeat (go_quiet (fail); try go_wp2)
                    go_ret
                    exact ⟨by first | rfl | (have q1_ := of_decide_eq_true (by assumption : decide (a0.size + a1.size ≤ 9223372036854775807) = true); rw [show wrap64 ((a0.size : Int) + (a1.size : Int)) = (a0.size : Int) + (a1.size : Int) from by unfold wrap64; omega]; rfl) | (simp [errW_none, errW_some] <;> rfl) | (simp [*, errW_none, errW_some] <;> rfl), by repeat (first | (with_reducible first | exact HB.out | apply below_alloc | apply pw_below_drewN | apply below_drew1 | refine below_set ?_ GE167.out) | exact HB.out)⟩
                  · rw [if_neg c15] at H
                    have c15b0 : decide (a2_1 < ((rdOf ByteArray.empty t169 x10_2).size : Int)) = false := decide_eq_false c15
                    clear c15
                    by_cases c18 : ((rdOf ByteArray.empty t169 x10_2).size : Int) < 1
                    · rw [if_pos c18] at H
                      have c18b0 : decide (((rdOf ByteArray.empty t169 x10_2).size : Int) < 1) = true := decide_eq_true c18
                      have c18b1 : decide ((rdOf ByteArray.empty t169 x10_2).size < 1) = true := decide_eq_true (by omega)
                      clear c18
                      obtain rfl := Option.some.inj H
                      obtain ⟨Ao19, co19, eo19⟩ := Kd.R_slice HO_8.out
                      subst eo19
                      have p174 : 0 ≤ (x10_2 : Int) := of_decide_eq_true (by first | (with_reducible assumption) | assumption)
                      have q174 : x10_2 < (t169.length : Int) := of_decide_eq_true (by first | (with_reducible assumption) | assumption)
                      obtain ⟨ad174, e174, hx174_0⟩ := Kd.at_string (Kd.R_reads' HO_8.out).2.2 x10_2 p174 q174
                      cases e174
                      replace p174 := eq_true p174
                      replace q174 := eq_true q174
                      have hcz20_0 : wr.cell? ⟨gb167, 0, none⟩ = some (.int .i64 a2_0) := (blk_cell BK167.out 0).trans rfl
                      have hcz20_1 : wr.cell? ⟨gb167, 1, none⟩ = some (.int .i64 a2_1) := (blk_cell BK167.out 1).trans rfl
                      have hcz20_2 : wr.cell? ⟨gb167, 2, none⟩ = some (.int .i64 a2_2) := (blk_cell BK167.out 2).trans rfl
                      have hfz20_0 := blk_frozen BK167.out 0
                      have hfz20_1 := blk_frozen BK167.out 1
                      have hfz20_2 := blk_frozen BK167.out 2
                      have p175 : 0 ≤ (x10_2 : Int) := of_decide_eq_true (by first | (with_reducible assumption) | assumption)
                      have q175 : x10_2 < (t169.length : Int) := of_decide_eq_true (by first | (with_reducible assumption) | assumption)
                      obtain ⟨ad175, e175, hx175_0⟩ := Kd.at_string (Kd.R_reads' HO_8.out).2.2 x10_2 p175 q175
                      obtain rfl : ad174 = ad175 := (by injection e175)
                      replace p175 := eq_true p175
                      replace q175 := eq_true q175
                      go_wp2
                      repeat (go_quiet (fail); try go_wp2)
                      go_ret
                      exact ⟨by first | rfl | (have q1_ := of_decide_eq_true (by assumption : decide (a0.size + a1.size ≤ 9223372036854775807) = true); rw [show wrap64 ((a0.size : Int) + (a1.size : Int)) = (a0.size : Int) + (a1.size : Int) from by unfold wrap64; omega]; rfl) | (simp [errW_none, errW_some] <;> rfl) | (simp [*, errW_none, errW_some] <;> rfl), by repeat (first | (with_reducible first | exact HB.out | apply below_alloc | apply pw_below_drewN | apply below_drew1 | refine below_set ?_ GE167.out) | exact HB.out)⟩
                    · rw [if_neg c18] at H
                      have c18b0 : decide (((rdOf ByteArray.empty t169 x10_2).size : Int) < 1) = false := decide_eq_false c18
                      have c18b1 : decide ((rdOf ByteArray.empty t169 x10_2).size < 1) = false := decide_eq_false (by omega)
                      clear c18
                      by_cases c21 : x10_2 < (wrap64 ((t169.length : Int) - 1))
                      · rw [if_pos c21] at H
                        have c21b0 : decide (x10_2 < (wrap64 ((t169.length : Int) - 1))) = true := decide_eq_true c21
                        clear c21
                        by_cases c22 : ((rdOf ByteArray.empty t169 x10_2).size : Int) < a2_0
                        · rw [if_pos c22] at H
                          have c22b0 : decide (((rdOf ByteArray.empty t169 x10_2).size : Int) < a2_0) = true := decide_eq_true c22
                          clear c22
                          obtain rfl := Option.some.inj H
                          obtain ⟨Ao23, co23, eo23⟩ := Kd.R_slice HO_8.out
                          subst eo23
                          have p174 : 0 ≤ (x10_2 : Int) := of_decide_eq_true (by first | (with_reducible assumption) | assumption)
                          have q174 : x10_2 < (t169.length : Int) := of_decide_eq_true (by first | (with_reducible assumption) | assumption)
                          obtain ⟨ad174, e174, hx174_0⟩ := Kd.at_string (Kd.R_reads' HO_8.out).2.2 x10_2 p174 q174
                          cases e174
                          replace p174 := eq_true p174
                          replace q174 := eq_true q174
                          have hcz24_0 : wr.cell? ⟨gb167, 0, none⟩ = some (.int .i64 a2_0) := (blk_cell BK167.out 0).trans rfl
                          have hcz24_1 : wr.cell? ⟨gb167, 1, none⟩ = some (.int .i64 a2_1) := (blk_cell BK167.out 1).trans rfl
                          have hcz24_2 : wr.cell? ⟨gb167, 2, none⟩ = some (.int .i64 a2_2) := (blk_cell BK167.out 2).trans rfl
                          have hfz24_0 := blk_frozen BK167.out 0
                          have hfz24_1 := blk_frozen BK167.out 1
                          have hfz24_2 := blk_frozen BK167.out 2
                          have p175 : 0 ≤ (x10_2 : Int) := of_decide_eq_true (by first | (with_reducible assumption) | assumption)
                          have q175 : x10_2 < (t169.length : Int) := of_decide_eq_true (by first | (with_reducible assumption) | assumption)
                          obtain ⟨ad175, e175, hx175_0⟩ := Kd.at_string (Kd.R_reads' HO_8.out).2.2 x10_2 p175 q175
                          obtain rfl : ad174 = ad175 := (by injection e175)
                          replace p175 := eq_true p175
                          replace q175 := eq_true q175
                          have p176 : 0 ≤ (x10_2 : Int) := of_decide_eq_true (by first | (with_reducible assumption) | assumption)
                          have q176 : x10_2 < (t169.length : Int) := of_decide_eq_true (by first | (with_reducible assumption) | assumption)
                          obtain ⟨ad176, e176, hx176_0⟩ := Kd.at_string (Kd.R_reads' HO_8.out).2.2 x10_2 p176 q176
                          obtain rfl : ad174 = ad176 := (by injection e176)
                          replace p176 := eq_true p176
                          replace q176 := eq_true q176
                          go_wp2
                          repeat (go_quiet (fail); try go_wp2)
                          go_ret
                          exact ⟨by first | rfl | (have q1_ := of_decide_eq_true (by assumption : decide (a0.size + a1.size ≤ 9223372036854775807) = true); rw [show wrap64 ((a0.size : Int) + (a1.size : Int)) = (a0.size : Int) + (a1.size : Int) from by unfold wrap64; omega]; rfl) | (simp [errW_none, errW_some] <;> rfl) | (simp [*, errW_none, errW_some] <;> rfl), by repeat (first | (with_reducible first | exact HB.out | apply below_alloc | apply pw_below_drewN | apply below_drew1 | refine below_set ?_ GE167.out) | exact HB.out)⟩
                        · rw [if_neg c22] at H
                          have c22b0 : decide (((rdOf ByteArray.empty t169 x10_2).size : Int) < a2_0) = false := decide_eq_false c22
                          clear c22
                          have H' := Aside0.mk H
                          clear H
                          obtain ⟨Ao25, co25, eo25⟩ := Kd.R_slice HO_8.out
                          subst eo25
                          have p174 : 0 ≤ (x10_2 : Int) := of_decide_eq_true (by first | (with_reducible assumption) | assumption)
                          have q174 : x10_2 < (t169.length : Int) := of_decide_eq_true (by first | (with_reducible assumption) | assumption)
                          obtain ⟨ad174, e174, hx174_0⟩ := Kd.at_string (Kd.R_reads' HO_8.out).2.2 x10_2 p174 q174
                          cases e174
                          replace p174 := eq_true p174
                          replace q174 := eq_true q174
                          have hcz26_0 : wr.cell? ⟨gb167, 0, none⟩ = some (.int .i64 a2_0) := (blk_cell BK167.out 0).trans rfl
                          have hcz26_1 : wr.cell? ⟨gb167, 1, none⟩ = some (.int .i64 a2_1) := (blk_cell BK167.out 1).trans rfl
                          have hcz26_2 : wr.cell? ⟨gb167, 2, none⟩ = some (.int .i64 a2_2) := (blk_cell BK167.out 2).trans rfl
                          have hfz26_0 := blk_frozen BK167.out 0
                          have hfz26_1 := blk_frozen BK167.out 1
                          have hfz26_2 := blk_frozen BK167.out 2
                          have p175 : 0 ≤ (x10_2 : Int) := of_decide_eq_true (by first | (with_reducible assumption) | assumption)
                          have q175 : x10_2 < (t169.length : Int) := of_decide_eq_true (by first | (with_reducible assumption) | assumption)
                          obtain ⟨ad175, e175, hx175_0⟩ := Kd.at_string (Kd.R_reads' HO_8.out).2.2 x10_2 p175 q175
                          obtain rfl : ad174 = ad175 := (by injection e175)
                          replace p175 := eq_true p175
                          replace q175 := eq_true q175
                          have p176 : 0 ≤ (x10_2 : Int) := of_decide_eq_true (by first | (with_reducible assumption) | assumption)
                          have q176 : x10_2 < (t169.length : Int) := of_decide_eq_true (by first | (with_reducible assumption) | assumption)
                          obtain ⟨ad176, e176, hx176_0⟩ := Kd.at_string (Kd.R_reads' HO_8.out).2.2 x10_2 p176 q176
                          obtain rfl : ad174 = ad176 := (by injection e176)
                          replace p176 := eq_true p176
                          replace q176 := eq_true q176
                          go_wp2
                          repeat (go_quiet (fail); try go_wp2)
                          go_roundg k2
                          case measure => have := HJ4.out; have := HK2.out; omega
                          case rel => exact ⟨(wrap64 (x10_2 + 1)), (by first | rfl | (simp; done) | (simp [*]; done)), H', ⟨by have := HJ4.out; have := HK2.out; omega⟩, ⟨by (with_reducible repeat (first | apply Kd.R_alloc | apply Kd.R_drewN | apply Kd.R_drew)); exact HO_8.out⟩, ⟨by (with_reducible repeat (first | refine blk_drewN ?_ _ | refine blk_drew ?_ | refine blk_alloc ?_ _)); exact BK167.out⟩, ⟨by repeat (first | (with_reducible first | exact HB.out | apply below_alloc | apply pw_below_drewN | apply below_drew1 | refine below_set ?_ GE167.out) | exact HB.out)⟩⟩
                      · rw [if_neg c21] at H
                        have c21b0 : decide (x10_2 < (wrap64 ((t169.length : Int) - 1))) = false := decide_eq_false c21
                        clear c21
                        have H' := Aside0.mk H
                        clear H
                        obtain ⟨Ao27, co27, eo27⟩ := Kd.R_slice HO_8.out
                        subst eo27
                        have p174 : 0 ≤ (x10_2 : Int) := of_decide_eq_true (by first | (with_reducible assumption) | assumption)
                        have q174 : x10_2 < (t169.length : Int) := of_decide_eq_true (by first | (with_reducible assumption) | assumption)
                        obtain ⟨ad174, e174, hx174_0⟩ := Kd.at_string (Kd.R_reads' HO_8.out).2.2 x10_2 p174 q174
                        cases e174
                        replace p174 := eq_true p174
                        replace q174 := eq_true q174
                        have hcz28_0 : wr.cell? ⟨gb167, 0, none⟩ = some (.int .i64 a2_0) := (blk_cell BK167.out 0).trans rfl
                        have hcz28_1 : wr.cell? ⟨gb167, 1, none⟩ = some (.int .i64 a2_1) := (blk_cell BK167.out 1).trans rfl
                        have hcz28_2 : wr.cell? ⟨gb167, 2, none⟩ = some (.int .i64 a2_2) := (blk_cell BK167.out 2).trans rfl
                        have hfz28_0 := blk_frozen BK167.out 0
                        have hfz28_1 := blk_frozen BK167.out 1
                        have hfz28_2 := blk_frozen BK167.out 2
                        have p175 : 0 ≤ (x10_2 : Int) := of_decide_eq_true (by first | (with_reducible assumption) | assumption)
                        have q175 : x10_2 < (t169.length : Int) := of_decide_eq_true (by first | (with_reducible assumption) | assumption)
                        obtain ⟨ad175, e175, hx175_0⟩ := Kd.at_string (Kd.R_reads' HO_8.out).2.2 x10_2 p175 q175
                        obtain rfl : ad174 = ad175 := (by injection e175)
                        replace p175 := eq_true p175
                        replace q175 := eq_true q175
                        go_wp2
                        repeat (go_quiet (fail); try go_wp2)
                        go_roundg k2
                        case measure => have := HJ4.out; have := HK2.out; omega
                        case rel => exact ⟨(wrap64 (x10_2 + 1)), (by first | rfl | (simp; done) | (simp [*]; done)), H', ⟨by have := HJ4.out; have := HK2.out; omega⟩, ⟨by (with_reducible repeat (first | apply Kd.R_alloc | apply Kd.R_drewN | apply Kd.R_drew)); exact HO_8.out⟩, ⟨by (with_reducible repeat (first | refine blk_drewN ?_ _ | refine blk_drew ?_ | refine blk_alloc ?_ _)); exact BK167.out⟩, ⟨by repeat (first | (with_reducible first | exact HB.out | apply below_alloc | apply pw_below_drewN | apply below_drew1 | refine below_set ?_ GE167.out) | exact HB.out)⟩⟩
                · rw [if_neg c14] at H
                  exact absurd H (by simp)
              · rw [if_neg c13] at H
                have c13b0 : decide (x10_2 < (t169.length : Int)) = false := decide_eq_false c13
                clear c13
                replace H := Option.bind_eq_some_iff.mp H
                obtain ⟨t177, A290, H⟩ := H
                replace H : (if t177.toList = a0.toList then (if a0.size + a1.size ≤ 9223372036854775807 then ((chunk_Split.f k2 (a0 ++ a1) a2_0 a2_1 a2_2).bind fun bt178 => (if bt178.2.isNone = true then (becketlaw03_ChunkBack.l1 k2 t168 t169 bt178.1 0) else (if t168 = true then (some (decide ((wrap64 ((a0.size : Int) + (a1.size : Int))) > 1024))) else (some false)))) else (none)) else (some false)) = some r := H
                have A29 := Aside0.mk A290
                clear A290
                by_cases c30 : t177.toList = a0.toList
                · rw [if_pos c30] at H
                  have c30b0 : (t177.toList == a0.toList) = true := beq_iff_eq.mpr c30
                  have c30b1 : (t177.toList != a0.toList) = false := bne_eq_false_iff_eq.mpr c30
                  clear c30
                  by_cases c31 : a0.size + a1.size ≤ 9223372036854775807
                  · rw [if_pos c31] at H
                    have c31b0 := eq_true c31
                    have c31b1 : decide (a0.size + a1.size ≤ 9223372036854775807) = true := decide_eq_true c31
                    try have c31b2 : (9223372036854775807 < a0.size + a1.size) = False := eq_false (Nat.not_lt.2 c31)
                    replace H := Option.bind_eq_some_iff.mp H
                    obtain ⟨⟨t178, t181⟩, A320, H⟩ := H
                    replace H : (if t181.isNone = true then (becketlaw03_ChunkBack.l1 k2 t168 t169 t178 0) else (if t168 = true then (some (decide ((wrap64 ((a0.size : Int) + (a1.size : Int))) > 1024))) else (some false))) = some r := H
                    have A32 := Aside0.mk A320
                    clear A320
                    rcases t181 with _ | q182
                    · have H1 : (becketlaw03_ChunkBack.l1 k2 t168 t169 t178 0) = some r := by rw [if_pos (show (none : Option Int).isNone = true by rfl)] at H; exact H
                      clear H
                      have H := H1
                      clear H1
                      try simp only [errW_none, errW_some]
                      have H' := Aside0.mk H
                      clear H
                      obtain ⟨Ao33, co33, eo33⟩ := Kd.R_slice HO_8.out
                      subst eo33
                      go_wp2_with (first | (go_at_call 36; (with_reducible refine (chunk_Join.calls _ _ t169 t177 _ ?side1 ?side2 A29.out).mono ?_); (case side1 => repeat (first | exact (Kd.R_reads' HO_8.out).2.2 | (with_reducible refine Kd.C_alloc ?_ _) | (with_reducible refine Kd.C_drewN ?_ _) | (with_reducible refine Kd.C_drew ?_))); (case side2 => exact (Kd.R_reads' HO_8.out).2.1); rintro e w34 ⟨rfl, hb⟩; have n0_ := Aside0.mk (Kd.R_below (by (with_reducible repeat (first | apply Kd.R_alloc | apply Kd.R_drewN | apply Kd.R_drew)); exact HO_8.out) hb); have n1_ := Aside0.mk (blk_below (g := gb167) (o := .cells #[.int .i64 a2_0, .int .i64 a2_1, .int .i64 a2_2] 41 (0, 0)) (by (with_reducible repeat (first | refine blk_drewN ?_ _ | refine blk_drew ?_ | refine blk_alloc ?_ _)); exact BK167.out) hb); have n2_ := Aside0.mk (below_step (by repeat (first | (with_reducible first | exact HB.out | apply below_alloc | apply pw_below_drewN | apply below_drew1 | refine below_set ?_ GE167.out) | exact HB.out)) hb); clear HO_8; clear BK167; clear HB; have HO_8 := n0_; have BK167 := n1_; have HB := n2_; clear n0_ n1_ n2_; (try clear hb); (try clear hb2); (try clear hk); (try clear hi); have hcz35_0 : w34.cell? ⟨gb167, 0, none⟩ = some (.int .i64 a2_0) := (blk_cell BK167.out 0).trans rfl; have hcz35_1 : w34.cell? ⟨gb167, 1, none⟩ = some (.int .i64 a2_1) := (blk_cell BK167.out 1).trans rfl; have hcz35_2 : w34.cell? ⟨gb167, 2, none⟩ = some (.int .i64 a2_2) := (blk_cell BK167.out 2).trans rfl; have hfz35_0 := blk_frozen BK167.out 0; have hfz35_1 := blk_frozen BK167.out 1; have hfz35_2 := blk_frozen BK167.out 2) | (go_at_call 24; (with_reducible refine (chunk_Split.calls k2 (a0 ++ a1) a2_0 a2_1 a2_2 t178 none _ A32.out).mono ?_); rintro e w36 ⟨v179, rfl, ho0, hb⟩; have n0_ := Aside0.mk (Kd.R_elder' (by (with_reducible repeat (first | apply Kd.R_alloc | apply Kd.R_drewN | apply Kd.R_drew)); exact HO_8.out) (Kd.R_base ho0) hb); have n1_ := Aside0.mk (Kd.R_lower (Kd.R_new' ho0 (Kd.R_lt (by (with_reducible repeat (first | apply Kd.R_alloc | apply Kd.R_drewN | apply Kd.R_drew)); exact HO_8.out))) (below_size (by repeat (first | (with_reducible first | exact HB.out | apply below_alloc | apply pw_below_drewN | apply below_drew1 | refine below_set ?_ GE167.out) | exact HB.out)))); have n2_ := Aside0.mk (blk_below (g := gb167) (o := .cells #[.int .i64 a2_0, .int .i64 a2_1, .int .i64 a2_2] 41 (0, 0)) (by (with_reducible repeat (first | refine blk_drewN ?_ _ | refine blk_drew ?_ | refine blk_alloc ?_ _)); exact BK167.out) hb); have n3_ := Aside0.mk (below_step (by repeat (first | (with_reducible first | exact HB.out | apply below_alloc | apply pw_below_drewN | apply below_drew1 | refine below_set ?_ GE167.out) | exact HB.out)) hb); clear HO_8; clear BK167; clear HB; have HO_8 := n0_; have HO180 := n1_; have BK167 := n2_; have HB := n3_; clear n0_ n1_ n2_ n3_; (try clear hb); (try clear hb2); (try clear hk); (try clear hi); (try clear ho0); (try simp only [errW_none, errW_some])))
                      repeat (go_quiet (first | (go_at_call 36; (with_reducible refine (chunk_Join.calls _ _ t169 t177 _ ?side1 ?side2 A29.out).mono ?_); (case side1 => repeat (first | exact (Kd.R_reads' HO_8.out).2.2 | (with_reducible refine Kd.C_alloc ?_ _) | (with_reducible refine Kd.C_drewN ?_ _) | (with_reducible refine Kd.C_drew ?_))); (case side2 => exact (Kd.R_reads' HO_8.out).2.1); rintro e w34 ⟨rfl, hb⟩; have n0_ := Aside0.mk (Kd.R_below (by (with_reducible repeat (first | apply Kd.R_alloc | apply Kd.R_drewN | apply Kd.R_drew)); exact HO_8.out) hb); have n1_ := Aside0.mk (blk_below (g := gb167) (o := .cells #[.int .i64 a2_0, .int .i64 a2_1, .int .i64 a2_2] 41 (0, 0)) (by (with_reducible repeat (first | refine blk_drewN ?_ _ | refine blk_drew ?_ | refine blk_alloc ?_ _)); exact BK167.out) hb); have n2_ := Aside0.mk (below_step (by repeat (first | (with_reducible first | exact HB.out | apply below_alloc | apply pw_below_drewN | apply below_drew1 | refine below_set ?_ GE167.out) | exact HB.out)) hb); clear HO_8; clear BK167; clear HB; have HO_8 := n0_; have BK167 := n1_; have HB := n2_; clear n0_ n1_ n2_; (try clear hb); (try clear hb2); (try clear hk); (try clear hi); have hcz35_0 : w34.cell? ⟨gb167, 0, none⟩ = some (.int .i64 a2_0) := (blk_cell BK167.out 0).trans rfl; have hcz35_1 : w34.cell? ⟨gb167, 1, none⟩ = some (.int .i64 a2_1) := (blk_cell BK167.out 1).trans rfl; have hcz35_2 : w34.cell? ⟨gb167, 2, none⟩ = some (.int .i64 a2_2) := (blk_cell BK167.out 2).trans rfl; have hfz35_0 := blk_frozen BK167.out 0; have hfz35_1 := blk_frozen BK167.out 1; have hfz35_2 := blk_frozen BK167.out 2) | (go_at_call 24; (with_reducible refine (chunk_Split.calls k2 (a0 ++ a1) a2_0 a2_1 a2_2 t178 none _ A32.out).mono ?_); rintro e w36 ⟨v179, rfl, ho0, hb⟩; have n0_ := Aside0.mk (Kd.R_elder' (by (with_reducible repeat (first | apply Kd.R_alloc | apply Kd.R_drewN | apply Kd.R_drew)); exact HO_8.out) (Kd.R_base ho0) hb); have n1_ := Aside0.mk (Kd.R_lower (Kd.R_new' ho0 (Kd.R_lt (by (with_reducible repeat (first | apply Kd.R_alloc | apply Kd.R_drewN | apply Kd.R_drew)); exact HO_8.out))) (below_size (by repeat (first | (with_reducible first | exact HB.out | apply below_alloc | apply pw_below_drewN | apply below_drew1 | refine below_set ?_ GE167.out) | exact HB.out)))); have n2_ := Aside0.mk (blk_below (g := gb167) (o := .cells #[.int .i64 a2_0, .int .i64 a2_1, .int .i64 a2_2] 41 (0, 0)) (by (with_reducible repeat (first | refine blk_drewN ?_ _ | refine blk_drew ?_ | refine blk_alloc ?_ _)); exact BK167.out) hb); have n3_ := Aside0.mk (below_step (by repeat (first | (with_reducible first | exact HB.out | apply below_alloc | apply pw_below_drewN | apply below_drew1 | refine below_set ?_ GE167.out) | exact HB.out)) hb); clear HO_8; clear BK167; clear HB; have HO_8 := n0_; have HO180 := n1_; have BK167 := n2_; have HB := n3_; clear n0_ n1_ n2_ n3_; (try clear hb); (try clear hb2); (try clear hk); (try clear hi); (try clear ho0); (try simp only [errW_none, errW_some]))); try go_wp2_with (first | (go_at_call 36; (with_reducible refine (chunk_Join.calls _ _ t169 t177 _ ?side1 ?side2 A29.out).mono ?_); (case side1 => repeat (first | exact (Kd.R_reads' HO_8.out).2.2 | (with_reducible refine Kd.C_alloc ?_ _) | (with_reducible refine Kd.C_drewN ?_ _) | (with_reducible refine Kd.C_drew ?_))); (case side2 => exact (Kd.R_reads' HO_8.out).2.1); rintro e w34 ⟨rfl, hb⟩; have n0_ := Aside0.mk (Kd.R_below (by (with_reducible repeat (first | apply Kd.R_alloc | apply Kd.R_drewN | apply Kd.R_drew)); exact HO_8.out) hb); have n1_ := Aside0.mk (blk_below (g := gb167) (o := .cells #[.int .i64 a2_0, .int .i64 a2_1, .int .i64 a2_2] 41 (0, 0)) (by (with_reducible repeat (first | refine blk_drewN ?_ _ | refine blk_drew ?_ | refine blk_alloc ?_ _)); exact BK167.out) hb); have n2_ := Aside0.mk (below_step (by repeat (first | (with_reducible first | exact HB.out | apply below_alloc | apply pw_below_drewN | apply below_drew1 | refine below_set ?_ GE167.out) | exact HB.out)) hb); clear HO_8; clear BK167; clear HB; have HO_8 := n0_; have BK167 := n1_; have HB := n2_; clear n0_ n1_ n2_; (try clear hb); (try clear hb2); (try clear hk); (try clear hi); have hcz35_0 : w34.cell? ⟨gb167, 0, none⟩ = some (.int .i64 a2_0) := (blk_cell BK167.out 0).trans rfl; have hcz35_1 : w34.cell? ⟨gb167, 1, none⟩ = some (.int .i64 a2_1) := (blk_cell BK167.out 1).trans rfl; have hcz35_2 : w34.cell? ⟨gb167, 2, none⟩ = some (.int .i64 a2_2) := (blk_cell BK167.out 2).trans rfl; have hfz35_0 := blk_frozen BK167.out 0; have hfz35_1 := blk_frozen BK167.out 1; have hfz35_2 := blk_frozen BK167.out 2) | (go_at_call 24; (with_reducible refine (chunk_Split.calls k2 (a0 ++ a1) a2_0 a2_1 a2_2 t178 none _ A32.out).mono ?_); rintro e w36 ⟨v179, rfl, ho0, hb⟩; have n0_ := Aside0.mk (Kd.R_elder' (by (with_reducible repeat (first | apply Kd.R_alloc | apply Kd.R_drewN | apply Kd.R_drew)); exact HO_8.out) (Kd.R_base ho0) hb); have n1_ := Aside0.mk (Kd.R_lower (Kd.R_new' ho0 (Kd.R_lt (by (with_reducible repeat (first | apply Kd.R_alloc | apply Kd.R_drewN | apply Kd.R_drew)); exact HO_8.out))) (below_size (by repeat (first | (with_reducible first | exact HB.out | apply below_alloc | apply pw_below_drewN | apply below_drew1 | refine below_set ?_ GE167.out) | exact HB.out)))); have n2_ := Aside0.mk (blk_below (g := gb167) (o := .cells #[.int .i64 a2_0, .int .i64 a2_1, .int .i64 a2_2] 41 (0, 0)) (by (with_reducible repeat (first | refine blk_drewN ?_ _ | refine blk_drew ?_ | refine blk_alloc ?_ _)); exact BK167.out) hb); have n3_ := Aside0.mk (below_step (by repeat (first | (with_reducible first | exact HB.out | apply below_alloc | apply pw_below_drewN | apply below_drew1 | refine below_set ?_ GE167.out) | exact HB.out)) hb); clear HO_8; clear BK167; clear HB; have HO_8 := n0_; have HO180 := n1_; have BK167 := n2_; have HB := n3_; clear n0_ n1_ n2_ n3_; (try clear hb); (try clear hb2); (try clear hk); (try clear hi); (try clear ho0); (try simp only [errW_none, errW_some]))))
                      go_loopg [13] k2 (fun kq v13 w' => ∃ (x13_3 : Int), v13 = .int .i64 x13_3 ∧ Aside0 (becketlaw03_ChunkBack.l1 kq t168 t169 t178 x13_3 = some r) ∧ Aside0 (kq ≤ k2) ∧ Aside0 (Kd.R Kd.string 9 w' w.heap.size (fun k_ => some k_ ≠ (v179 : Value).ownBlock) (.slice Ao33 t169.length co33) t169) ∧ Aside0 (Kd.R Kd.string 9 w' w.heap.size (fun k_ => some k_ ≠ ((.slice Ao33 t169.length co33) : Value).ownBlock) v179 t178) ∧ Aside0 (w'.heap[gb167]? = some (.cells #[.int .i64 a2_0, .int .i64 a2_1, .int .i64 a2_2] 41 (0, 0))) ∧ Aside0 (Below w.heap.size w w'))
                      case atStart => exact ⟨(0), (by first | rfl | (simp; done) | (simp [*]; done)), H', ⟨Nat.le_refl _⟩, ⟨by (with_reducible repeat (first | apply Kd.R_alloc | apply Kd.R_drewN | apply Kd.R_drew)); exact Kd.R_mono HO_8.out (fun _ hk => hk.2)⟩, ⟨by (with_reducible repeat (first | apply Kd.R_alloc | apply Kd.R_drewN | apply Kd.R_drew)); exact Kd.R_mono HO180.out (fun _ hk => hk.2)⟩, ⟨by (with_reducible repeat (first | refine blk_drewN ?_ _ | refine blk_drew ?_ | refine blk_alloc ?_ _)); exact BK167.out⟩, ⟨by repeat (first | (with_reducible first | exact HB.out | apply below_alloc | apply pw_below_drewN | apply below_drew1 | refine below_set ?_ GE167.out) | exact HB.out)⟩⟩
                      case round =>
                        clear H'
                        try clear c1
                        try clear p1
                        try clear q1
                        try clear hx1
                        try clear c2
                        try clear p2
                        try clear c3
                        try clear p6
                        try clear c8
                        try clear c8b0
                        try clear c8b1
                        try clear c9
                        try clear c13
                        try clear c13b0
                        try clear c14
                        try clear c14b0
                        try clear c15
                        try clear c15b0
                        try clear p17
                        try clear q17
                        try clear hx17
                        try clear c18
                        try clear c18b0
                        try clear c18b1
                        try clear q18
                        try clear c21
                        try clear c21b0
                        try clear c22
                        try clear c22b0
                        try clear c30
                        try clear c30b0
                        try clear c30b1
                        try clear c31
                        try clear c31b0
                        try clear c31b1
                        try clear c31b2
                        try clear hcz11_0
                        try clear hcz11_1
                        try clear hcz11_2
                        try clear hcz17_0
                        try clear hcz17_1
                        try clear hcz17_2
                        try clear hcz20_0
                        try clear hcz20_1
                        try clear hcz20_2
                        try clear hcz24_0
                        try clear hcz24_1
                        try clear hcz24_2
                        try clear hcz26_0
                        try clear hcz26_1
                        try clear hcz26_2
                        try clear hcz28_0
                        try clear hcz28_1
                        try clear hcz28_2
                        try clear hcz35_0
                        try clear hcz35_1
                        try clear hcz35_2
                        try clear hfz11_0
                        try clear hfz11_1
                        try clear hfz11_2
                        try clear hfz17_0
                        try clear hfz17_1
                        try clear hfz17_2
                        try clear hfz20_0
                        try clear hfz20_1
                        try clear hfz20_2
                        try clear hfz24_0
                        try clear hfz24_1
                        try clear hfz24_2
                        try clear hfz26_0
                        try clear hfz26_1
                        try clear hfz26_2
                        try clear hfz28_0
                        try clear hfz28_1
                        try clear hfz28_2
                        try clear hfz35_0
                        try clear hfz35_1
                        try clear hfz35_2
                        try clear hx174_0
                        try clear hx175_0
                        try clear hx176_0
                        try clear p174
                        try clear p175
                        try clear p176
                        try clear p2
                        try clear q1
                        try clear q173
                        try clear q174
                        try clear q175
                        try clear q176
                        try clear q182
                        obtain ⟨x13_3, rfl, HA, HK3, HO_8, HO_11, BK167, HB⟩ := hrel
                        cases gk with
                        | zero => exact absurd HA.out (by simp [becketlaw03_ChunkBack.l1])
                        | succ k3 =>
                          have H := HA.out
                          clear HA
                          simp only [becketlaw03_ChunkBack.l1] at H
                          by_cases c37 : x13_3 < (wrap64 ((t169.length : Int) - 1))
                          · rw [if_pos c37] at H
                            have c37b0 : decide (x13_3 < (wrap64 ((t169.length : Int) - 1))) = true := decide_eq_true c37
                            clear c37
                            by_cases c38 : x13_3 ≥ (t178.length : Int)
                            · rw [if_pos c38] at H
                              have c38b0 : decide ((t178.length : Int) ≤ x13_3) = true := decide_eq_true c38
                              clear c38
                              obtain rfl := Option.some.inj H
                              obtain ⟨Ao39, co39, eo39⟩ := Kd.R_slice HO_11.out
                              subst eo39
                              go_wp2
                              repeat (go_quiet (fail); try go_wp2)
                              go_ret
                              exact ⟨by first | rfl | (have q1_ := of_decide_eq_true (by assumption : decide (a0.size + a1.size ≤ 9223372036854775807) = true); rw [show wrap64 ((a0.size : Int) + (a1.size : Int)) = (a0.size : Int) + (a1.size : Int) from by unfold wrap64; omega]; rfl) | (simp [errW_none, errW_some] <;> rfl) | (simp [*, errW_none, errW_some] <;> rfl), by repeat (first | (with_reducible first | exact HB.out | apply below_alloc | apply pw_below_drewN | apply below_drew1 | refine below_set ?_ GE167.out) | exact HB.out)⟩
                            · rw [if_neg c38] at H
                              have c38b0 : decide ((t178.length : Int) ≤ x13_3) = false := decide_eq_false c38
                              clear c38
                              by_cases c40 : 0 ≤ x13_3
                              · rw [if_pos c40] at H
                                have c40b0 : decide (0 ≤ x13_3) = true := decide_eq_true c40
                                clear c40
                                by_cases c41 : x13_3 < (t178.length : Int)
                                · rw [if_pos c41] at H
                                  have c41b0 : decide (x13_3 < (t178.length : Int)) = true := decide_eq_true c41
                                  clear c41
                                  by_cases c42 : x13_3 < (t169.length : Int)
                                  · rw [if_pos c42] at H
                                    have c42b0 : decide (x13_3 < (t169.length : Int)) = true := decide_eq_true c42
                                    clear c42
                                    by_cases c43 : (rdOf ByteArray.empty t178 x13_3).toList = (rdOf ByteArray.empty t169 x13_3).toList
                                    · rw [if_pos c43] at H
                                      have c43b0 : ((rdOf ByteArray.empty t178 x13_3).toList == (rdOf ByteArray.empty t169 x13_3).toList) = true := beq_iff_eq.mpr c43
                                      have c43b1 : ((rdOf ByteArray.empty t178 x13_3).toList != (rdOf ByteArray.empty t169 x13_3).toList) = false := bne_eq_false_iff_eq.mpr c43
                                      clear c43
                                      have H' := Aside0.mk H
                                      clear H
                                      obtain ⟨Ao44, co44, eo44⟩ := Kd.R_slice HO_11.out
                                      subst eo44
                                      have p183 : 0 ≤ (x13_3 : Int) := of_decide_eq_true (by first | (with_reducible assumption) | assumption)
                                      have q183 : x13_3 < (t178.length : Int) := of_decide_eq_true (by first | (with_reducible assumption) | assumption)
                                      obtain ⟨ad183, e183, hx183_0⟩ := Kd.at_string (Kd.R_reads' HO_11.out).2.2 x13_3 p183 q183
                                      cases e183
                                      replace p183 := eq_true p183
                                      replace q183 := eq_true q183
                                      have p184 : 0 ≤ (x13_3 : Int) := of_decide_eq_true (by first | (with_reducible assumption) | assumption)
                                      have q184 : x13_3 < (t169.length : Int) := of_decide_eq_true (by first | (with_reducible assumption) | assumption)
                                      obtain ⟨ad184, e184, hx184_0⟩ := Kd.at_string (Kd.R_reads' HO_8.out).2.2 x13_3 p184 q184
                                      cases e184
                                      replace p184 := eq_true p184
                                      replace q184 := eq_true q184
                                      go_wp2
                                      repeat (go_quiet (fail); try go_wp2)
                                      go_roundg k3
                                      case measure => have := HJ4.out; have := HK2.out; have := HK3.out; omega
                                      case rel => exact ⟨(wrap64 (x13_3 + 1)), (by first | rfl | (simp; done) | (simp [*]; done)), H', ⟨by have := HJ4.out; have := HK2.out; have := HK3.out; omega⟩, ⟨by (with_reducible repeat (first | apply Kd.R_alloc | apply Kd.R_drewN | apply Kd.R_drew)); exact HO_8.out⟩, ⟨by (with_reducible repeat (first | apply Kd.R_alloc | apply Kd.R_drewN | apply Kd.R_drew)); exact HO_11.out⟩, ⟨by (with_reducible repeat (first | refine blk_drewN ?_ _ | refine blk_drew ?_ | refine blk_alloc ?_ _)); exact BK167.out⟩, ⟨by repeat (first | (with_reducible first | exact HB.out | apply below_alloc | apply pw_below_drewN | apply below_drew1 | refine below_set ?_ GE167.out) | exact HB.out)⟩⟩
                                    · rw [if_neg c43] at H
                                      have c43b0 : ((rdOf ByteArray.empty t178 x13_3).toList == (rdOf ByteArray.empty t169 x13_3).toList) = false := beq_eq_false_iff_ne.mpr c43
                                      have c43b1 : ((rdOf ByteArray.empty t178 x13_3).toList != (rdOf ByteArray.empty t169 x13_3).toList) = true := bne_iff_ne.mpr c43
                                      obtain rfl := Option.some.inj H
                                      obtain ⟨Ao45, co45, eo45⟩ := Kd.R_slice HO_11.out
                                      subst eo45
                                      have p183 : 0 ≤ (x13_3 : Int) := of_decide_eq_true (by first | (with_reducible assumption) | assumption)
                                      have q183 : x13_3 < (t178.length : Int) := of_decide_eq_true (by first | (with_reducible assumption) | assumption)
                                      obtain ⟨ad183, e183, hx183_0⟩ := Kd.at_string (Kd.R_reads' HO_11.out).2.2 x13_3 p183 q183
                                      cases e183
                                      replace p183 := eq_true p183
                                      replace q183 := eq_true q183
                                      have p184 : 0 ≤ (x13_3 : Int) := of_decide_eq_true (by first | (with_reducible assumption) | assumption)
                                      have q184 : x13_3 < (t169.length : Int) := of_decide_eq_true (by first | (with_reducible assumption) | assumption)
                                      obtain ⟨ad184, e184, hx184_0⟩ := Kd.at_string (Kd.R_reads' HO_8.out).2.2 x13_3 p184 q184
                                      cases e184
                                      replace p184 := eq_true p184
                                      replace q184 := eq_true q184
                                      go_wp2
                                      repeat (go_quiet (fail); try go_wp2)
                                      go_ret
                                      exact ⟨by first | rfl | (have q1_ := of_decide_eq_true (by assumption : decide (a0.size + a1.size ≤ 9223372036854775807) = true); rw [show wrap64 ((a0.size : Int) + (a1.size : Int)) = (a0.size : Int) + (a1.size : Int) from by unfold wrap64; omega]; rfl) | (simp [errW_none, errW_some] <;> rfl) | (simp [*, errW_none, errW_some] <;> rfl), by repeat (first | (with_reducible first | exact HB.out | apply below_alloc | apply pw_below_drewN | apply below_drew1 | refine below_set ?_ GE167.out) | exact HB.out)⟩
                                  · rw [if_neg c42] at H
                                    exact absurd H (by simp)
                                · rw [if_neg c41] at H
                                  exact absurd H (by simp)
                              · rw [if_neg c40] at H
                                exact absurd H (by simp)
                          · rw [if_neg c37] at H
                            have c37b0 : decide (x13_3 < (wrap64 ((t169.length : Int) - 1))) = false := decide_eq_false c37
                            clear c37
                            obtain rfl := Option.some.inj H
                            go_wp2
                            repeat (go_quiet (fail); try go_wp2)
                            go_ret
                            exact ⟨by first | rfl | (have q1_ := of_decide_eq_true (by assumption : decide (a0.size + a1.size ≤ 9223372036854775807) = true); rw [show wrap64 ((a0.size : Int) + (a1.size : Int)) = (a0.size : Int) + (a1.size : Int) from by unfold wrap64; omega]; rfl) | (simp [errW_none, errW_some] <;> rfl) | (simp [*, errW_none, errW_some] <;> rfl), by repeat (first | (with_reducible first | exact HB.out | apply below_alloc | apply pw_below_drewN | apply below_drew1 | refine below_set ?_ GE167.out) | exact HB.out)⟩
                    · have H1 : (if t168 = true then (some (decide ((wrap64 ((a0.size : Int) + (a1.size : Int))) > 1024))) else (some false)) = some r := by rw [if_neg (show ¬ (some q182).isNone = true by simp)] at H; exact H
                      clear H
                      have H := H1
                      clear H1
                      try simp only [errW_none, errW_some]
                      by_cases c46 : t168 = true
                      · subst c46
                        have H1 : (some (decide ((wrap64 ((a0.size : Int) + (a1.size : Int))) > 1024))) = some r := by first | (rw [if_pos rfl] at H; with_reducible exact H) | exact (if_pos rfl).symm.trans H | (simp only [if_true, eq_self_iff_true] at H ⊢; exact H)
                        clear H
                        have H := H1
                        clear H1
                        obtain rfl := Option.some.inj H
                        obtain ⟨Ao47, co47, eo47⟩ := Kd.R_slice HO_8.out
                        subst eo47
                        go_wp2_with (first | (go_at_call 36; (with_reducible refine (chunk_Join.calls _ _ t169 t177 _ ?side1 ?side2 A29.out).mono ?_); (case side1 => repeat (first | exact (Kd.R_reads' HO_8.out).2.2 | (with_reducible refine Kd.C_alloc ?_ _) | (with_reducible refine Kd.C_drewN ?_ _) | (with_reducible refine Kd.C_drew ?_))); (case side2 => exact (Kd.R_reads' HO_8.out).2.1); rintro e w48 ⟨rfl, hb⟩; have n0_ := Aside0.mk (Kd.R_below (by (with_reducible repeat (first | apply Kd.R_alloc | apply Kd.R_drewN | apply Kd.R_drew)); exact HO_8.out) hb); have n1_ := Aside0.mk (blk_below (g := gb167) (o := .cells #[.int .i64 a2_0, .int .i64 a2_1, .int .i64 a2_2] 41 (0, 0)) (by (with_reducible repeat (first | refine blk_drewN ?_ _ | refine blk_drew ?_ | refine blk_alloc ?_ _)); exact BK167.out) hb); have n2_ := Aside0.mk (below_step (by repeat (first | (with_reducible first | exact HB.out | apply below_alloc | apply pw_below_drewN | apply below_drew1 | refine below_set ?_ GE167.out) | exact HB.out)) hb); clear HO_8; clear BK167; clear HB; have HO_8 := n0_; have BK167 := n1_; have HB := n2_; clear n0_ n1_ n2_; (try clear hb); (try clear hb2); (try clear hk); (try clear hi); have hcz49_0 : w48.cell? ⟨gb167, 0, none⟩ = some (.int .i64 a2_0) := (blk_cell BK167.out 0).trans rfl; have hcz49_1 : w48.cell? ⟨gb167, 1, none⟩ = some (.int .i64 a2_1) := (blk_cell BK167.out 1).trans rfl; have hcz49_2 : w48.cell? ⟨gb167, 2, none⟩ = some (.int .i64 a2_2) := (blk_cell BK167.out 2).trans rfl; have hfz49_0 := blk_frozen BK167.out 0; have hfz49_1 := blk_frozen BK167.out 1; have hfz49_2 := blk_frozen BK167.out 2) | (go_at_call 24; (with_reducible refine (chunk_Split.calls k2 (a0 ++ a1) a2_0 a2_1 a2_2 t178 (some q182) _ A32.out).mono ?_); rintro e w50 ⟨v179, rfl, ho0, hb⟩; have n0_ := Aside0.mk (Kd.R_elder' (by (with_reducible repeat (first | apply Kd.R_alloc | apply Kd.R_drewN | apply Kd.R_drew)); exact HO_8.out) (Kd.R_base ho0) hb); have n1_ := Aside0.mk (Kd.R_lower (Kd.R_new' ho0 (Kd.R_lt (by (with_reducible repeat (first | apply Kd.R_alloc | apply Kd.R_drewN | apply Kd.R_drew)); exact HO_8.out))) (below_size (by repeat (first | (with_reducible first | exact HB.out | apply below_alloc | apply pw_below_drewN | apply below_drew1 | refine below_set ?_ GE167.out) | exact HB.out)))); have n2_ := Aside0.mk (blk_below (g := gb167) (o := .cells #[.int .i64 a2_0, .int .i64 a2_1, .int .i64 a2_2] 41 (0, 0)) (by (with_reducible repeat (first | refine blk_drewN ?_ _ | refine blk_drew ?_ | refine blk_alloc ?_ _)); exact BK167.out) hb); have n3_ := Aside0.mk (below_step (by repeat (first | (with_reducible first | exact HB.out | apply below_alloc | apply pw_below_drewN | apply below_drew1 | refine below_set ?_ GE167.out) | exact HB.out)) hb); clear HO_8; clear BK167; clear HB; have HO_8 := n0_; have HO180 := n1_; have BK167 := n2_; have HB := n3_; clear n0_ n1_ n2_ n3_; (try clear hb); (try clear hb2); (try clear hk); (try clear hi); (try clear ho0); (try simp only [errW_none, errW_some])))
                        repeat (go_quiet (first | (go_at_call 36; (with_reducible refine (chunk_Join.calls _ _ t169 t177 _ ?side1 ?side2 A29.out).mono ?_); (case side1 => repeat (first | exact (Kd.R_reads' HO_8.out).2.2 | (with_reducible refine Kd.C_alloc ?_ _) | (with_reducible refine Kd.C_drewN ?_ _) | (with_reducible refine Kd.C_drew ?_))); (case side2 => exact (Kd.R_reads' HO_8.out).2.1); rintro e w48 ⟨rfl, hb⟩; have n0_ := Aside0.mk (Kd.R_below (by (with_reducible repeat (first | apply Kd.R_alloc | apply Kd.R_drewN | apply Kd.R_drew)); exact HO_8.out) hb); have n1_ := Aside0.mk (blk_below (g := gb167) (o := .cells #[.int .i64 a2_0, .int .i64 a2_1, .int .i64 a2_2] 41 (0, 0)) (by (with_reducible repeat (first | refine blk_drewN ?_ _ | refine blk_drew ?_ | refine blk_alloc ?_ _)); exact BK167.out) hb); have n2_ := Aside0.mk (below_step (by repeat (first | (with_reducible first | exact HB.out | apply below_alloc | apply pw_below_drewN | apply below_drew1 | refine below_set ?_ GE167.out) | exact HB.out)) hb); clear HO_8; clear BK167; clear HB; have HO_8 := n0_; have BK167 := n1_; have HB := n2_; clear n0_ n1_ n2_; (try clear hb); (try clear hb2); (try clear hk); (try clear hi); have hcz49_0 : w48.cell? ⟨gb167, 0, none⟩ = some (.int .i64 a2_0) := (blk_cell BK167.out 0).trans rfl; have hcz49_1 : w48.cell? ⟨gb167, 1, none⟩ = some (.int .i64 a2_1) := (blk_cell BK167.out 1).trans rfl; have hcz49_2 : w48.cell? ⟨gb167, 2, none⟩ = some (.int .i64 a2_2) := (blk_cell BK167.out 2).trans rfl; have hfz49_0 := blk_frozen BK167.out 0; have hfz49_1 := blk_frozen BK167.out 1; have hfz49_2 := blk_frozen BK167.out 2) | (go_at_call 24; (with_reducible refine (chunk_Split.calls k2 (a0 ++ a1) a2_0 a2_1 a2_2 t178 (some q182) _ A32.out).mono ?_); rintro e w50 ⟨v179, rfl, ho0, hb⟩; have n0_ := Aside0.mk (Kd.R_elder' (by (with_reducible repeat (first | apply Kd.R_alloc | apply Kd.R_drewN | apply Kd.R_drew)); exact HO_8.out) (Kd.R_base ho0) hb); have n1_ := Aside0.mk (Kd.R_lower (Kd.R_new' ho0 (Kd.R_lt (by (with_reducible repeat (first | apply Kd.R_alloc | apply Kd.R_drewN | apply Kd.R_drew)); exact HO_8.out))) (below_size (by repeat (first | (with_reducible first | exact HB.out | apply below_alloc | apply pw_below_drewN | apply below_drew1 | refine below_set ?_ GE167.out) | exact HB.out)))); have n2_ := Aside0.mk (blk_below (g := gb167) (o := .cells #[.int .i64 a2_0, .int .i64 a2_1, .int .i64 a2_2] 41 (0, 0)) (by (with_reducible repeat (first | refine blk_drewN ?_ _ | refine blk_drew ?_ | refine blk_alloc ?_ _)); exact BK167.out) hb); have n3_ := Aside0.mk (below_step (by repeat (first | (with_reducible first | exact HB.out | apply below_alloc | apply pw_below_drewN | apply below_drew1 | refine below_set ?_ GE167.out) | exact HB.out)) hb); clear HO_8; clear BK167; clear HB; have HO_8 := n0_; have HO180 := n1_; have BK167 := n2_; have HB := n3_; clear n0_ n1_ n2_ n3_; (try clear hb); (try clear hb2); (try clear hk); (try clear hi); (try clear ho0); (try simp only [errW_none, errW_some]))); try go_wp2_with (first | (go_at_call 36; (with_reducible refine (chunk_Join.calls _ _ t169 t177 _ ?side1 ?side2 A29.out).mono ?_); (case side1 => repeat (first | exact (Kd.R_reads' HO_8.out).2.2 | (with_reducible refine Kd.C_alloc ?_ _) | (with_reducible refine Kd.C_drewN ?_ _) | (with_reducible refine Kd.C_drew ?_))); (case side2 => exact (Kd.R_reads' HO_8.out).2.1); rintro e w48 ⟨rfl, hb⟩; have n0_ := Aside0.mk (Kd.R_below (by (with_reducible repeat (first | apply Kd.R_alloc | apply Kd.R_drewN | apply Kd.R_drew)); exact HO_8.out) hb); have n1_ := Aside0.mk (blk_below (g := gb167) (o := .cells #[.int .i64 a2_0, .int .i64 a2_1, .int .i64 a2_2] 41 (0, 0)) (by (with_reducible repeat (first | refine blk_drewN ?_ _ | refine blk_drew ?_ | refine blk_alloc ?_ _)); exact BK167.out) hb); have n2_ := Aside0.mk (below_step (by repeat (first | (with_reducible first | exact HB.out | apply below_alloc | apply pw_below_drewN | apply below_drew1 | refine below_set ?_ GE167.out) | exact HB.out)) hb); clear HO_8; clear BK167; clear HB; have HO_8 := n0_; have BK167 := n1_; have HB := n2_; clear n0_ n1_ n2_; (try clear hb); (try clear hb2); (try clear hk); (try clear hi); have hcz49_0 : w48.cell? ⟨gb167, 0, none⟩ = some (.int .i64 a2_0) := (blk_cell BK167.out 0).trans rfl; have hcz49_1 : w48.cell? ⟨gb167, 1, none⟩ = some (.int .i64 a2_1) := (blk_cell BK167.out 1).trans rfl; have hcz49_2 : w48.cell? ⟨gb167, 2, none⟩ = some (.int .i64 a2_2) := (blk_cell BK167.out 2).trans rfl; have hfz49_0 := blk_frozen BK167.out 0; have hfz49_1 := blk_frozen BK167.out 1; have hfz49_2 := blk_frozen BK167.out 2) | (go_at_call 24; (with_reducible refine (chunk_Split.calls k2 (a0 ++ a1) a2_0 a2_1 a2_2 t178 (some q182) _ A32.out).mono ?_); rintro e w50 ⟨v179, rfl, ho0, hb⟩; have n0_ := Aside0.mk (Kd.R_elder' (by (with_reducible repeat (first | apply Kd.R_alloc | apply Kd.R_drewN | apply Kd.R_drew)); exact HO_8.out) (Kd.R_base ho0) hb); have n1_ := Aside0.mk (Kd.R_lower (Kd.R_new' ho0 (Kd.R_lt (by (with_reducible repeat (first | apply Kd.R_alloc | apply Kd.R_drewN | apply Kd.R_drew)); exact HO_8.out))) (below_size (by repeat (first | (with_reducible first | exact HB.out | apply below_alloc | apply pw_below_drewN | apply below_drew1 | refine below_set ?_ GE167.out) | exact HB.out)))); have n2_ := Aside0.mk (blk_below (g := gb167) (o := .cells #[.int .i64 a2_0, .int .i64 a2_1, .int .i64 a2_2] 41 (0, 0)) (by (with_reducible repeat (first | refine blk_drewN ?_ _ | refine blk_drew ?_ | refine blk_alloc ?_ _)); exact BK167.out) hb); have n3_ := Aside0.mk (below_step (by repeat (first | (with_reducible first | exact HB.out | apply below_alloc | apply pw_below_drewN | apply below_drew1 | refine below_set ?_ GE167.out) | exact HB.out)) hb); clear HO_8; clear BK167; clear HB; have HO_8 := n0_; have HO180 := n1_; have BK167 := n2_; have HB := n3_; clear n0_ n1_ n2_ n3_; (try clear hb); (try clear hb2); (try clear hk); (try clear hi); (try clear ho0); (try simp only [errW_none, errW_some]))))
                        go_ret
                        exact ⟨by first | rfl | (have q1_ := of_decide_eq_true (by assumption : decide (a0.size + a1.size ≤ 9223372036854775807) = true); rw [show wrap64 ((a0.size : Int) + (a1.size : Int)) = (a0.size : Int) + (a1.size : Int) from by unfold wrap64; omega]; rfl) | (simp [errW_none, errW_some] <;> rfl) | (simp [*, errW_none, errW_some] <;> rfl), by repeat (first | (with_reducible first | exact HB.out | apply below_alloc | apply pw_below_drewN | apply below_drew1 | refine below_set ?_ GE167.out) | exact HB.out)⟩
                      · replace c46 := Bool.eq_false_iff.mpr c46
                        subst c46
                        have H1 : (some false) = some r := by rw [if_neg (show ¬ (false = true) by decide)] at H; exact H
                        clear H
                        have H := H1
                        clear H1
                        obtain rfl := Option.some.inj H
                        obtain ⟨Ao51, co51, eo51⟩ := Kd.R_slice HO_8.out
                        subst eo51
                        go_wp2_with (first | (go_at_call 36; (with_reducible refine (chunk_Join.calls _ _ t169 t177 _ ?side1 ?side2 A29.out).mono ?_); (case side1 => repeat (first | exact (Kd.R_reads' HO_8.out).2.2 | (with_reducible refine Kd.C_alloc ?_ _) | (with_reducible refine Kd.C_drewN ?_ _) | (with_reducible refine Kd.C_drew ?_))); (case side2 => exact (Kd.R_reads' HO_8.out).2.1); rintro e w52 ⟨rfl, hb⟩; have n0_ := Aside0.mk (Kd.R_below (by (with_reducible repeat (first | apply Kd.R_alloc | apply Kd.R_drewN | apply Kd.R_drew)); exact HO_8.out) hb); have n1_ := Aside0.mk (blk_below (g := gb167) (o := .cells #[.int .i64 a2_0, .int .i64 a2_1, .int .i64 a2_2] 41 (0, 0)) (by (with_reducible repeat (first | refine blk_drewN ?_ _ | refine blk_drew ?_ | refine blk_alloc ?_ _)); exact BK167.out) hb); have n2_ := Aside0.mk (below_step (by repeat (first | (with_reducible first | exact HB.out | apply below_alloc | apply pw_below_drewN | apply below_drew1 | refine below_set ?_ GE167.out) | exact HB.out)) hb); clear HO_8; clear BK167; clear HB; have HO_8 := n0_; have BK167 := n1_; have HB := n2_; clear n0_ n1_ n2_; (try clear hb); (try clear hb2); (try clear hk); (try clear hi); have hcz53_0 : w52.cell? ⟨gb167, 0, none⟩ = some (.int .i64 a2_0) := (blk_cell BK167.out 0).trans rfl; have hcz53_1 : w52.cell? ⟨gb167, 1, none⟩ = some (.int .i64 a2_1) := (blk_cell BK167.out 1).trans rfl; have hcz53_2 : w52.cell? ⟨gb167, 2, none⟩ = some (.int .i64 a2_2) := (blk_cell BK167.out 2).trans rfl; have hfz53_0 := blk_frozen BK167.out 0; have hfz53_1 := blk_frozen BK167.out 1; have hfz53_2 := blk_frozen BK167.out 2) | (go_at_call 24; (with_reducible refine (chunk_Split.calls k2 (a0 ++ a1) a2_0 a2_1 a2_2 t178 (some q182) _ A32.out).mono ?_); rintro e w54 ⟨v179, rfl, ho0, hb⟩; have n0_ := Aside0.mk (Kd.R_elder' (by (with_reducible repeat (first | apply Kd.R_alloc | apply Kd.R_drewN | apply Kd.R_drew)); exact HO_8.out) (Kd.R_base ho0) hb); have n1_ := Aside0.mk (Kd.R_lower (Kd.R_new' ho0 (Kd.R_lt (by (with_reducible repeat (first | apply Kd.R_alloc | apply Kd.R_drewN | apply Kd.R_drew)); exact HO_8.out))) (below_size (by repeat (first | (with_reducible first | exact HB.out | apply below_alloc | apply pw_below_drewN | apply below_drew1 | refine below_set ?_ GE167.out) | exact HB.out)))); have n2_ := Aside0.mk (blk_below (g := gb167) (o := .cells #[.int .i64 a2_0, .int .i64 a2_1, .int .i64 a2_2] 41 (0, 0)) (by (with_reducible repeat (first | refine blk_drewN ?_ _ | refine blk_drew ?_ | refine blk_alloc ?_ _)); exact BK167.out) hb); have n3_ := Aside0.mk (below_step (by repeat (first | (with_reducible first | exact HB.out | apply below_alloc | apply pw_below_drewN | apply below_drew1 | refine below_set ?_ GE167.out) | exact HB.out)) hb); clear HO_8; clear BK167; clear HB; have HO_8 := n0_; have HO180 := n1_; have BK167 := n2_; have HB := n3_; clear n0_ n1_ n2_ n3_; (try clear hb); (try clear hb2); (try clear hk); (try clear hi); (try clear ho0); (try simp only [errW_none, errW_some])))
                        repeat (go_quiet (first | (go_at_call 36; (with_reducible refine (chunk_Join.calls _ _ t169 t177 _ ?side1 ?side2 A29.out).mono ?_); (case side1 => repeat (first | exact (Kd.R_reads' HO_8.out).2.2 | (with_reducible refine Kd.C_alloc ?_ _) | (with_reducible refine Kd.C_drewN ?_ _) | (with_reducible refine Kd.C_drew ?_))); (case side2 => exact (Kd.R_reads' HO_8.out).2.1); rintro e w52 ⟨rfl, hb⟩; have n0_ := Aside0.mk (Kd.R_below (by (with_reducible repeat (first | apply Kd.R_alloc | apply Kd.R_drewN | apply Kd.R_drew)); exact HO_8.out) hb); have n1_ := Aside0.mk (blk_below (g := gb167) (o := .cells #[.int .i64 a2_0, .int .i64 a2_1, .int .i64 a2_2] 41 (0, 0)) (by (with_reducible repeat (first | refine blk_drewN ?_ _ | refine blk_drew ?_ | refine blk_alloc ?_ _)); exact BK167.out) hb); have n2_ := Aside0.mk (below_step (by repeat (first | (with_reducible first | exact HB.out | apply below_alloc | apply pw_below_drewN | apply below_drew1 | refine below_set ?_ GE167.out) | exact HB.out)) hb); clear HO_8; clear BK167; clear HB; have HO_8 := n0_; have BK167 := n1_; have HB := n2_; clear n0_ n1_ n2_; (try clear hb); (try clear hb2); (try clear hk); (try clear hi); have hcz53_0 : w52.cell? ⟨gb167, 0, none⟩ = some (.int .i64 a2_0) := (blk_cell BK167.out 0).trans rfl; have hcz53_1 : w52.cell? ⟨gb167, 1, none⟩ = some (.int .i64 a2_1) := (blk_cell BK167.out 1).trans rfl; have hcz53_2 : w52.cell? ⟨gb167, 2, none⟩ = some (.int .i64 a2_2) := (blk_cell BK167.out 2).trans rfl; have hfz53_0 := blk_frozen BK167.out 0; have hfz53_1 := blk_frozen BK167.out 1; have hfz53_2 := blk_frozen BK167.out 2) | (go_at_call 24; (with_reducible refine (chunk_Split.calls k2 (a0 ++ a1) a2_0 a2_1 a2_2 t178 (some q182) _ A32.out).mono ?_); rintro e w54 ⟨v179, rfl, ho0, hb⟩; have n0_ := Aside0.mk (Kd.R_elder' (by (with_reducible repeat (first | apply Kd.R_alloc | apply Kd.R_drewN | apply Kd.R_drew)); exact HO_8.out) (Kd.R_base ho0) hb); have n1_ := Aside0.mk (Kd.R_lower (Kd.R_new' ho0 (Kd.R_lt (by (with_reducible repeat (first | apply Kd.R_alloc | apply Kd.R_drewN | apply Kd.R_drew)); exact HO_8.out))) (below_size (by repeat (first | (with_reducible first | exact HB.out | apply below_alloc | apply pw_below_drewN | apply below_drew1 | refine below_set ?_ GE167.out) | exact HB.out)))); have n2_ := Aside0.mk (blk_below (g := gb167) (o := .cells #[.int .i64 a2_0, .int .i64 a2_1, .int .i64 a2_2] 41 (0, 0)) (by (with_reducible repeat (first | refine blk_drewN ?_ _ | refine blk_drew ?_ | refine blk_alloc ?_ _)); exact BK167.out) hb); have n3_ := Aside0.mk (below_step (by repeat (first | (with_reducible first | exact HB.out | apply below_alloc | apply pw_below_drewN | apply below_drew1 | refine below_set ?_ GE167.out) | exact HB.out)) hb); clear HO_8; clear BK167; clear HB; have HO_8 := n0_; have HO180 := n1_; have BK167 := n2_; have HB := n3_; clear n0_ n1_ n2_ n3_; (try clear hb); (try clear hb2); (try clear hk); (try clear hi); (try clear ho0); (try simp only [errW_none, errW_some]))); try go_wp2_with (first | (go_at_call 36; (with_reducible refine (chunk_Join.calls _ _ t169 t177 _ ?side1 ?side2 A29.out).mono ?_); (case side1 => repeat (first | exact (Kd.R_reads' HO_8.out).2.2 | (with_reducible refine Kd.C_alloc ?_ _) | (with_reducible refine Kd.C_drewN ?_ _) | (with_reducible refine Kd.C_drew ?_))); (case side2 => exact (Kd.R_reads' HO_8.out).2.1); rintro e w52 ⟨rfl, hb⟩; have n0_ := Aside0.mk (Kd.R_below (by (with_reducible repeat (first | apply Kd.R_alloc | apply Kd.R_drewN | apply Kd.R_drew)); exact HO_8.out) hb); have n1_ := Aside0.mk (blk_below (g := gb167) (o := .cells #[.int .i64 a2_0, .int .i64 a2_1, .int .i64 a2_2] 41 (0, 0)) (by (with_reducible repeat (first | refine blk_drewN ?_ _ | refine blk_drew ?_ | refine blk_alloc ?_ _)); exact BK167.out) hb); have n2_ := Aside0.mk (below_step (by repeat (first | (with_reducible first | exact HB.out | apply below_alloc | apply pw_below_drewN | apply below_drew1 | refine below_set ?_ GE167.out) | exact HB.out)) hb); clear HO_8; clear BK167; clear HB; have HO_8 := n0_; have BK167 := n1_; have HB := n2_; clear n0_ n1_ n2_; (try clear hb); (try clear hb2); (try clear hk); (try clear hi); have hcz53_0 : w52.cell? ⟨gb167, 0, none⟩ = some (.int .i64 a2_0) := (blk_cell BK167.out 0).trans rfl; have hcz53_1 : w52.cell? ⟨gb167, 1, none⟩ = some (.int .i64 a2_1) := (blk_cell BK167.out 1).trans rfl; have hcz53_2 : w52.cell? ⟨gb167, 2, none⟩ = some (.int .i64 a2_2) := (blk_cell BK167.out 2).trans rfl; have hfz53_0 := blk_frozen BK167.out 0; have hfz53_1 := blk_frozen BK167.out 1; have hfz53_2 := blk_frozen BK167.out 2) | (go_at_call 24; (with_reducible refine (chunk_Split.calls k2 (a0 ++ a1) a2_0 a2_1 a2_2 t178 (some q182) _ A32.out).mono ?_); rintro e w54 ⟨v179, rfl, ho0, hb⟩; have n0_ := Aside0.mk (Kd.R_elder' (by (with_reducible repeat (first | apply Kd.R_alloc | apply Kd.R_drewN | apply Kd.R_drew)); exact HO_8.out) (Kd.R_base ho0) hb); have n1_ := Aside0.mk (Kd.R_lower (Kd.R_new' ho0 (Kd.R_lt (by (with_reducible repeat (first | apply Kd.R_alloc | apply Kd.R_drewN | apply Kd.R_drew)); exact HO_8.out))) (below_size (by repeat (first | (with_reducible first | exact HB.out | apply below_alloc | apply pw_below_drewN | apply below_drew1 | refine below_set ?_ GE167.out) | exact HB.out)))); have n2_ := Aside0.mk (blk_below (g := gb167) (o := .cells #[.int .i64 a2_0, .int .i64 a2_1, .int .i64 a2_2] 41 (0, 0)) (by (with_reducible repeat (first | refine blk_drewN ?_ _ | refine blk_drew ?_ | refine blk_alloc ?_ _)); exact BK167.out) hb); have n3_ := Aside0.mk (below_step (by repeat (first | (with_reducible first | exact HB.out | apply below_alloc | apply pw_below_drewN | apply below_drew1 | refine below_set ?_ GE167.out) | exact HB.out)) hb); clear HO_8; clear BK167; clear HB; have HO_8 := n0_; have HO180 := n1_; have BK167 := n2_; have HB := n3_; clear n0_ n1_ n2_ n3_; (try clear hb); (try clear hb2); (try clear hk); (try clear hi); (try clear ho0); (try simp only [errW_none, errW_some]))))
                        go_ret
                        exact ⟨by first | rfl | (have q1_ := of_decide_eq_true (by assumption : decide (a0.size + a1.size ≤ 9223372036854775807) = true); rw [show wrap64 ((a0.size : Int) + (a1.size : Int)) = (a0.size : Int) + (a1.size : Int) from by unfold wrap64; omega]; rfl) | (simp [errW_none, errW_some] <;> rfl) | (simp [*, errW_none, errW_some] <;> rfl), by repeat (first | (with_reducible first | exact HB.out | apply below_alloc | apply pw_below_drewN | apply below_drew1 | refine below_set ?_ GE167.out) | exact HB.out)⟩
                  · rw [if_neg c31] at H
                    exact absurd H (by simp)
                · rw [if_neg c30] at H
                  have c30b0 : (t177.toList == a0.toList) = false := beq_eq_false_iff_ne.mpr c30
                  have c30b1 : (t177.toList != a0.toList) = true := bne_iff_ne.mpr c30
                  obtain rfl := Option.some.inj H
                  obtain ⟨Ao55, co55, eo55⟩ := Kd.R_slice HO_8.out
                  subst eo55
                  go_wp2_with (first | (go_at_call 36; (with_reducible refine (chunk_Join.calls _ _ t169 t177 _ ?side1 ?side2 A29.out).mono ?_); (case side1 => repeat (first | exact (Kd.R_reads' HO_8.out).2.2 | (with_reducible refine Kd.C_alloc ?_ _) | (with_reducible refine Kd.C_drewN ?_ _) | (with_reducible refine Kd.C_drew ?_))); (case side2 => exact (Kd.R_reads' HO_8.out).2.1); rintro e w56 ⟨rfl, hb⟩; have n0_ := Aside0.mk (Kd.R_below (by (with_reducible repeat (first | apply Kd.R_alloc | apply Kd.R_drewN | apply Kd.R_drew)); exact HO_8.out) hb); have n1_ := Aside0.mk (blk_below (g := gb167) (o := .cells #[.int .i64 a2_0, .int .i64 a2_1, .int .i64 a2_2] 41 (0, 0)) (by (with_reducible repeat (first | refine blk_drewN ?_ _ | refine blk_drew ?_ | refine blk_alloc ?_ _)); exact BK167.out) hb); have n2_ := Aside0.mk (below_step (by repeat (first | (with_reducible first | exact HB.out | apply below_alloc | apply pw_below_drewN | apply below_drew1 | refine below_set ?_ GE167.out) | exact HB.out)) hb); clear HO_8; clear BK167; clear HB; have HO_8 := n0_; have BK167 := n1_; have HB := n2_; clear n0_ n1_ n2_; (try clear hb); (try clear hb2); (try clear hk); (try clear hi)))
                  repeat (go_quiet (first | (go_at_call 36; (with_reducible refine (chunk_Join.calls _ _ t169 t177 _ ?side1 ?side2 A29.out).mono ?_); (case side1 => repeat (first | exact (Kd.R_reads' HO_8.out).2.2 | (with_reducible refine Kd.C_alloc ?_ _) | (with_reducible refine Kd.C_drewN ?_ _) | (with_reducible refine Kd.C_drew ?_))); (case side2 => exact (Kd.R_reads' HO_8.out).2.1); rintro e w56 ⟨rfl, hb⟩; have n0_ := Aside0.mk (Kd.R_below (by (with_reducible repeat (first | apply Kd.R_alloc | apply Kd.R_drewN | apply Kd.R_drew)); exact HO_8.out) hb); have n1_ := Aside0.mk (blk_below (g := gb167) (o := .cells #[.int .i64 a2_0, .int .i64 a2_1, .int .i64 a2_2] 41 (0, 0)) (by (with_reducible repeat (first | refine blk_drewN ?_ _ | refine blk_drew ?_ | refine blk_alloc ?_ _)); exact BK167.out) hb); have n2_ := Aside0.mk (below_step (by repeat (first | (with_reducible first | exact HB.out | apply below_alloc | apply pw_below_drewN | apply below_drew1 | refine below_set ?_ GE167.out) | exact HB.out)) hb); clear HO_8; clear BK167; clear HB; have HO_8 := n0_; have BK167 := n1_; have HB := n2_; clear n0_ n1_ n2_; (try clear hb); (try clear hb2); (try clear hk); (try clear hi))); try go_wp2_with (first | (go_at_call 36; (with_reducible refine (chunk_Join.calls _ _ t169 t177 _ ?side1 ?side2 A29.out).mono ?_); (case side1 => repeat (first | exact (Kd.R_reads' HO_8.out).2.2 | (with_reducible refine Kd.C_alloc ?_ _) | (with_reducible refine Kd.C_drewN ?_ _) | (with_reducible refine Kd.C_drew ?_))); (case side2 => exact (Kd.R_reads' HO_8.out).2.1); rintro e w56 ⟨rfl, hb⟩; have n0_ := Aside0.mk (Kd.R_below (by (with_reducible repeat (first | apply Kd.R_alloc | apply Kd.R_drewN | apply Kd.R_drew)); exact HO_8.out) hb); have n1_ := Aside0.mk (blk_below (g := gb167) (o := .cells #[.int .i64 a2_0, .int .i64 a2_1, .int .i64 a2_2] 41 (0, 0)) (by (with_reducible repeat (first | refine blk_drewN ?_ _ | refine blk_drew ?_ | refine blk_alloc ?_ _)); exact BK167.out) hb); have n2_ := Aside0.mk (below_step (by repeat (first | (with_reducible first | exact HB.out | apply below_alloc | apply pw_below_drewN | apply below_drew1 | refine below_set ?_ GE167.out) | exact HB.out)) hb); clear HO_8; clear BK167; clear HB; have HO_8 := n0_; have BK167 := n1_; have HB := n2_; clear n0_ n1_ n2_; (try clear hb); (try clear hb2); (try clear hk); (try clear hi))))
                  go_ret
                  exact ⟨by first | rfl | (have q1_ := of_decide_eq_true (by assumption : decide (a0.size + a1.size ≤ 9223372036854775807) = true); rw [show wrap64 ((a0.size : Int) + (a1.size : Int)) = (a0.size : Int) + (a1.size : Int) from by unfold wrap64; omega]; rfl) | (simp [errW_none, errW_some] <;> rfl) | (simp [*, errW_none, errW_some] <;> rfl), by repeat (first | (with_reducible first | exact HB.out | apply below_alloc | apply pw_below_drewN | apply below_drew1 | refine below_set ?_ GE167.out) | exact HB.out)⟩
        · have H1 : (some t168) = some r := by rw [if_neg (show ¬ (some q173).isNone = true by simp)] at H; exact H
          clear H
          have H := H1
          clear H1
          try simp only [errW_none, errW_some]
          obtain rfl := Option.some.inj H
          have hcz57_0 : wc.cell? ⟨gb167, 0, none⟩ = some (.int .i64 a2_0) := (blk_cell BK167.out 0).trans rfl
          have hcz57_1 : wc.cell? ⟨gb167, 1, none⟩ = some (.int .i64 a2_1) := (blk_cell BK167.out 1).trans rfl
          have hcz57_2 : wc.cell? ⟨gb167, 2, none⟩ = some (.int .i64 a2_2) := (blk_cell BK167.out 2).trans rfl
          have hfz57_0 := blk_frozen BK167.out 0
          have hfz57_1 := blk_frozen BK167.out 1
          have hfz57_2 := blk_frozen BK167.out 2
          go_wp2_with (first | (go_at_call 24; (with_reducible refine (chunk_Split.calls kj4 a0 a2_0 a2_1 a2_2 t169 (some q173) _ A10.out).mono ?_); rintro e w58 ⟨v170, rfl, ho0, hb⟩; have n0_ := Aside0.mk (Kd.R_lower ho0 (below_size (by repeat (first | (with_reducible first | exact HB.out | apply below_alloc | apply pw_below_drewN | apply below_drew1 | refine below_set ?_ GE167.out) | exact HB.out)))); have n1_ := Aside0.mk (blk_below (g := gb167) (o := .cells #[.int .i64 a2_0, .int .i64 a2_1, .int .i64 a2_2] 41 (0, 0)) (by (with_reducible repeat (first | refine blk_drewN ?_ _ | refine blk_drew ?_ | refine blk_alloc ?_ _)); exact BK167.out) hb); have n2_ := Aside0.mk (below_step (by repeat (first | (with_reducible first | exact HB.out | apply below_alloc | apply pw_below_drewN | apply below_drew1 | refine below_set ?_ GE167.out) | exact HB.out)) hb); clear BK167; clear HB; have HO171 := n0_; have BK167 := n1_; have HB := n2_; clear n0_ n1_ n2_; (try clear hb); (try clear hb2); (try clear hk); (try clear hi); (try clear ho0); (try simp only [errW_none, errW_some])))
          repeat (go_quiet (first | (go_at_call 24; (with_reducible refine (chunk_Split.calls kj4 a0 a2_0 a2_1 a2_2 t169 (some q173) _ A10.out).mono ?_); rintro e w58 ⟨v170, rfl, ho0, hb⟩; have n0_ := Aside0.mk (Kd.R_lower ho0 (below_size (by repeat (first | (with_reducible first | exact HB.out | apply below_alloc | apply pw_below_drewN | apply below_drew1 | refine below_set ?_ GE167.out) | exact HB.out)))); have n1_ := Aside0.mk (blk_below (g := gb167) (o := .cells #[.int .i64 a2_0, .int .i64 a2_1, .int .i64 a2_2] 41 (0, 0)) (by (with_reducible repeat (first | refine blk_drewN ?_ _ | refine blk_drew ?_ | refine blk_alloc ?_ _)); exact BK167.out) hb); have n2_ := Aside0.mk (below_step (by repeat (first | (with_reducible first | exact HB.out | apply below_alloc | apply pw_below_drewN | apply below_drew1 | refine below_set ?_ GE167.out) | exact HB.out)) hb); clear BK167; clear HB; have HO171 := n0_; have BK167 := n1_; have HB := n2_; clear n0_ n1_ n2_; (try clear hb); (try clear hb2); (try clear hk); (try clear hi); (try clear ho0); (try simp only [errW_none, errW_some]))); try go_wp2_with (first | (go_at_call 24; (with_reducible refine (chunk_Split.calls kj4 a0 a2_0 a2_1 a2_2 t169 (some q173) _ A10.out).mono ?_); rintro e w58 ⟨v170, rfl, ho0, hb⟩; have n0_ := Aside0.mk (Kd.R_lower ho0 (below_size (by repeat (first | (with_reducible first | exact HB.out | apply below_alloc | apply pw_below_drewN | apply below_drew1 | refine below_set ?_ GE167.out) | exact HB.out)))); have n1_ := Aside0.mk (blk_below (g := gb167) (o := .cells #[.int .i64 a2_0, .int .i64 a2_1, .int .i64 a2_2] 41 (0, 0)) (by (with_reducible repeat (first | refine blk_drewN ?_ _ | refine blk_drew ?_ | refine blk_alloc ?_ _)); exact BK167.out) hb); have n2_ := Aside0.mk (below_step (by repeat (first | (with_reducible first | exact HB.out | apply below_alloc | apply pw_below_drewN | apply below_drew1 | refine below_set ?_ GE167.out) | exact HB.out)) hb); clear BK167; clear HB; have HO171 := n0_; have BK167 := n1_; have HB := n2_; clear n0_ n1_ n2_; (try clear hb); (try clear hb2); (try clear hk); (try clear hi); (try clear ho0); (try simp only [errW_none, errW_some]))))
          go_ret
          exact ⟨by first | rfl | (have q1_ := of_decide_eq_true (by assumption : decide (a0.size + a1.size ≤ 9223372036854775807) = true); rw [show wrap64 ((a0.size : Int) + (a1.size : Int)) = (a0.size : Int) + (a1.size : Int) from by unfold wrap64; omega]; rfl) | (simp [errW_none, errW_some] <;> rfl) | (simp [*, errW_none, errW_some] <;> rfl), by repeat (first | (with_reducible first | exact HB.out | apply below_alloc | apply pw_below_drewN | apply below_drew1 | refine below_set ?_ GE167.out) | exact HB.out)⟩

end Go.Proofs.Ytnjikdaicogdgaa.Lc
