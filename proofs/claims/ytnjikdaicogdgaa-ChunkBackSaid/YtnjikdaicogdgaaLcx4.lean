-- Out of the translation, by a program of this session (wip/myprint.py, over the kit's printer). Lean checks it.
import Derived.Test.YtnjikdaicogdgaaLcx0
import Derived.Test.YtnjikdaicogdgaaLcx1
import Derived.Test.YtnjikdaicogdgaaLcx2
import Derived.Test.YtnjikdaicogdgaaLcx3
namespace Go.Proofs.Ytnjikdaicogdgaa.Lc
open Go.RowKit Go.Proofs.YtnjikdaicogdgaaW.PrintWords Go.Proofs.YtnjikdaicogdgaaW.PrintLast Go.Proofs.YtnjikdaicogdgaaW.PrintMore
attribute [local go_sem] max2_int min2_int max_two min_two max_three min_three max_four min_four   -- for this text's walks alone
set_option linter.unusedVariables false
set_option linter.unusedSimpArgs false

attribute [local go_sem] eqlErr neqErr eqlErrNil neqErrNil
/-! ### becketlaw03_ChunkSplits: function 12 -/
mutual
def becketlaw03_ChunkSplits.j0 : Nat → ByteArray → List ByteArray → Bool → Bool → Int → Int → Int → Option (Bool)
  | 0, _, _, _, _, _, _, _ => none
  | k + 1, x0, x2, x7, x20, x150000, x150001, x150002 => if x20 = true then (some x7) else (becketlaw03_ChunkSplits.l0 k x0 x2 x7 0 x150000 x150001 x150002)
def becketlaw03_ChunkSplits.l0 : Nat → ByteArray → List ByteArray → Bool → Int → Int → Int → Int → Option (Bool)
  | 0, _, _, _, _, _, _, _ => none
  | k + 1, x0, x2, x7, x8, x150000, x150001, x150002 => if x8 < (x2.length : Int) then (if 0 ≤ x8 then (if ((rdOf ByteArray.empty x2 x8).size : Int) > 1000 then (some x7) else (becketlaw03_ChunkSplits.l0 k x0 x2 x7 (wrap64 (x8 + 1)) x150000 x150001 x150002)) else (none)) else ((chunk_Split.f k x0 x150000 x150001 x150002).bind fun bt152 => ((becketref03_May.f x150000 x150001 x150002).bind fun t156 => ((chunk_May.f x150000 x150001 x150002).bind fun t157 => (if (t157 != t156) = true then (becketlaw03_ChunkSplits.j2 k x0 x7 bt152.1 bt152.2 t156 true x150000 x150001 x150002) else ((chunk_Join.f x2).bind fun t158 => ((becketref03_Join.f k x2).bind fun t159 => (becketlaw03_ChunkSplits.j2 k x0 x7 bt152.1 bt152.2 t156 (t158.toList != t159.toList) x150000 x150001 x150002)))))))
def becketlaw03_ChunkSplits.j2 : Nat → ByteArray → Bool → List ByteArray → Option Int → Bool → Bool → Int → Int → Int → Option (Bool)
  | 0, _, _, _, _, _, _, _, _, _ => none
  | k + 1, x0, x7, x9, x10, x11, x53, x150000, x150001, x150002 => if x53 = true then (some false) else (if x11 = true then (if (x0.size : Int) > 1024 then (if x7 = true then (if x10.isNone = true then (some false) else (if (x10.getD 0) = 7 then (some ((x9.length : Int) == 0)) else (some false))) else (some false)) else (if x7 = true then (if x10.isNone = true then ((becketref03_Split.f k x0 x150000 x150001 x150002).bind fun t163 => ((becketref03_Same.f k x9 t163).bind fun t166 => (some t166))) else (some false)) else (some false))) else (if x7 = true then (if x10.isNone = true then (some false) else (if (x10.getD 0) = 1 then (some ((x9.length : Int) == 0)) else (some false))) else (some false)))
end
def becketlaw03_ChunkSplits.f (k : Nat) (a0 : ByteArray) (a1_0 : Int) (a1_1 : Int) (a1_2 : Int) (l2 : List ByteArray) : Option (Bool) := (becketlaw03_up.f k).bind fun t150 => (if (a0.size : Int) > 3000 then (becketlaw03_ChunkSplits.j0 k a0 l2 t150 true a1_0 a1_1 a1_2) else (becketlaw03_ChunkSplits.j0 k a0 l2 t150 (decide ((l2.length : Int) > 100)) a1_0 a1_1 a1_2))
theorem becketlaw03_ChunkSplits.mono_l : ∀ k, (∀ y0 y1 y2 y3 y4 y5 y6, LeO (becketlaw03_ChunkSplits.j0 k y0 y1 y2 y3 y4 y5 y6) (becketlaw03_ChunkSplits.j0 (k + 1) y0 y1 y2 y3 y4 y5 y6)) ∧ (∀ y0 y1 y2 y3 y4 y5 y6, LeO (becketlaw03_ChunkSplits.l0 k y0 y1 y2 y3 y4 y5 y6) (becketlaw03_ChunkSplits.l0 (k + 1) y0 y1 y2 y3 y4 y5 y6)) ∧ (∀ y0 y1 y2 y3 y4 y5 y6 y7 y8, LeO (becketlaw03_ChunkSplits.j2 k y0 y1 y2 y3 y4 y5 y6 y7 y8) (becketlaw03_ChunkSplits.j2 (k + 1) y0 y1 y2 y3 y4 y5 y6 y7 y8))
  | 0 => ⟨fun _ _ _ _ _ _ _ r h => by simp [becketlaw03_ChunkSplits.j0] at h, fun _ _ _ _ _ _ _ r h => by simp [becketlaw03_ChunkSplits.l0] at h, fun _ _ _ _ _ _ _ _ _ r h => by simp [becketlaw03_ChunkSplits.j2] at h⟩
  | k + 1 => by
    obtain ⟨ih0, ih1, ih2⟩ := becketlaw03_ChunkSplits.mono_l k
    refine ⟨?_, ?_, ?_⟩
    · intro y0 y1 y2 y3 y4 y5 y6
      unfold becketlaw03_ChunkSplits.j0
      repeat' first
      | (with_reducible exact ih0 _ _ _ _ _ _ _)
      | (with_reducible exact ih1 _ _ _ _ _ _ _)
      | (with_reducible exact ih2 _ _ _ _ _ _ _ _ _)
      | (with_reducible exact becketlaw03_up.mono _)
      | (with_reducible exact becketref03_Join.mono _ _)
      | (with_reducible exact becketref03_Same.mono _ _ _)
      | (with_reducible exact becketref03_Split.mono _ _ _ _ _)
      | (with_reducible exact chunk_Split.mono _ _ _ _ _)
      | (with_reducible exact LeO.refl _)
      | (with_reducible exact LeO.none _)
      | (with_reducible refine LeO.ite ?_ ?_)
      | (with_reducible refine LeO.bind ?_ (fun _ => ?_))
      | exact ih0 _ _ _ _ _ _ _
      | exact ih1 _ _ _ _ _ _ _
      | exact ih2 _ _ _ _ _ _ _ _ _
      | exact becketlaw03_up.mono _
      | exact becketref03_Join.mono _ _
      | exact becketref03_Same.mono _ _ _
      | exact becketref03_Split.mono _ _ _ _ _
      | exact chunk_Split.mono _ _ _ _ _
      | exact LeO.none _
      | refine LeO.ite ?_ ?_
      | refine LeO.bind ?_ (fun _ => ?_)
    · intro y0 y1 y2 y3 y4 y5 y6
      unfold becketlaw03_ChunkSplits.l0
      repeat' first
      | (with_reducible exact ih0 _ _ _ _ _ _ _)
      | (with_reducible exact ih1 _ _ _ _ _ _ _)
      | (with_reducible exact ih2 _ _ _ _ _ _ _ _ _)
      | (with_reducible exact becketlaw03_up.mono _)
      | (with_reducible exact becketref03_Join.mono _ _)
      | (with_reducible exact becketref03_Same.mono _ _ _)
      | (with_reducible exact becketref03_Split.mono _ _ _ _ _)
      | (with_reducible exact chunk_Split.mono _ _ _ _ _)
      | (with_reducible exact LeO.refl _)
      | (with_reducible exact LeO.none _)
      | (with_reducible refine LeO.ite ?_ ?_)
      | (with_reducible refine LeO.bind ?_ (fun _ => ?_))
      | exact ih0 _ _ _ _ _ _ _
      | exact ih1 _ _ _ _ _ _ _
      | exact ih2 _ _ _ _ _ _ _ _ _
      | exact becketlaw03_up.mono _
      | exact becketref03_Join.mono _ _
      | exact becketref03_Same.mono _ _ _
      | exact becketref03_Split.mono _ _ _ _ _
      | exact chunk_Split.mono _ _ _ _ _
      | exact LeO.none _
      | refine LeO.ite ?_ ?_
      | refine LeO.bind ?_ (fun _ => ?_)
    · intro y0 y1 y2 y3 y4 y5 y6 y7 y8
      unfold becketlaw03_ChunkSplits.j2
      repeat' first
      | (with_reducible exact ih0 _ _ _ _ _ _ _)
      | (with_reducible exact ih1 _ _ _ _ _ _ _)
      | (with_reducible exact ih2 _ _ _ _ _ _ _ _ _)
      | (with_reducible exact becketlaw03_up.mono _)
      | (with_reducible exact becketref03_Join.mono _ _)
      | (with_reducible exact becketref03_Same.mono _ _ _)
      | (with_reducible exact becketref03_Split.mono _ _ _ _ _)
      | (with_reducible exact chunk_Split.mono _ _ _ _ _)
      | (with_reducible exact LeO.refl _)
      | (with_reducible exact LeO.none _)
      | (with_reducible refine LeO.ite ?_ ?_)
      | (with_reducible refine LeO.bind ?_ (fun _ => ?_))
      | exact ih0 _ _ _ _ _ _ _
      | exact ih1 _ _ _ _ _ _ _
      | exact ih2 _ _ _ _ _ _ _ _ _
      | exact becketlaw03_up.mono _
      | exact becketref03_Join.mono _ _
      | exact becketref03_Same.mono _ _ _
      | exact becketref03_Split.mono _ _ _ _ _
      | exact chunk_Split.mono _ _ _ _ _
      | exact LeO.none _
      | refine LeO.ite ?_ ?_
      | refine LeO.bind ?_ (fun _ => ?_)
theorem becketlaw03_ChunkSplits.mono : ∀ a0 a1 a2 a3 a4 k, LeO (becketlaw03_ChunkSplits.f k a0 a1 a2 a3 a4) (becketlaw03_ChunkSplits.f (k + 1) a0 a1 a2 a3 a4) := by
  intro a0 a1 a2 a3 a4 k
  obtain ⟨ih0, ih1, ih2⟩ := becketlaw03_ChunkSplits.mono_l k
  unfold becketlaw03_ChunkSplits.f
  repeat' first
      | (with_reducible exact ih0 _ _ _ _ _ _ _)
      | (with_reducible exact ih1 _ _ _ _ _ _ _)
      | (with_reducible exact ih2 _ _ _ _ _ _ _ _ _)
      | (with_reducible exact becketlaw03_up.mono _)
      | (with_reducible exact becketref03_Join.mono _ _)
      | (with_reducible exact becketref03_Same.mono _ _ _)
      | (with_reducible exact becketref03_Split.mono _ _ _ _ _)
      | (with_reducible exact chunk_Split.mono _ _ _ _ _)
      | (with_reducible exact LeO.refl _)
      | (with_reducible exact LeO.none _)
      | (with_reducible refine LeO.ite ?_ ?_)
      | (with_reducible refine LeO.bind ?_ (fun _ => ?_))
      | exact ih0 _ _ _ _ _ _ _
      | exact ih1 _ _ _ _ _ _ _
      | exact ih2 _ _ _ _ _ _ _ _ _
      | exact becketlaw03_up.mono _
      | exact becketref03_Join.mono _ _
      | exact becketref03_Same.mono _ _ _
      | exact becketref03_Split.mono _ _ _ _ _
      | exact chunk_Split.mono _ _ _ _ _
      | exact LeO.none _
      | refine LeO.ite ?_ ?_
      | refine LeO.bind ?_ (fun _ => ?_)
set_option maxHeartbeats 8000000 in
set_option maxRecDepth 100000 in
theorem becketlaw03_ChunkSplits.calls (k : Nat) (a0 : ByteArray) (a1_0 : Int) (a1_1 : Int) (a1_2 : Int) (A2 : Option Addr) (c2 : Nat) (l2 : List ByteArray) (r : Bool) (w : World) (hr2 : Kd.C Kd.string w A2 l2.length l2) (hc2 : l2.length ≤ c2) (h : becketlaw03_ChunkSplits.f k a0 a1_0 a1_1 a1_2 l2 = some r) :
    Calls Try.prog 12 #[.string a0, .agg #[.int .i64 a1_0, .int .i64 a1_1, .int .i64 a1_2], .slice A2 l2.length c2] w fun e w' => e = .returned (.bool r) ∧ Below w.heap.size w w' := by
  have hu41 := Try.underlying41
  have hu27 := Try.underlying27
  have hu30 := Try.underlying30
  have HR2 := Aside0.mk hr2
  have HC2 := Aside0.mk hc2
  clear hr2 hc2
  have HB := Aside0.mk (Below.refl w.heap.size w)
  have H : ((becketlaw03_up.f k).bind fun t150 => (if (a0.size : Int) > 3000 then (becketlaw03_ChunkSplits.j0 k a0 l2 t150 true a1_0 a1_1 a1_2) else (becketlaw03_ChunkSplits.j0 k a0 l2 t150 (decide ((l2.length : Int) > 100)) a1_0 a1_1 a1_2))) = some r := h
  clear h
  replace H := Option.bind_eq_some_iff.mp H
  obtain ⟨t150, A40, H⟩ := H
  replace H : (if (a0.size : Int) > 3000 then (becketlaw03_ChunkSplits.j0 k a0 l2 t150 true a1_0 a1_1 a1_2) else (becketlaw03_ChunkSplits.j0 k a0 l2 t150 (decide ((l2.length : Int) > 100)) a1_0 a1_1 a1_2)) = some r := H
  have A4 := Aside0.mk A40
  clear A40
  have HC5 := Aside0.mk H
  clear H
  go_enter Try.func12, Try.ntmps12
  go_upto_region 2 with (first | ((with_reducible refine gate_dst (N := 4) rfl ?_); (try (refine gate_guard (by rfl) ?_; dsimp only)); refine box_event ?hg (N := 4) ?hd (cs := #[.int .i64 a1_0, .int .i64 a1_1, .int .i64 a1_2]) (t := 41) ?hr ?_; (case hd => rfl); (case hg => rfl); (case hr => first | (go_simp; done) | (go_simp; rfl)); intro gb149 hg w6 hbox hb; have n0_ := Aside0.mk (below_step (by repeat (first | (with_reducible first | exact HB.out | apply below_alloc | apply pw_below_drewN | apply below_drew1) | exact HB.out)) hb); have n1_ := Aside0.mk (hbox); have n2_ := Aside0.mk ((by rw [hg]; exact (below_size (by repeat (first | (with_reducible first | exact HB.out | apply below_alloc | apply pw_below_drewN | apply below_drew1) | exact HB.out))) : w.heap.size ≤ gb149)); have n3_ := Aside0.mk ((by rw [hg]; exact (below_size (by repeat (first | (with_reducible first | exact HB.out | apply below_alloc | apply pw_below_drewN | apply below_drew1) | exact HB.out))) : w.heap.size ≤ gb149)); clear HB; have HB := n0_; have BK149 := n1_; have GW149 := n2_; have GE149 := n3_; clear n0_ n1_ n2_ n3_; clear hb hbox hg) | ((with_reducible refine gate_callee (f := 23) rfl ?_); refine goesL_ (some 12) rfl rfl Try.func23 (by kernel_rfl) rfl #[] rfl (by (try simp only [List.map_toArray, List.map_cons, List.map_nil]); first | done | rfl | (simp only [List.length_drop, List.length_take]; rfl)) ?_; (with_reducible refine (becketlaw03_up.calls k  t150 _ A4.out).mono ?_); rintro e w7 ⟨rfl, hb⟩; refine ⟨_, rfl, ?_⟩; have n0_ := Aside0.mk (blk_below (g := gb149) (o := .cells #[.int .i64 a1_0, .int .i64 a1_1, .int .i64 a1_2] 41 (0, 0)) (by (with_reducible repeat (first | refine blk_drewN ?_ _ | refine blk_drew ?_ | refine blk_alloc ?_ _)); exact BK149.out) hb); have n1_ := Aside0.mk (below_step (by repeat (first | (with_reducible first | exact HB.out | apply below_alloc | apply pw_below_drewN | apply below_drew1 | refine below_set ?_ GE149.out) | exact HB.out)) hb); clear BK149; clear HB; have BK149 := n0_; have HB := n1_; clear n0_ n1_; (try clear hb); (try clear hb2); (try clear hk); (try clear hi)))
  (try simp only [Act.put, List.setIfInBounds_toArray, List.set_cons_zero, List.set_cons_succ])
  go_cut [20] (fun v20 wc => ∃ (kq : Nat) (x20_4 : Bool), v20 = .bool x20_4 ∧ Aside0 (becketlaw03_ChunkSplits.j0 kq a0 l2 t150 x20_4 a1_0 a1_1 a1_2 = some r) ∧ Aside0 (kq ≤ k) ∧ Aside0 (wc.heap[gb149]? = some (.cells #[.int .i64 a1_0, .int .i64 a1_1, .int .i64 a1_2] 41 (0, 0))) ∧ Aside0 (Below w.heap.size w wc))
  case first =>
    have H := HC5.out
    clear HC5
    by_cases c8 : (a0.size : Int) > 3000
    · rw [if_pos c8] at H
      have c8b0 : decide (3000 < (a0.size : Int)) = true := decide_eq_true c8
      have c8b1 : decide (3000 < a0.size) = true := decide_eq_true (by omega)
      clear c8
      (first | rw [c8b0] | (simp only [i64_w, i32_w]; rw [c8b0]) | skip)
      have H' := Aside0.mk H
      clear H
      go_wp2
      go_meet
      case rel => exact ⟨_, (true), (by first | rfl | (simp; done) | (simp [*]; done)), H', ⟨by first | omega | exact Nat.le_refl _⟩, ⟨by (with_reducible repeat (first | refine blk_drewN ?_ _ | refine blk_drew ?_ | refine blk_alloc ?_ _)); exact BK149.out⟩, ⟨by repeat (first | (with_reducible first | exact HB.out | apply below_alloc | apply pw_below_drewN | apply below_drew1 | refine below_set ?_ GE149.out) | exact HB.out)⟩⟩
    · rw [if_neg c8] at H
      have c8b0 : decide (3000 < (a0.size : Int)) = false := decide_eq_false c8
      have c8b1 : decide (3000 < a0.size) = false := decide_eq_false (by omega)
      clear c8
      (first | rw [c8b0] | (simp only [i64_w, i32_w]; rw [c8b0]) | skip)
      have H' := Aside0.mk H
      clear H
      go_wp2
      go_meet
      case rel => exact ⟨_, (decide ((l2.length : Int) > 100)), (by first | rfl | (simp; done) | (simp [*]; done)), H', ⟨by first | omega | exact Nat.le_refl _⟩, ⟨by (with_reducible repeat (first | refine blk_drewN ?_ _ | refine blk_drew ?_ | refine blk_alloc ?_ _)); exact BK149.out⟩, ⟨by repeat (first | (with_reducible first | exact HB.out | apply below_alloc | apply pw_below_drewN | apply below_drew1 | refine below_set ?_ GE149.out) | exact HB.out)⟩⟩
  case rest =>
    clear HC5
    try clear c1
    try clear c2
    try clear p2
    try clear c8
    try clear c8b0
    try clear c8b1
    obtain ⟨kq, x20_4, rfl, HA, HJ4, BK149, HB⟩ := hcut
    cases kq with
    | zero => exact absurd HA.out (by simp [becketlaw03_ChunkSplits.j0])
    | succ kj4 =>
      have H := HA.out
      clear HA
      simp only [becketlaw03_ChunkSplits.j0] at H
      by_cases c9 : x20_4 = true
      · subst c9
        have H1 : (some t150) = some r := by first | (rw [if_pos rfl] at H; with_reducible exact H) | exact (if_pos rfl).symm.trans H | (simp only [if_true, eq_self_iff_true] at H ⊢; exact H)
        clear H
        have H := H1
        clear H1
        obtain rfl := Option.some.inj H
        go_wp2
        go_ret
        exact ⟨by first | rfl | (simp [errW_none, errW_some] <;> rfl) | (simp [*, errW_none, errW_some] <;> rfl), by repeat (first | (with_reducible first | exact HB.out | apply below_alloc | apply pw_below_drewN | apply below_drew1 | refine below_set ?_ GE149.out) | exact HB.out)⟩
      · replace c9 := Bool.eq_false_iff.mpr c9
        subst c9
        have H1 : (becketlaw03_ChunkSplits.l0 kj4 a0 l2 t150 0 a1_0 a1_1 a1_2) = some r := by rw [if_neg (show ¬ (false = true) by decide)] at H; exact H
        clear H
        have H := H1
        clear H1
        have H' := Aside0.mk H
        clear H
        go_wp2
        go_loopg [8] kj4 (fun kq v8 w' => ∃ (x8_2 : Int), v8 = .int .i64 x8_2 ∧ Aside0 (becketlaw03_ChunkSplits.l0 kq a0 l2 t150 x8_2 a1_0 a1_1 a1_2 = some r) ∧ Aside0 (kq ≤ kj4) ∧ Aside0 (w'.heap[gb149]? = some (.cells #[.int .i64 a1_0, .int .i64 a1_1, .int .i64 a1_2] 41 (0, 0))) ∧ Aside0 (Below w.heap.size w w'))
        case atStart => exact ⟨(0), (by first | rfl | (simp; done) | (simp [*]; done)), H', ⟨Nat.le_refl _⟩, ⟨by (with_reducible repeat (first | refine blk_drewN ?_ _ | refine blk_drew ?_ | refine blk_alloc ?_ _)); exact BK149.out⟩, ⟨by repeat (first | (with_reducible first | exact HB.out | apply below_alloc | apply pw_below_drewN | apply below_drew1 | refine below_set ?_ GE149.out) | exact HB.out)⟩⟩
        case round =>
          clear H'
          try clear c1
          try clear c2
          try clear p2
          try clear c8
          try clear c8b0
          try clear c8b1
          try clear c9
          try clear p2
          obtain ⟨x8_2, rfl, HA, HK2, BK149, HB⟩ := hrel
          cases gk with
          | zero => exact absurd HA.out (by simp [becketlaw03_ChunkSplits.l0])
          | succ k2 =>
            have H := HA.out
            clear HA
            simp only [becketlaw03_ChunkSplits.l0] at H
            by_cases c10 : x8_2 < (l2.length : Int)
            · rw [if_pos c10] at H
              have c10b0 : decide (x8_2 < (l2.length : Int)) = true := decide_eq_true c10
              clear c10
              by_cases c11 : 0 ≤ x8_2
              · rw [if_pos c11] at H
                have c11b0 : decide (0 ≤ x8_2) = true := decide_eq_true c11
                clear c11
                by_cases c12 : ((rdOf ByteArray.empty l2 x8_2).size : Int) > 1000
                · rw [if_pos c12] at H
                  have c12b0 : decide (1000 < ((rdOf ByteArray.empty l2 x8_2).size : Int)) = true := decide_eq_true c12
                  have c12b1 : decide (1000 < (rdOf ByteArray.empty l2 x8_2).size) = true := decide_eq_true (by omega)
                  clear c12
                  obtain rfl := Option.some.inj H
                  have p151 : 0 ≤ (x8_2 : Int) := of_decide_eq_true (by first | (with_reducible assumption) | assumption)
                  have q151 : x8_2 < (l2.length : Int) := of_decide_eq_true (by first | (with_reducible assumption) | assumption)
                  obtain ⟨ad151, e151, hx151_0⟩ := Kd.at_string HR2.out x8_2 p151 q151
                  cases e151
                  replace hx151_0 := (HB.out.cell (World.block_lt_of_cell? w _ hx151_0)).trans hx151_0
                  replace p151 := eq_true p151
                  replace q151 := eq_true q151
                  go_wp2
                  go_ret
                  exact ⟨by first | rfl | (simp [errW_none, errW_some] <;> rfl) | (simp [*, errW_none, errW_some] <;> rfl), by repeat (first | (with_reducible first | exact HB.out | apply below_alloc | apply pw_below_drewN | apply below_drew1 | refine below_set ?_ GE149.out) | exact HB.out)⟩
                · rw [if_neg c12] at H
                  have c12b0 : decide (1000 < ((rdOf ByteArray.empty l2 x8_2).size : Int)) = false := decide_eq_false c12
                  have c12b1 : decide (1000 < (rdOf ByteArray.empty l2 x8_2).size) = false := decide_eq_false (by omega)
                  clear c12
                  have H' := Aside0.mk H
                  clear H
                  have p151 : 0 ≤ (x8_2 : Int) := of_decide_eq_true (by first | (with_reducible assumption) | assumption)
                  have q151 : x8_2 < (l2.length : Int) := of_decide_eq_true (by first | (with_reducible assumption) | assumption)
                  obtain ⟨ad151, e151, hx151_0⟩ := Kd.at_string HR2.out x8_2 p151 q151
                  cases e151
                  replace hx151_0 := (HB.out.cell (World.block_lt_of_cell? w _ hx151_0)).trans hx151_0
                  replace p151 := eq_true p151
                  replace q151 := eq_true q151
                  go_wp2
                  go_roundg k2
                  case measure => have := HJ4.out; have := HK2.out; omega
                  case rel => exact ⟨(wrap64 (x8_2 + 1)), (by first | rfl | (simp; done) | (simp [*]; done)), H', ⟨by have := HJ4.out; have := HK2.out; omega⟩, ⟨by (with_reducible repeat (first | refine blk_drewN ?_ _ | refine blk_drew ?_ | refine blk_alloc ?_ _)); exact BK149.out⟩, ⟨by repeat (first | (with_reducible first | exact HB.out | apply below_alloc | apply pw_below_drewN | apply below_drew1 | refine below_set ?_ GE149.out) | exact HB.out)⟩⟩
              · rw [if_neg c11] at H
                exact absurd H (by simp)
            · rw [if_neg c10] at H
              have c10b0 : decide (x8_2 < (l2.length : Int)) = false := decide_eq_false c10
              clear c10
              replace H := Option.bind_eq_some_iff.mp H
              obtain ⟨⟨t152, t155⟩, A130, H⟩ := H
              replace H : ((becketref03_May.f a1_0 a1_1 a1_2).bind fun t156 => ((chunk_May.f a1_0 a1_1 a1_2).bind fun t157 => (if (t157 != t156) = true then (becketlaw03_ChunkSplits.j2 k2 a0 t150 t152 t155 t156 true a1_0 a1_1 a1_2) else ((chunk_Join.f l2).bind fun t158 => ((becketref03_Join.f k2 l2).bind fun t159 => (becketlaw03_ChunkSplits.j2 k2 a0 t150 t152 t155 t156 (t158.toList != t159.toList) a1_0 a1_1 a1_2)))))) = some r := H
              have A13 := Aside0.mk A130
              clear A130
              replace H := Option.bind_eq_some_iff.mp H
              obtain ⟨t156, A140, H⟩ := H
              replace H : ((chunk_May.f a1_0 a1_1 a1_2).bind fun t157 => (if (t157 != t156) = true then (becketlaw03_ChunkSplits.j2 k2 a0 t150 t152 t155 t156 true a1_0 a1_1 a1_2) else ((chunk_Join.f l2).bind fun t158 => ((becketref03_Join.f k2 l2).bind fun t159 => (becketlaw03_ChunkSplits.j2 k2 a0 t150 t152 t155 t156 (t158.toList != t159.toList) a1_0 a1_1 a1_2))))) = some r := H
              have A14 := Aside0.mk A140
              clear A140
              have HC15 := Aside0.mk H
              clear H
              have hcz16_0 : wr.cell? ⟨gb149, 0, none⟩ = some (.int .i64 a1_0) := (blk_cell BK149.out 0).trans rfl
              have hcz16_1 : wr.cell? ⟨gb149, 1, none⟩ = some (.int .i64 a1_1) := (blk_cell BK149.out 1).trans rfl
              have hcz16_2 : wr.cell? ⟨gb149, 2, none⟩ = some (.int .i64 a1_2) := (blk_cell BK149.out 2).trans rfl
              have hfz16_0 := blk_frozen BK149.out 0
              have hfz16_1 := blk_frozen BK149.out 1
              have hfz16_2 := blk_frozen BK149.out 2
              go_upto_region 11 with (first | ((with_reducible refine gate_callee (f := 24) rfl ?_); refine goesL_ (some 38) rfl rfl Try.func24 (by kernel_rfl) rfl #[.string a0, .agg #[.int .i64 a1_0, .int .i64 a1_1, .int .i64 a1_2]] rfl (by (try simp only [List.map_toArray, List.map_cons, List.map_nil]); first | done | rfl | (simp only [List.length_drop, List.length_take]; rfl)) ?_; (with_reducible refine (chunk_Split.calls k2 a0 a1_0 a1_1 a1_2 t152 t155 _ A13.out).mono ?_); rintro e w17 ⟨v153, rfl, ho0, hb⟩; refine ⟨_, rfl, ?_⟩; have n0_ := Aside0.mk (Kd.R_lower ho0 (below_size (by repeat (first | (with_reducible first | exact HB.out | apply below_alloc | apply pw_below_drewN | apply below_drew1 | refine below_set ?_ GE149.out) | exact HB.out)))); have n1_ := Aside0.mk (blk_below (g := gb149) (o := .cells #[.int .i64 a1_0, .int .i64 a1_1, .int .i64 a1_2] 41 (0, 0)) (by (with_reducible repeat (first | refine blk_drewN ?_ _ | refine blk_drew ?_ | refine blk_alloc ?_ _)); exact BK149.out) hb); have n2_ := Aside0.mk (below_step (by repeat (first | (with_reducible first | exact HB.out | apply below_alloc | apply pw_below_drewN | apply below_drew1 | refine below_set ?_ GE149.out) | exact HB.out)) hb); clear BK149; clear HB; have HO154 := n0_; have BK149 := n1_; have HB := n2_; clear n0_ n1_ n2_; (try clear hb); (try clear hb2); (try clear hk); (try clear hi); (try clear ho0); (try simp only [errW_none, errW_some]); have hcz18_0 : w17.cell? ⟨gb149, 0, none⟩ = some (.int .i64 a1_0) := (blk_cell BK149.out 0).trans rfl; have hcz18_1 : w17.cell? ⟨gb149, 1, none⟩ = some (.int .i64 a1_1) := (blk_cell BK149.out 1).trans rfl; have hcz18_2 : w17.cell? ⟨gb149, 2, none⟩ = some (.int .i64 a1_2) := (blk_cell BK149.out 2).trans rfl; have hfz18_0 := blk_frozen BK149.out 0; have hfz18_1 := blk_frozen BK149.out 1; have hfz18_2 := blk_frozen BK149.out 2) | ((with_reducible refine gate_callee (f := 34) rfl ?_); refine goesL_ (some 42) rfl rfl Try.func34 (by kernel_rfl) rfl #[.agg #[.int .i64 a1_0, .int .i64 a1_1, .int .i64 a1_2]] rfl (by (try simp only [List.map_toArray, List.map_cons, List.map_nil]); first | done | rfl | (simp only [List.length_drop, List.length_take]; rfl)) ?_; (with_reducible refine (becketref03_May.calls a1_0 a1_1 a1_2 t156 _ A14.out).mono ?_); rintro e w19 ⟨rfl, hb⟩; refine ⟨_, rfl, ?_⟩; have n0_ := Aside0.mk (Kd.R_below (by (with_reducible repeat (first | apply Kd.R_alloc | apply Kd.R_drewN | apply Kd.R_drew)); exact HO154.out) hb); have n1_ := Aside0.mk (blk_below (g := gb149) (o := .cells #[.int .i64 a1_0, .int .i64 a1_1, .int .i64 a1_2] 41 (0, 0)) (by (with_reducible repeat (first | refine blk_drewN ?_ _ | refine blk_drew ?_ | refine blk_alloc ?_ _)); exact BK149.out) hb); have n2_ := Aside0.mk (below_step (by repeat (first | (with_reducible first | exact HB.out | apply below_alloc | apply pw_below_drewN | apply below_drew1 | refine below_set ?_ GE149.out) | exact HB.out)) hb); clear HO154; clear BK149; clear HB; have HO154 := n0_; have BK149 := n1_; have HB := n2_; clear n0_ n1_ n2_; (try clear hb); (try clear hb2); (try clear hk); (try clear hi)))
              (try simp only [Act.put, List.setIfInBounds_toArray, List.set_cons_zero, List.set_cons_succ])
              go_cut [53] (fun v53 wc => ∃ (kq : Nat) (x53_14 : Bool), v53 = .bool x53_14 ∧ Aside0 (becketlaw03_ChunkSplits.j2 kq a0 t150 t152 t155 t156 x53_14 a1_0 a1_1 a1_2 = some r) ∧ Aside0 (kq ≤ k2) ∧ Aside0 (Kd.R Kd.string 9 wc w.heap.size (fun _ => True) v153 t152) ∧ Aside0 (wc.heap[gb149]? = some (.cells #[.int .i64 a1_0, .int .i64 a1_1, .int .i64 a1_2] 41 (0, 0))) ∧ Aside0 (Below w.heap.size w wc))
              case first =>
                have H := HC15.out
                clear HC15
                replace H := Option.bind_eq_some_iff.mp H
                obtain ⟨t157, A200, H⟩ := H
                replace H : (if (t157 != t156) = true then (becketlaw03_ChunkSplits.j2 k2 a0 t150 t152 t155 t156 true a1_0 a1_1 a1_2) else ((chunk_Join.f l2).bind fun t158 => ((becketref03_Join.f k2 l2).bind fun t159 => (becketlaw03_ChunkSplits.j2 k2 a0 t150 t152 t155 t156 (t158.toList != t159.toList) a1_0 a1_1 a1_2)))) = some r := H
                have A20 := Aside0.mk A200
                clear A200
                by_cases c21 : (t157 != t156) = true
                · rw [if_pos c21] at H
                  have c21b0 : (t157 != t156) = true := c21
                  (try (have c21b1 : decide (t157 = t156) = false := by first | (simp; done) | (have q_ := c21; simp at q_; done) | (have q_ := c21; simp at q_ ⊢; exact q_) | (have q_ := c21; simp at q_; exact q_) | exact c21))
                  (try (have c21b2 : (t157 == t156) = false := by first | (simp; done) | (have q_ := c21; simp at q_; done) | (have q_ := c21; simp at q_ ⊢; exact q_) | (have q_ := c21; simp at q_; exact q_) | exact c21))
                  (try (have c21b3 : ¬ (t157 = t156) := by first | (simp; done) | (have q_ := c21; simp at q_; done) | (have q_ := c21; simp at q_ ⊢; exact q_) | (have q_ := c21; simp at q_; exact q_) | exact c21))
                  clear c21
                  (first | rw [c21b0] | (simp only [i64_w, i32_w]; rw [c21b0]) | skip)
                  have H' := Aside0.mk H
                  clear H
                  have hcz22_0 : w19.cell? ⟨gb149, 0, none⟩ = some (.int .i64 a1_0) := (blk_cell BK149.out 0).trans rfl
                  have hcz22_1 : w19.cell? ⟨gb149, 1, none⟩ = some (.int .i64 a1_1) := (blk_cell BK149.out 1).trans rfl
                  have hcz22_2 : w19.cell? ⟨gb149, 2, none⟩ = some (.int .i64 a1_2) := (blk_cell BK149.out 2).trans rfl
                  have hfz22_0 := blk_frozen BK149.out 0
                  have hfz22_1 := blk_frozen BK149.out 1
                  have hfz22_2 := blk_frozen BK149.out 2
                  go_wp2_with (first | ((with_reducible refine gate_callee (f := 35) rfl ?_); refine goesL_ (some 44) rfl rfl Try.func35 (by kernel_rfl) rfl #[.agg #[.int .i64 a1_0, .int .i64 a1_1, .int .i64 a1_2]] rfl (by (try simp only [List.map_toArray, List.map_cons, List.map_nil]); first | done | rfl | (simp only [List.length_drop, List.length_take]; rfl)) ?_; (with_reducible refine (chunk_May.calls a1_0 a1_1 a1_2 t157 _ A20.out).mono ?_); rintro e w23 ⟨rfl, hb⟩; refine ⟨_, rfl, ?_⟩; have n0_ := Aside0.mk (Kd.R_below (by (with_reducible repeat (first | apply Kd.R_alloc | apply Kd.R_drewN | apply Kd.R_drew)); exact HO154.out) hb); have n1_ := Aside0.mk (blk_below (g := gb149) (o := .cells #[.int .i64 a1_0, .int .i64 a1_1, .int .i64 a1_2] 41 (0, 0)) (by (with_reducible repeat (first | refine blk_drewN ?_ _ | refine blk_drew ?_ | refine blk_alloc ?_ _)); exact BK149.out) hb); have n2_ := Aside0.mk (below_step (by repeat (first | (with_reducible first | exact HB.out | apply below_alloc | apply pw_below_drewN | apply below_drew1 | refine below_set ?_ GE149.out) | exact HB.out)) hb); clear HO154; clear BK149; clear HB; have HO154 := n0_; have BK149 := n1_; have HB := n2_; clear n0_ n1_ n2_; (try clear hb); (try clear hb2); (try clear hk); (try clear hi)))
                  go_meet
                  case rel => exact ⟨_, (true), (by first | rfl | (simp; done) | (simp [*]; done)), H', ⟨by have := HJ4.out; have := HK2.out; first | omega | exact Nat.le_refl _⟩, ⟨by (with_reducible repeat (first | apply Kd.R_alloc | apply Kd.R_drewN | apply Kd.R_drew)); exact HO154.out⟩, ⟨by (with_reducible repeat (first | refine blk_drewN ?_ _ | refine blk_drew ?_ | refine blk_alloc ?_ _)); exact BK149.out⟩, ⟨by repeat (first | (with_reducible first | exact HB.out | apply below_alloc | apply pw_below_drewN | apply below_drew1 | refine below_set ?_ GE149.out) | exact HB.out)⟩⟩
                · rw [if_neg c21] at H
                  have c21b0 : (t157 != t156) = false := by first | (simp; done) | (have q_ := c21; simp at q_; done) | (have q_ := c21; simp at q_ ⊢; exact q_) | (have q_ := c21; simp at q_; exact q_) | exact c21
                  (try (have c21b1 : decide (t157 = t156) = true := by first | (simp; done) | (have q_ := c21; simp at q_; done) | (have q_ := c21; simp at q_ ⊢; exact q_) | (have q_ := c21; simp at q_; exact q_) | exact c21))
                  (try (have c21b2 : (t157 == t156) = true := by first | (simp; done) | (have q_ := c21; simp at q_; done) | (have q_ := c21; simp at q_ ⊢; exact q_) | (have q_ := c21; simp at q_; exact q_) | exact c21))
                  clear c21
                  (first | rw [c21b0] | (simp only [i64_w, i32_w]; rw [c21b0]) | skip)
                  replace H := Option.bind_eq_some_iff.mp H
                  obtain ⟨t158, A240, H⟩ := H
                  replace H : ((becketref03_Join.f k2 l2).bind fun t159 => (becketlaw03_ChunkSplits.j2 k2 a0 t150 t152 t155 t156 (t158.toList != t159.toList) a1_0 a1_1 a1_2)) = some r := H
                  have A24 := Aside0.mk A240
                  clear A240
                  replace H := Option.bind_eq_some_iff.mp H
                  obtain ⟨t159, A250, H⟩ := H
                  replace H : (becketlaw03_ChunkSplits.j2 k2 a0 t150 t152 t155 t156 (t158.toList != t159.toList) a1_0 a1_1 a1_2) = some r := H
                  have A25 := Aside0.mk A250
                  clear A250
                  have H' := Aside0.mk H
                  clear H
                  have hcz26_0 : w19.cell? ⟨gb149, 0, none⟩ = some (.int .i64 a1_0) := (blk_cell BK149.out 0).trans rfl
                  have hcz26_1 : w19.cell? ⟨gb149, 1, none⟩ = some (.int .i64 a1_1) := (blk_cell BK149.out 1).trans rfl
                  have hcz26_2 : w19.cell? ⟨gb149, 2, none⟩ = some (.int .i64 a1_2) := (blk_cell BK149.out 2).trans rfl
                  have hfz26_0 := blk_frozen BK149.out 0
                  have hfz26_1 := blk_frozen BK149.out 1
                  have hfz26_2 := blk_frozen BK149.out 2
                  go_wp2_with (first | ((with_reducible refine gate_callee (f := 35) rfl ?_); refine goesL_ (some 44) rfl rfl Try.func35 (by kernel_rfl) rfl #[.agg #[.int .i64 a1_0, .int .i64 a1_1, .int .i64 a1_2]] rfl (by (try simp only [List.map_toArray, List.map_cons, List.map_nil]); first | done | rfl | (simp only [List.length_drop, List.length_take]; rfl)) ?_; (with_reducible refine (chunk_May.calls a1_0 a1_1 a1_2 t157 _ A20.out).mono ?_); rintro e w27 ⟨rfl, hb⟩; refine ⟨_, rfl, ?_⟩; have n0_ := Aside0.mk (Kd.R_below (by (with_reducible repeat (first | apply Kd.R_alloc | apply Kd.R_drewN | apply Kd.R_drew)); exact HO154.out) hb); have n1_ := Aside0.mk (blk_below (g := gb149) (o := .cells #[.int .i64 a1_0, .int .i64 a1_1, .int .i64 a1_2] 41 (0, 0)) (by (with_reducible repeat (first | refine blk_drewN ?_ _ | refine blk_drew ?_ | refine blk_alloc ?_ _)); exact BK149.out) hb); have n2_ := Aside0.mk (below_step (by repeat (first | (with_reducible first | exact HB.out | apply below_alloc | apply pw_below_drewN | apply below_drew1 | refine below_set ?_ GE149.out) | exact HB.out)) hb); clear HO154; clear BK149; clear HB; have HO154 := n0_; have BK149 := n1_; have HB := n2_; clear n0_ n1_ n2_; (try clear hb); (try clear hb2); (try clear hk); (try clear hi)) | (go_at_call 36; (with_reducible refine (chunk_Join.calls _ _ l2 t158 _ ?side1 ?side2 A24.out).mono ?_); (case side1 => repeat (first | exact (Kd.C_below HR2.out HB.out) | (with_reducible refine Kd.C_alloc ?_ _) | (with_reducible refine Kd.C_drewN ?_ _) | (with_reducible refine Kd.C_drew ?_))); (case side2 => exact HC2.out); rintro e w28 ⟨rfl, hb⟩; have n0_ := Aside0.mk (Kd.R_below (by (with_reducible repeat (first | apply Kd.R_alloc | apply Kd.R_drewN | apply Kd.R_drew)); exact HO154.out) hb); have n1_ := Aside0.mk (blk_below (g := gb149) (o := .cells #[.int .i64 a1_0, .int .i64 a1_1, .int .i64 a1_2] 41 (0, 0)) (by (with_reducible repeat (first | refine blk_drewN ?_ _ | refine blk_drew ?_ | refine blk_alloc ?_ _)); exact BK149.out) hb); have n2_ := Aside0.mk (below_step (by repeat (first | (with_reducible first | exact HB.out | apply below_alloc | apply pw_below_drewN | apply below_drew1 | refine below_set ?_ GE149.out) | exact HB.out)) hb); clear HO154; clear BK149; clear HB; have HO154 := n0_; have BK149 := n1_; have HB := n2_; clear n0_ n1_ n2_; (try clear hb); (try clear hb2); (try clear hk); (try clear hi)) | (go_at_call 37; (with_reducible refine (becketref03_Join.calls k2 _ _ l2 t159 _ ?side1 ?side2 A25.out).mono ?_); (case side1 => repeat (first | exact (Kd.C_below HR2.out HB.out) | (with_reducible refine Kd.C_alloc ?_ _) | (with_reducible refine Kd.C_drewN ?_ _) | (with_reducible refine Kd.C_drew ?_))); (case side2 => exact HC2.out); rintro e w' ⟨rfl, ⟨nd, rfl⟩⟩))
                  go_meet
                  case rel => exact ⟨_, ((t158.toList != t159.toList)), (by first | rfl | (simp; done) | (simp [*]; done)), H', ⟨by have := HJ4.out; have := HK2.out; first | omega | exact Nat.le_refl _⟩, ⟨by (with_reducible repeat (first | apply Kd.R_alloc | apply Kd.R_drewN | apply Kd.R_drew)); exact HO154.out⟩, ⟨by (with_reducible repeat (first | refine blk_drewN ?_ _ | refine blk_drew ?_ | refine blk_alloc ?_ _)); exact BK149.out⟩, ⟨by repeat (first | (with_reducible first | exact HB.out | apply below_alloc | apply pw_below_drewN | apply below_drew1 | refine below_set ?_ GE149.out) | exact HB.out)⟩⟩
              case rest =>
                clear HC15
                try clear c1
                try clear p1
                try clear q1
                try clear hx1
                try clear c2
                try clear p2
                try clear c3
                try clear p6
                try clear c8
                try clear c8b0
                try clear c8b1
                try clear c9
                try clear c10
                try clear c10b0
                try clear c11
                try clear c11b0
                try clear c12
                try clear c12b0
                try clear c12b1
                try clear p15
                try clear q15
                try clear hx15
                try clear c21
                try clear c21b0
                try clear c21b1
                try clear c21b2
                try clear c23
                try clear c24
                try clear hcz16_0
                try clear hcz16_1
                try clear hcz16_2
                try clear hcz18_0
                try clear hcz18_1
                try clear hcz18_2
                try clear hcz22_0
                try clear hcz22_1
                try clear hcz22_2
                try clear hcz26_0
                try clear hcz26_1
                try clear hcz26_2
                try clear hfz16_0
                try clear hfz16_1
                try clear hfz16_2
                try clear hfz18_0
                try clear hfz18_1
                try clear hfz18_2
                try clear hfz22_0
                try clear hfz22_1
                try clear hfz22_2
                try clear hfz26_0
                try clear hfz26_1
                try clear hfz26_2
                try clear hx151_0
                try clear p151
                try clear p2
                try clear q151
                obtain ⟨kq, x53_14, rfl, HA, HJ14, HO_9, BK149, HB⟩ := hcut
                cases kq with
                | zero => exact absurd HA.out (by simp [becketlaw03_ChunkSplits.j2])
                | succ kj14 =>
                  have H := HA.out
                  clear HA
                  simp only [becketlaw03_ChunkSplits.j2] at H
                  by_cases c29 : x53_14 = true
                  · subst c29
                    have H1 : (some false) = some r := by first | (rw [if_pos rfl] at H; with_reducible exact H) | exact (if_pos rfl).symm.trans H | (simp only [if_true, eq_self_iff_true] at H ⊢; exact H)
                    clear H
                    have H := H1
                    clear H1
                    obtain rfl := Option.some.inj H
                    go_wp2
                    go_ret
                    exact ⟨by first | rfl | (simp [errW_none, errW_some] <;> rfl) | (simp [*, errW_none, errW_some] <;> rfl), by repeat (first | (with_reducible first | exact HB.out | apply below_alloc | apply pw_below_drewN | apply below_drew1 | refine below_set ?_ GE149.out) | exact HB.out)⟩
                  · replace c29 := Bool.eq_false_iff.mpr c29
                    subst c29
                    have H1 : (if t156 = true then (if (a0.size : Int) > 1024 then (if t150 = true then (if t155.isNone = true then (some false) else (if (t155.getD 0) = 7 then (some ((t152.length : Int) == 0)) else (some false))) else (some false)) else (if t150 = true then (if t155.isNone = true then ((becketref03_Split.f kj14 a0 a1_0 a1_1 a1_2).bind fun t163 => ((becketref03_Same.f kj14 t152 t163).bind fun t166 => (some t166))) else (some false)) else (some false))) else (if t150 = true then (if t155.isNone = true then (some false) else (if (t155.getD 0) = 1 then (some ((t152.length : Int) == 0)) else (some false))) else (some false))) = some r := by rw [if_neg (show ¬ (false = true) by decide)] at H; exact H
                    clear H
                    have H := H1
                    clear H1
                    by_cases c30 : t156 = true
                    · subst c30
                      have H1 : (if (a0.size : Int) > 1024 then (if t150 = true then (if t155.isNone = true then (some false) else (if (t155.getD 0) = 7 then (some ((t152.length : Int) == 0)) else (some false))) else (some false)) else (if t150 = true then (if t155.isNone = true then ((becketref03_Split.f kj14 a0 a1_0 a1_1 a1_2).bind fun t163 => ((becketref03_Same.f kj14 t152 t163).bind fun t166 => (some t166))) else (some false)) else (some false))) = some r := by first | (rw [if_pos rfl] at H; with_reducible exact H) | exact (if_pos rfl).symm.trans H | (simp only [if_true, eq_self_iff_true] at H ⊢; exact H)
                      clear H
                      have H := H1
                      clear H1
                      by_cases c31 : (a0.size : Int) > 1024
                      · rw [if_pos c31] at H
                        have c31b0 : decide (1024 < (a0.size : Int)) = true := decide_eq_true c31
                        have c31b1 : decide (1024 < a0.size) = true := decide_eq_true (by omega)
                        clear c31
                        by_cases c32 : t150 = true
                        · subst c32
                          have H1 : (if t155.isNone = true then (some false) else (if (t155.getD 0) = 7 then (some ((t152.length : Int) == 0)) else (some false))) = some r := by first | (rw [if_pos rfl] at H; with_reducible exact H) | exact (if_pos rfl).symm.trans H | (simp only [if_true, eq_self_iff_true] at H ⊢; exact H)
                          clear H
                          have H := H1
                          clear H1
                          rcases t155 with _ | q161
                          · have H1 : (some false) = some r := by rw [if_pos (show (none : Option Int).isNone = true by rfl)] at H; exact H
                            clear H
                            have H := H1
                            clear H1
                            try simp only [errW_none, errW_some]
                            obtain rfl := Option.some.inj H
                            go_wp2
                            go_ret
                            exact ⟨by first | rfl | (simp [errW_none, errW_some] <;> rfl) | (simp [*, errW_none, errW_some] <;> rfl), by repeat (first | (with_reducible first | exact HB.out | apply below_alloc | apply pw_below_drewN | apply below_drew1 | refine below_set ?_ GE149.out) | exact HB.out)⟩
                          · have H1 : (if q161 = 7 then (some ((t152.length : Int) == 0)) else (some false)) = some r := by rw [if_neg (show ¬ (some q161).isNone = true by simp)] at H; exact H
                            clear H
                            have H := H1
                            clear H1
                            try simp only [errW_none, errW_some]
                            by_cases c33 : q161 = 7
                            · rw [if_pos c33] at H
                              have c33b0 : (q161 == 7) = true := beq_iff_eq.mpr c33
                              have c33b1 : (q161 != 7) = false := bne_eq_false_iff_eq.mpr c33
                              clear c33
                              obtain rfl := Option.some.inj H
                              obtain ⟨Ao34, co34, eo34⟩ := Kd.R_slice HO_9.out
                              subst eo34
                              go_wp2
                              go_ret
                              exact ⟨by first | rfl | (simp [errW_none, errW_some] <;> rfl) | (simp [*, errW_none, errW_some] <;> rfl), by repeat (first | (with_reducible first | exact HB.out | apply below_alloc | apply pw_below_drewN | apply below_drew1 | refine below_set ?_ GE149.out) | exact HB.out)⟩
                            · rw [if_neg c33] at H
                              have c33b0 : (q161 == 7) = false := beq_eq_false_iff_ne.mpr c33
                              have c33b1 : (q161 != 7) = true := bne_iff_ne.mpr c33
                              obtain rfl := Option.some.inj H
                              go_wp2
                              go_ret
                              exact ⟨by first | rfl | (simp [errW_none, errW_some] <;> rfl) | (simp [*, errW_none, errW_some] <;> rfl), by repeat (first | (with_reducible first | exact HB.out | apply below_alloc | apply pw_below_drewN | apply below_drew1 | refine below_set ?_ GE149.out) | exact HB.out)⟩
                        · replace c32 := Bool.eq_false_iff.mpr c32
                          subst c32
                          have H1 : (some false) = some r := by rw [if_neg (show ¬ (false = true) by decide)] at H; exact H
                          clear H
                          have H := H1
                          clear H1
                          obtain rfl := Option.some.inj H
                          go_wp2
                          go_ret
                          exact ⟨by first | rfl | (simp [errW_none, errW_some] <;> rfl) | (simp [*, errW_none, errW_some] <;> rfl), by repeat (first | (with_reducible first | exact HB.out | apply below_alloc | apply pw_below_drewN | apply below_drew1 | refine below_set ?_ GE149.out) | exact HB.out)⟩
                      · rw [if_neg c31] at H
                        have c31b0 : decide (1024 < (a0.size : Int)) = false := decide_eq_false c31
                        have c31b1 : decide (1024 < a0.size) = false := decide_eq_false (by omega)
                        clear c31
                        by_cases c35 : t150 = true
                        · subst c35
                          have H1 : (if t155.isNone = true then ((becketref03_Split.f kj14 a0 a1_0 a1_1 a1_2).bind fun t163 => ((becketref03_Same.f kj14 t152 t163).bind fun t166 => (some t166))) else (some false)) = some r := by first | (rw [if_pos rfl] at H; with_reducible exact H) | exact (if_pos rfl).symm.trans H | (simp only [if_true, eq_self_iff_true] at H ⊢; exact H)
                          clear H
                          have H := H1
                          clear H1
                          rcases t155 with _ | q162
                          · have H1 : ((becketref03_Split.f kj14 a0 a1_0 a1_1 a1_2).bind fun t163 => ((becketref03_Same.f kj14 t152 t163).bind fun t166 => (some t166))) = some r := by rw [if_pos (show (none : Option Int).isNone = true by rfl)] at H; exact H
                            clear H
                            have H := H1
                            clear H1
                            try simp only [errW_none, errW_some]
                            replace H := Option.bind_eq_some_iff.mp H
                            obtain ⟨t163, A360, H⟩ := H
                            replace H : ((becketref03_Same.f kj14 t152 t163).bind fun t166 => (some t166)) = some r := H
                            have A36 := Aside0.mk A360
                            clear A360
                            replace H := Option.bind_eq_some_iff.mp H
                            obtain ⟨t166, A370, H⟩ := H
                            replace H : (some t166) = some r := H
                            have A37 := Aside0.mk A370
                            clear A370
                            obtain rfl := Option.some.inj H
                            have hcz38_0 : wc.cell? ⟨gb149, 0, none⟩ = some (.int .i64 a1_0) := (blk_cell BK149.out 0).trans rfl
                            have hcz38_1 : wc.cell? ⟨gb149, 1, none⟩ = some (.int .i64 a1_1) := (blk_cell BK149.out 1).trans rfl
                            have hcz38_2 : wc.cell? ⟨gb149, 2, none⟩ = some (.int .i64 a1_2) := (blk_cell BK149.out 2).trans rfl
                            have hfz38_0 := blk_frozen BK149.out 0
                            have hfz38_1 := blk_frozen BK149.out 1
                            have hfz38_2 := blk_frozen BK149.out 2
                            go_wp2_with (first | (go_at_call 38; (with_reducible refine (becketref03_Split.calls kj14 a0 a1_0 a1_1 a1_2 t163 _ A36.out).mono ?_); rintro e w39 ⟨v164, rfl, ho0, hb⟩; have n0_ := Aside0.mk (Kd.R_elder' (by (with_reducible repeat (first | apply Kd.R_alloc | apply Kd.R_drewN | apply Kd.R_drew)); exact HO_9.out) (Kd.R_base ho0) hb); have n1_ := Aside0.mk (Kd.R_lower (Kd.R_new' ho0 (Kd.R_lt (by (with_reducible repeat (first | apply Kd.R_alloc | apply Kd.R_drewN | apply Kd.R_drew)); exact HO_9.out))) (below_size (by repeat (first | (with_reducible first | exact HB.out | apply below_alloc | apply pw_below_drewN | apply below_drew1 | refine below_set ?_ GE149.out) | exact HB.out)))); have n2_ := Aside0.mk (blk_below (g := gb149) (o := .cells #[.int .i64 a1_0, .int .i64 a1_1, .int .i64 a1_2] 41 (0, 0)) (by (with_reducible repeat (first | refine blk_drewN ?_ _ | refine blk_drew ?_ | refine blk_alloc ?_ _)); exact BK149.out) hb); have n3_ := Aside0.mk (below_step (by repeat (first | (with_reducible first | exact HB.out | apply below_alloc | apply pw_below_drewN | apply below_drew1 | refine below_set ?_ GE149.out) | exact HB.out)) hb); clear HO_9; clear BK149; clear HB; have HO_9 := n0_; have HO165 := n1_; have BK149 := n2_; have HB := n3_; clear n0_ n1_ n2_ n3_; (try clear hb); (try clear hb2); (try clear hk); (try clear hi); (try clear ho0); obtain ⟨Ao40, co40, eo40⟩ := Kd.R_slice HO_9.out; subst eo40; obtain ⟨Ao41, co41, eo41⟩ := Kd.R_slice HO165.out; subst eo41) | (go_at_call 25; (with_reducible refine (becketref03_Same.calls kj14 _ _ t152 _ _ t163 t166 _ ?side1 ?side2 ?side3 ?side4 A37.out).mono ?_); (case side1 => repeat (first | exact (Kd.R_reads' HO_9.out).2.2 | (with_reducible refine Kd.C_alloc ?_ _) | (with_reducible refine Kd.C_drewN ?_ _) | (with_reducible refine Kd.C_drew ?_))); (case side2 => exact (Kd.R_reads' HO_9.out).2.1); (case side3 => repeat (first | exact (Kd.R_reads' HO165.out).2.2 | (with_reducible refine Kd.C_alloc ?_ _) | (with_reducible refine Kd.C_drewN ?_ _) | (with_reducible refine Kd.C_drew ?_))); (case side4 => exact (Kd.R_reads' HO165.out).2.1); rintro e w' ⟨rfl, ⟨nd, rfl⟩⟩))
                            go_ret
                            exact ⟨by first | rfl | (simp [errW_none, errW_some] <;> rfl) | (simp [*, errW_none, errW_some] <;> rfl), by repeat (first | (with_reducible first | exact HB.out | apply below_alloc | apply pw_below_drewN | apply below_drew1 | refine below_set ?_ GE149.out) | exact HB.out)⟩
                          · have H1 : (some false) = some r := by rw [if_neg (show ¬ (some q162).isNone = true by simp)] at H; exact H
                            clear H
                            have H := H1
                            clear H1
                            try simp only [errW_none, errW_some]
                            obtain rfl := Option.some.inj H
                            go_wp2
                            go_ret
                            exact ⟨by first | rfl | (simp [errW_none, errW_some] <;> rfl) | (simp [*, errW_none, errW_some] <;> rfl), by repeat (first | (with_reducible first | exact HB.out | apply below_alloc | apply pw_below_drewN | apply below_drew1 | refine below_set ?_ GE149.out) | exact HB.out)⟩
                        · replace c35 := Bool.eq_false_iff.mpr c35
                          subst c35
                          have H1 : (some false) = some r := by rw [if_neg (show ¬ (false = true) by decide)] at H; exact H
                          clear H
                          have H := H1
                          clear H1
                          obtain rfl := Option.some.inj H
                          go_wp2
                          go_ret
                          exact ⟨by first | rfl | (simp [errW_none, errW_some] <;> rfl) | (simp [*, errW_none, errW_some] <;> rfl), by repeat (first | (with_reducible first | exact HB.out | apply below_alloc | apply pw_below_drewN | apply below_drew1 | refine below_set ?_ GE149.out) | exact HB.out)⟩
                    · replace c30 := Bool.eq_false_iff.mpr c30
                      subst c30
                      have H1 : (if t150 = true then (if t155.isNone = true then (some false) else (if (t155.getD 0) = 1 then (some ((t152.length : Int) == 0)) else (some false))) else (some false)) = some r := by rw [if_neg (show ¬ (false = true) by decide)] at H; exact H
                      clear H
                      have H := H1
                      clear H1
                      by_cases c42 : t150 = true
                      · subst c42
                        have H1 : (if t155.isNone = true then (some false) else (if (t155.getD 0) = 1 then (some ((t152.length : Int) == 0)) else (some false))) = some r := by first | (rw [if_pos rfl] at H; with_reducible exact H) | exact (if_pos rfl).symm.trans H | (simp only [if_true, eq_self_iff_true] at H ⊢; exact H)
                        clear H
                        have H := H1
                        clear H1
                        rcases t155 with _ | q160
                        · have H1 : (some false) = some r := by rw [if_pos (show (none : Option Int).isNone = true by rfl)] at H; exact H
                          clear H
                          have H := H1
                          clear H1
                          try simp only [errW_none, errW_some]
                          obtain rfl := Option.some.inj H
                          go_wp2
                          go_ret
                          exact ⟨by first | rfl | (simp [errW_none, errW_some] <;> rfl) | (simp [*, errW_none, errW_some] <;> rfl), by repeat (first | (with_reducible first | exact HB.out | apply below_alloc | apply pw_below_drewN | apply below_drew1 | refine below_set ?_ GE149.out) | exact HB.out)⟩
                        · have H1 : (if q160 = 1 then (some ((t152.length : Int) == 0)) else (some false)) = some r := by rw [if_neg (show ¬ (some q160).isNone = true by simp)] at H; exact H
                          clear H
                          have H := H1
                          clear H1
                          try simp only [errW_none, errW_some]
                          by_cases c43 : q160 = 1
                          · rw [if_pos c43] at H
                            have c43b0 : (q160 == 1) = true := beq_iff_eq.mpr c43
                            have c43b1 : (q160 != 1) = false := bne_eq_false_iff_eq.mpr c43
                            clear c43
                            obtain rfl := Option.some.inj H
                            obtain ⟨Ao44, co44, eo44⟩ := Kd.R_slice HO_9.out
                            subst eo44
                            go_wp2
                            go_ret
                            exact ⟨by first | rfl | (simp [errW_none, errW_some] <;> rfl) | (simp [*, errW_none, errW_some] <;> rfl), by repeat (first | (with_reducible first | exact HB.out | apply below_alloc | apply pw_below_drewN | apply below_drew1 | refine below_set ?_ GE149.out) | exact HB.out)⟩
                          · rw [if_neg c43] at H
                            have c43b0 : (q160 == 1) = false := beq_eq_false_iff_ne.mpr c43
                            have c43b1 : (q160 != 1) = true := bne_iff_ne.mpr c43
                            obtain rfl := Option.some.inj H
                            go_wp2
                            go_ret
                            exact ⟨by first | rfl | (simp [errW_none, errW_some] <;> rfl) | (simp [*, errW_none, errW_some] <;> rfl), by repeat (first | (with_reducible first | exact HB.out | apply below_alloc | apply pw_below_drewN | apply below_drew1 | refine below_set ?_ GE149.out) | exact HB.out)⟩
                      · replace c42 := Bool.eq_false_iff.mpr c42
                        subst c42
                        have H1 : (some false) = some r := by rw [if_neg (show ¬ (false = true) by decide)] at H; exact H
                        clear H
                        have H := H1
                        clear H1
                        obtain rfl := Option.some.inj H
                        go_wp2
                        go_ret
                        exact ⟨by first | rfl | (simp [errW_none, errW_some] <;> rfl) | (simp [*, errW_none, errW_some] <;> rfl), by repeat (first | (with_reducible first | exact HB.out | apply below_alloc | apply pw_below_drewN | apply below_drew1 | refine below_set ?_ GE149.out) | exact HB.out)⟩

end Go.Proofs.Ytnjikdaicogdgaa.Lc
