-- PRINTED BY print.sh 35421559b90ae4d0a3588c463048766b98c2df88dd9212a6774a882060cdf62d: not written by this session
import Derived.Test.YtnjikdaicogdgaaPChunkEqualx0
import Derived.Test.YtnjikdaicogdgaaPChunkEqualx1
namespace Go.Proofs.Ytnjikdaicogdgaa.PChunkEqual
open Go.RowKit Go.Proofs.YtnjikdaicogdgaaW.PrintWords Go.Proofs.YtnjikdaicogdgaaW.PrintLast Go.Proofs.YtnjikdaicogdgaaW.PrintMore
attribute [local go_sem] max2_int min2_int max_two min_two max_three min_three max_four min_four   -- for this text's walks alone
set_option linter.unusedVariables false
set_option linter.unusedSimpArgs false

/-! ### becketlaw03_ChunkEqual: function 6 -/
mutual
def becketlaw03_ChunkEqual.j0 : Nat → ByteArray → Int → Bool → List ByteArray → Option Int → Bool → Option (Bool)
  | 0, _, _, _, _, _, _ => none
  | k + 1, x0, x1, x7, x8, x9, x30 => if x30 = true then (if x7 = true then (if x9.isNone = true then (some false) else (some true)) else (some false)) else (becketlaw03_ChunkEqual.l0 k x0 x1 x7 x8 0)
def becketlaw03_ChunkEqual.l0 : Nat → ByteArray → Int → Bool → List ByteArray → Int → Option (Bool)
  | 0, _, _, _, _, _ => none
  | k + 1, x0, x1, x7, x8, x10 => if x10 < (x8.length : Int) then (if 0 ≤ x10 then (if ((rdOf ByteArray.empty x8 x10).size : Int) = x1 then (if ((rdOf ByteArray.empty x8 x10).size : Int) > x1 then (some false) else (becketlaw03_ChunkEqual.l0 k x0 x1 x7 x8 (wrap64 (x10 + 1)))) else (if x10 < (wrap64 ((x8.length : Int) - 1)) then (some false) else (if ((rdOf ByteArray.empty x8 x10).size : Int) > x1 then (some false) else (becketlaw03_ChunkEqual.l0 k x0 x1 x7 x8 (wrap64 (x10 + 1)))))) else (none)) else (if x7 = true then (if x1 = 0 then (none) else (some ((x8.length : Int) == (wrap64 (Int.tdiv (wrap64 ((wrap64 ((x0.size : Int) + x1)) - 1)) x1))))) else (some false))
end
def becketlaw03_ChunkEqual.f (k : Nat) (a0 : ByteArray) (a1 : Int) (a2 : Int) : Option (Bool) := (becketlaw03_up.f k).bind fun t117 => (if (a0.size : Int) > 3000 then (some t117) else ((chunk_Split.f k a0 a1 a1 a2).bind fun bt118 => (if bt118.2.isNone = true then (becketlaw03_ChunkEqual.j0 k a0 a1 t117 bt118.1 none (decide (a1 < 1))) else (becketlaw03_ChunkEqual.j0 k a0 a1 t117 bt118.1 (some (bt118.2.getD 0)) true))))
theorem becketlaw03_ChunkEqual.mono_l : ∀ k, (∀ y0 y1 y2 y3 y4 y5, LeO (becketlaw03_ChunkEqual.j0 k y0 y1 y2 y3 y4 y5) (becketlaw03_ChunkEqual.j0 (k + 1) y0 y1 y2 y3 y4 y5)) ∧ (∀ y0 y1 y2 y3 y4, LeO (becketlaw03_ChunkEqual.l0 k y0 y1 y2 y3 y4) (becketlaw03_ChunkEqual.l0 (k + 1) y0 y1 y2 y3 y4))
  | 0 => ⟨fun _ _ _ _ _ _ r h => by simp [becketlaw03_ChunkEqual.j0] at h, fun _ _ _ _ _ r h => by simp [becketlaw03_ChunkEqual.l0] at h⟩
  | k + 1 => by
    obtain ⟨ih0, ih1⟩ := becketlaw03_ChunkEqual.mono_l k
    refine ⟨?_, ?_⟩
    · intro y0 y1 y2 y3 y4 y5
      unfold becketlaw03_ChunkEqual.j0
      repeat' first
      | (with_reducible exact ih0 _ _ _ _ _ _)
      | (with_reducible exact ih1 _ _ _ _ _)
      | (with_reducible exact becketlaw03_up.mono _)
      | (with_reducible exact chunk_Split.mono _ _ _ _ _)
      | (with_reducible exact LeO.refl _)
      | (with_reducible exact LeO.none _)
      | (with_reducible refine LeO.ite ?_ ?_)
      | (with_reducible refine LeO.bind ?_ (fun _ => ?_))
      | exact ih0 _ _ _ _ _ _
      | exact ih1 _ _ _ _ _
      | exact becketlaw03_up.mono _
      | exact chunk_Split.mono _ _ _ _ _
      | exact LeO.none _
      | refine LeO.ite ?_ ?_
      | refine LeO.bind ?_ (fun _ => ?_)
    · intro y0 y1 y2 y3 y4
      unfold becketlaw03_ChunkEqual.l0
      repeat' first
      | (with_reducible exact ih0 _ _ _ _ _ _)
      | (with_reducible exact ih1 _ _ _ _ _)
      | (with_reducible exact becketlaw03_up.mono _)
      | (with_reducible exact chunk_Split.mono _ _ _ _ _)
      | (with_reducible exact LeO.refl _)
      | (with_reducible exact LeO.none _)
      | (with_reducible refine LeO.ite ?_ ?_)
      | (with_reducible refine LeO.bind ?_ (fun _ => ?_))
      | exact ih0 _ _ _ _ _ _
      | exact ih1 _ _ _ _ _
      | exact becketlaw03_up.mono _
      | exact chunk_Split.mono _ _ _ _ _
      | exact LeO.none _
      | refine LeO.ite ?_ ?_
      | refine LeO.bind ?_ (fun _ => ?_)
theorem becketlaw03_ChunkEqual.mono : ∀ a0 a1 a2 k, LeO (becketlaw03_ChunkEqual.f k a0 a1 a2) (becketlaw03_ChunkEqual.f (k + 1) a0 a1 a2) := by
  intro a0 a1 a2 k
  obtain ⟨ih0, ih1⟩ := becketlaw03_ChunkEqual.mono_l k
  unfold becketlaw03_ChunkEqual.f
  repeat' first
      | (with_reducible exact ih0 _ _ _ _ _ _)
      | (with_reducible exact ih1 _ _ _ _ _)
      | (with_reducible exact becketlaw03_up.mono _)
      | (with_reducible exact chunk_Split.mono _ _ _ _ _)
      | (with_reducible exact LeO.refl _)
      | (with_reducible exact LeO.none _)
      | (with_reducible refine LeO.ite ?_ ?_)
      | (with_reducible refine LeO.bind ?_ (fun _ => ?_))
      | exact ih0 _ _ _ _ _ _
      | exact ih1 _ _ _ _ _
      | exact becketlaw03_up.mono _
      | exact chunk_Split.mono _ _ _ _ _
      | exact LeO.none _
      | refine LeO.ite ?_ ?_
      | refine LeO.bind ?_ (fun _ => ?_)
set_option maxHeartbeats 8000000 in
set_option maxRecDepth 100000 in
theorem becketlaw03_ChunkEqual.calls (k : Nat) (a0 : ByteArray) (a1 : Int) (a2 : Int) (r : Bool) (w : World) (h : becketlaw03_ChunkEqual.f k a0 a1 a2 = some r) :
    Calls Try.prog 6 #[.string a0, .int .i64 a1, .int .i64 a2] w fun e w' => e = .returned (.bool r) ∧ Below w.heap.size w w' := by
  have hu41 := Try.underlying41
  have hu27 := Try.underlying27
  have hu30 := Try.underlying30
  have HB := Aside0.mk (Below.refl w.heap.size w)
  have H : ((becketlaw03_up.f k).bind fun t117 => (if (a0.size : Int) > 3000 then (some t117) else ((chunk_Split.f k a0 a1 a1 a2).bind fun bt118 => (if bt118.2.isNone = true then (becketlaw03_ChunkEqual.j0 k a0 a1 t117 bt118.1 none (decide (a1 < 1))) else (becketlaw03_ChunkEqual.j0 k a0 a1 t117 bt118.1 (some (bt118.2.getD 0)) true))))) = some r := h
  clear h
  replace H := Option.bind_eq_some_iff.mp H
  obtain ⟨t117, A40, H⟩ := H
  replace H : (if (a0.size : Int) > 3000 then (some t117) else ((chunk_Split.f k a0 a1 a1 a2).bind fun bt118 => (if bt118.2.isNone = true then (becketlaw03_ChunkEqual.j0 k a0 a1 t117 bt118.1 none (decide (a1 < 1))) else (becketlaw03_ChunkEqual.j0 k a0 a1 t117 bt118.1 (some (bt118.2.getD 0)) true)))) = some r := H
  have A4 := Aside0.mk A40
  clear A40
  by_cases c5 : (a0.size : Int) > 3000
  · rw [if_pos c5] at H
    have c5b0 : decide (3000 < (a0.size : Int)) = true := decide_eq_true c5
    have c5b1 : decide (3000 < a0.size) = true := decide_eq_true (by omega)
    clear c5
    obtain rfl := Option.some.inj H
    go_enter Try.func6, Try.ntmps6
    go_wp2_with (first | ((with_reducible refine gate_callee (f := 23) rfl ?_); refine goesL_ (some 11) rfl rfl Try.func23 (by kernel_rfl) rfl #[] rfl (by (try simp only [List.map_toArray, List.map_cons, List.map_nil]); first | done | rfl | (simp only [List.length_drop, List.length_take]; rfl)) ?_; (with_reducible refine (becketlaw03_up.calls k  t117 _ A4.out).mono ?_); rintro e w6 ⟨rfl, hb⟩; refine ⟨_, rfl, ?_⟩; have n0_ := Aside0.mk (below_step (by repeat (first | (with_reducible first | exact HB.out | apply below_alloc | apply pw_below_drewN | apply below_drew1) | exact HB.out)) hb); clear HB; have HB := n0_; clear n0_; (try clear hb); (try clear hb2); (try clear hk); (try clear hi)))
    go_ret
    exact ⟨by first | rfl | (simp [errW_none, errW_some] <;> rfl) | (simp [*, errW_none, errW_some] <;> rfl), by repeat (first | (with_reducible first | exact HB.out | apply below_alloc | apply pw_below_drewN | apply below_drew1) | exact HB.out)⟩
  · rw [if_neg c5] at H
    have c5b0 : decide (3000 < (a0.size : Int)) = false := decide_eq_false c5
    have c5b1 : decide (3000 < a0.size) = false := decide_eq_false (by omega)
    clear c5
    replace H := Option.bind_eq_some_iff.mp H
    obtain ⟨⟨t118, t121⟩, A70, H⟩ := H
    replace H : (if t121.isNone = true then (becketlaw03_ChunkEqual.j0 k a0 a1 t117 t118 none (decide (a1 < 1))) else (becketlaw03_ChunkEqual.j0 k a0 a1 t117 t118 (some (t121.getD 0)) true)) = some r := H
    have A7 := Aside0.mk A70
    clear A70
    have HC8 := Aside0.mk H
    clear H
    go_enter Try.func6, Try.ntmps6
    go_upto_region 5 with (first | ((with_reducible refine gate_callee (f := 23) rfl ?_); refine goesL_ (some 11) rfl rfl Try.func23 (by kernel_rfl) rfl #[] rfl (by (try simp only [List.map_toArray, List.map_cons, List.map_nil]); first | done | rfl | (simp only [List.length_drop, List.length_take]; rfl)) ?_; (with_reducible refine (becketlaw03_up.calls k  t117 _ A4.out).mono ?_); rintro e w9 ⟨rfl, hb⟩; refine ⟨_, rfl, ?_⟩; have n0_ := Aside0.mk (below_step (by repeat (first | (with_reducible first | exact HB.out | apply below_alloc | apply pw_below_drewN | apply below_drew1) | exact HB.out)) hb); clear HB; have HB := n0_; clear n0_; (try clear hb); (try clear hb2); (try clear hk); (try clear hi)) | ((with_reducible refine gate_callee (f := 24) rfl ?_); refine goesL_ (some 22) rfl rfl Try.func24 (by kernel_rfl) rfl #[.string a0, .agg #[.int .i64 a1, .int .i64 a1, .int .i64 a2]] rfl (by (try simp only [List.map_toArray, List.map_cons, List.map_nil]); first | done | rfl | (simp only [List.length_drop, List.length_take]; rfl)) ?_; (with_reducible refine (chunk_Split.calls k a0 a1 a1 a2 t118 t121 _ A7.out).mono ?_); rintro e w10 ⟨v119, rfl, ho0, hb⟩; refine ⟨_, rfl, ?_⟩; have n0_ := Aside0.mk (Kd.R_lower ho0 (below_size (by repeat (first | (with_reducible first | exact HB.out | apply below_alloc | apply pw_below_drewN | apply below_drew1) | exact HB.out)))); have n1_ := Aside0.mk (below_step (by repeat (first | (with_reducible first | exact HB.out | apply below_alloc | apply pw_below_drewN | apply below_drew1) | exact HB.out)) hb); clear HB; have HO120 := n0_; have HB := n1_; clear n0_ n1_; (try clear hb); (try clear hb2); (try clear hk); (try clear hi); (try clear ho0); (try simp only [errW_none, errW_some])))
    (try simp only [Act.put, List.setIfInBounds_toArray, List.set_cons_zero, List.set_cons_succ])
    go_cut [30] (fun v30 wc => ∃ (kq : Nat) (x30_7 : Bool), v30 = .bool x30_7 ∧ Aside0 (becketlaw03_ChunkEqual.j0 kq a0 a1 t117 t118 t121 x30_7 = some r) ∧ Aside0 (kq ≤ k) ∧ Aside0 (Kd.R Kd.string 9 wc w.heap.size (fun _ => True) v119 t118) ∧ Aside0 (Below w.heap.size w wc))
    case first =>
      have H := HC8.out
      clear HC8
      rcases t121 with _ | q122
      · have H1 : (becketlaw03_ChunkEqual.j0 k a0 a1 t117 t118 none (decide (a1 < 1))) = some r := by rw [if_pos (show (none : Option Int).isNone = true by rfl)] at H; exact H
        clear H
        have H := H1
        clear H1
        try simp only [errW_none, errW_some]
        have H' := Aside0.mk H
        clear H
        go_wp2
        go_meet
        case rel => exact ⟨_, (decide (a1 < 1)), (by first | rfl | (simp; done) | (simp [*]; done)), H', ⟨by first | omega | exact Nat.le_refl _⟩, ⟨by (with_reducible repeat (first | apply Kd.R_alloc | apply Kd.R_drewN | apply Kd.R_drew)); exact HO120.out⟩, ⟨by repeat (first | (with_reducible first | exact HB.out | apply below_alloc | apply pw_below_drewN | apply below_drew1) | exact HB.out)⟩⟩
      · have H1 : (becketlaw03_ChunkEqual.j0 k a0 a1 t117 t118 (some q122) true) = some r := by rw [if_neg (show ¬ (some q122).isNone = true by simp)] at H; exact H
        clear H
        have H := H1
        clear H1
        try simp only [errW_none, errW_some]
        have H' := Aside0.mk H
        clear H
        go_wp2
        go_meet
        case rel => exact ⟨_, (true), (by first | rfl | (simp; done) | (simp [*]; done)), H', ⟨by first | omega | exact Nat.le_refl _⟩, ⟨by (with_reducible repeat (first | apply Kd.R_alloc | apply Kd.R_drewN | apply Kd.R_drew)); exact HO120.out⟩, ⟨by repeat (first | (with_reducible first | exact HB.out | apply below_alloc | apply pw_below_drewN | apply below_drew1) | exact HB.out)⟩⟩
    case rest =>
      clear HC8
      try clear q1
      try clear c2
      try clear p2
      try clear c5
      try clear c5b0
      try clear c5b1
      try clear c6
      try clear q122
      obtain ⟨kq, x30_7, rfl, HA, HJ7, HO_8, HB⟩ := hcut
      cases kq with
      | zero => exact absurd HA.out (by simp [becketlaw03_ChunkEqual.j0])
      | succ kj7 =>
        have H := HA.out
        clear HA
        simp only [becketlaw03_ChunkEqual.j0] at H
        by_cases c11 : x30_7 = true
        · subst c11
          have H1 : (if t117 = true then (if t121.isNone = true then (some false) else (some true)) else (some false)) = some r := by rw [if_pos rfl] at H; exact H
          clear H
          have H := H1
          clear H1
          by_cases c12 : t117 = true
          · subst c12
            have H1 : (if t121.isNone = true then (some false) else (some true)) = some r := by rw [if_pos rfl] at H; exact H
            clear H
            have H := H1
            clear H1
            rcases t121 with _ | q123
            · have H1 : (some false) = some r := by rw [if_pos (show (none : Option Int).isNone = true by rfl)] at H; exact H
              clear H
              have H := H1
              clear H1
              try simp only [errW_none, errW_some]
              obtain rfl := Option.some.inj H
              go_wp2
              go_ret
              exact ⟨by first | rfl | (simp [errW_none, errW_some] <;> rfl) | (simp [*, errW_none, errW_some] <;> rfl), by repeat (first | (with_reducible first | exact HB.out | apply below_alloc | apply pw_below_drewN | apply below_drew1) | exact HB.out)⟩
            · have H1 : (some true) = some r := by rw [if_neg (show ¬ (some q123).isNone = true by simp)] at H; exact H
              clear H
              have H := H1
              clear H1
              try simp only [errW_none, errW_some]
              obtain rfl := Option.some.inj H
              go_wp2
              go_ret
              exact ⟨by first | rfl | (simp [errW_none, errW_some] <;> rfl) | (simp [*, errW_none, errW_some] <;> rfl), by repeat (first | (with_reducible first | exact HB.out | apply below_alloc | apply pw_below_drewN | apply below_drew1) | exact HB.out)⟩
          · replace c12 := Bool.eq_false_iff.mpr c12
            subst c12
            have H1 : (some false) = some r := by rw [if_neg (show ¬ (false = true) by decide)] at H; exact H
            clear H
            have H := H1
            clear H1
            obtain rfl := Option.some.inj H
            go_wp2
            go_ret
            exact ⟨by first | rfl | (simp [errW_none, errW_some] <;> rfl) | (simp [*, errW_none, errW_some] <;> rfl), by repeat (first | (with_reducible first | exact HB.out | apply below_alloc | apply pw_below_drewN | apply below_drew1) | exact HB.out)⟩
        · replace c11 := Bool.eq_false_iff.mpr c11
          subst c11
          have H1 : (becketlaw03_ChunkEqual.l0 kj7 a0 a1 t117 t118 0) = some r := by rw [if_neg (show ¬ (false = true) by decide)] at H; exact H
          clear H
          have H := H1
          clear H1
          have H' := Aside0.mk H
          clear H
          go_wp2
          go_loopg [10] kj7 (fun kq v10 w' => ∃ (x10_2 : Int), v10 = .int .i64 x10_2 ∧ Aside0 (becketlaw03_ChunkEqual.l0 kq a0 a1 t117 t118 x10_2 = some r) ∧ Aside0 (kq ≤ kj7) ∧ Aside0 (Kd.R Kd.string 9 w' w.heap.size (fun _ => True) v119 t118) ∧ Aside0 (Below w.heap.size w w'))
          case atStart => exact ⟨(0), (by first | rfl | (simp; done) | (simp [*]; done)), H', ⟨Nat.le_refl _⟩, ⟨by (with_reducible repeat (first | apply Kd.R_alloc | apply Kd.R_drewN | apply Kd.R_drew)); exact HO_8.out⟩, ⟨by repeat (first | (with_reducible first | exact HB.out | apply below_alloc | apply pw_below_drewN | apply below_drew1) | exact HB.out)⟩⟩
          case round =>
            clear H'
            try clear c1
            try clear q1
            try clear c2
            try clear p2
            try clear c5
            try clear c5b0
            try clear c5b1
            try clear c6
            try clear c11
            try clear c12
            try clear q12
            try clear p2
            try clear q1
            try clear q122
            try clear q123
            obtain ⟨x10_2, rfl, HA, HK2, HO_8, HB⟩ := hrel
            cases gk with
            | zero => exact absurd HA.out (by simp [becketlaw03_ChunkEqual.l0])
            | succ k2 =>
              have H := HA.out
              clear HA
              simp only [becketlaw03_ChunkEqual.l0] at H
              by_cases c13 : x10_2 < (t118.length : Int)
              · rw [if_pos c13] at H
                have c13b0 : decide (x10_2 < (t118.length : Int)) = true := decide_eq_true c13
                clear c13
                by_cases c14 : 0 ≤ x10_2
                · rw [if_pos c14] at H
                  have c14b0 : decide (0 ≤ x10_2) = true := decide_eq_true c14
                  clear c14
                  by_cases c15 : ((rdOf ByteArray.empty t118 x10_2).size : Int) = a1
                  · rw [if_pos c15] at H
                    have c15b0 : (((rdOf ByteArray.empty t118 x10_2).size : Int) == a1) = true := beq_iff_eq.mpr c15
                    have c15b1 : (((rdOf ByteArray.empty t118 x10_2).size : Int) != a1) = false := bne_eq_false_iff_eq.mpr c15
                    clear c15
                    by_cases c16 : ((rdOf ByteArray.empty t118 x10_2).size : Int) > a1
                    · rw [if_pos c16] at H
                      have c16b0 : decide (a1 < ((rdOf ByteArray.empty t118 x10_2).size : Int)) = true := decide_eq_true c16
                      clear c16
                      obtain rfl := Option.some.inj H
                      obtain ⟨Ao17, co17, eo17⟩ := Kd.R_slice HO_8.out
                      subst eo17
                      have p124 : 0 ≤ (x10_2 : Int) := of_decide_eq_true (by first | (with_reducible assumption) | assumption)
                      have q124 : x10_2 < (t118.length : Int) := of_decide_eq_true (by first | (with_reducible assumption) | assumption)
                      obtain ⟨ad124, e124, hx124_0⟩ := Kd.at_string (Kd.R_reads' HO_8.out).2.2 x10_2 p124 q124
                      cases e124
                      replace p124 := eq_true p124
                      replace q124 := eq_true q124
                      have p125 : 0 ≤ (x10_2 : Int) := of_decide_eq_true (by first | (with_reducible assumption) | assumption)
                      have q125 : x10_2 < (t118.length : Int) := of_decide_eq_true (by first | (with_reducible assumption) | assumption)
                      obtain ⟨ad125, e125, hx125_0⟩ := Kd.at_string (Kd.R_reads' HO_8.out).2.2 x10_2 p125 q125
                      obtain rfl : ad124 = ad125 := (by injection e125)
                      replace p125 := eq_true p125
                      replace q125 := eq_true q125
                      go_wp2
                      go_ret
                      exact ⟨by first | rfl | (simp [errW_none, errW_some] <;> rfl) | (simp [*, errW_none, errW_some] <;> rfl), by repeat (first | (with_reducible first | exact HB.out | apply below_alloc | apply pw_below_drewN | apply below_drew1) | exact HB.out)⟩
                    · rw [if_neg c16] at H
                      have c16b0 : decide (a1 < ((rdOf ByteArray.empty t118 x10_2).size : Int)) = false := decide_eq_false c16
                      clear c16
                      have H' := Aside0.mk H
                      clear H
                      obtain ⟨Ao18, co18, eo18⟩ := Kd.R_slice HO_8.out
                      subst eo18
                      have p124 : 0 ≤ (x10_2 : Int) := of_decide_eq_true (by first | (with_reducible assumption) | assumption)
                      have q124 : x10_2 < (t118.length : Int) := of_decide_eq_true (by first | (with_reducible assumption) | assumption)
                      obtain ⟨ad124, e124, hx124_0⟩ := Kd.at_string (Kd.R_reads' HO_8.out).2.2 x10_2 p124 q124
                      cases e124
                      replace p124 := eq_true p124
                      replace q124 := eq_true q124
                      have p125 : 0 ≤ (x10_2 : Int) := of_decide_eq_true (by first | (with_reducible assumption) | assumption)
                      have q125 : x10_2 < (t118.length : Int) := of_decide_eq_true (by first | (with_reducible assumption) | assumption)
                      obtain ⟨ad125, e125, hx125_0⟩ := Kd.at_string (Kd.R_reads' HO_8.out).2.2 x10_2 p125 q125
                      obtain rfl : ad124 = ad125 := (by injection e125)
                      replace p125 := eq_true p125
                      replace q125 := eq_true q125
                      go_wp2
                      go_roundg k2
                      case measure => have := HJ7.out; have := HK2.out; omega
                      case rel => exact ⟨(wrap64 (x10_2 + 1)), (by first | rfl | (simp; done) | (simp [*]; done)), H', ⟨by have := HJ7.out; have := HK2.out; omega⟩, ⟨by (with_reducible repeat (first | apply Kd.R_alloc | apply Kd.R_drewN | apply Kd.R_drew)); exact HO_8.out⟩, ⟨by repeat (first | (with_reducible first | exact HB.out | apply below_alloc | apply pw_below_drewN | apply below_drew1) | exact HB.out)⟩⟩
                  · rw [if_neg c15] at H
                    have c15b0 : (((rdOf ByteArray.empty t118 x10_2).size : Int) == a1) = false := beq_eq_false_iff_ne.mpr c15
                    have c15b1 : (((rdOf ByteArray.empty t118 x10_2).size : Int) != a1) = true := bne_iff_ne.mpr c15
                    by_cases c19 : x10_2 < (wrap64 ((t118.length : Int) - 1))
                    · rw [if_pos c19] at H
                      have c19b0 : decide (x10_2 < (wrap64 ((t118.length : Int) - 1))) = true := decide_eq_true c19
                      clear c19
                      obtain rfl := Option.some.inj H
                      obtain ⟨Ao20, co20, eo20⟩ := Kd.R_slice HO_8.out
                      subst eo20
                      have p124 : 0 ≤ (x10_2 : Int) := of_decide_eq_true (by first | (with_reducible assumption) | assumption)
                      have q124 : x10_2 < (t118.length : Int) := of_decide_eq_true (by first | (with_reducible assumption) | assumption)
                      obtain ⟨ad124, e124, hx124_0⟩ := Kd.at_string (Kd.R_reads' HO_8.out).2.2 x10_2 p124 q124
                      cases e124
                      replace p124 := eq_true p124
                      replace q124 := eq_true q124
                      go_wp2
                      go_ret
                      exact ⟨by first | rfl | (simp [errW_none, errW_some] <;> rfl) | (simp [*, errW_none, errW_some] <;> rfl), by repeat (first | (with_reducible first | exact HB.out | apply below_alloc | apply pw_below_drewN | apply below_drew1) | exact HB.out)⟩
                    · rw [if_neg c19] at H
                      have c19b0 : decide (x10_2 < (wrap64 ((t118.length : Int) - 1))) = false := decide_eq_false c19
                      clear c19
                      by_cases c21 : ((rdOf ByteArray.empty t118 x10_2).size : Int) > a1
                      · rw [if_pos c21] at H
                        have c21b0 : decide (a1 < ((rdOf ByteArray.empty t118 x10_2).size : Int)) = true := decide_eq_true c21
                        clear c21
                        obtain rfl := Option.some.inj H
                        obtain ⟨Ao22, co22, eo22⟩ := Kd.R_slice HO_8.out
                        subst eo22
                        have p124 : 0 ≤ (x10_2 : Int) := of_decide_eq_true (by first | (with_reducible assumption) | assumption)
                        have q124 : x10_2 < (t118.length : Int) := of_decide_eq_true (by first | (with_reducible assumption) | assumption)
                        obtain ⟨ad124, e124, hx124_0⟩ := Kd.at_string (Kd.R_reads' HO_8.out).2.2 x10_2 p124 q124
                        cases e124
                        replace p124 := eq_true p124
                        replace q124 := eq_true q124
                        have p126 : 0 ≤ (x10_2 : Int) := of_decide_eq_true (by first | (with_reducible assumption) | assumption)
                        have q126 : x10_2 < (t118.length : Int) := of_decide_eq_true (by first | (with_reducible assumption) | assumption)
                        obtain ⟨ad126, e126, hx126_0⟩ := Kd.at_string (Kd.R_reads' HO_8.out).2.2 x10_2 p126 q126
                        obtain rfl : ad124 = ad126 := (by injection e126)
                        replace p126 := eq_true p126
                        replace q126 := eq_true q126
                        go_wp2
                        go_ret
                        exact ⟨by first | rfl | (simp [errW_none, errW_some] <;> rfl) | (simp [*, errW_none, errW_some] <;> rfl), by repeat (first | (with_reducible first | exact HB.out | apply below_alloc | apply pw_below_drewN | apply below_drew1) | exact HB.out)⟩
                      · rw [if_neg c21] at H
                        have c21b0 : decide (a1 < ((rdOf ByteArray.empty t118 x10_2).size : Int)) = false := decide_eq_false c21
                        clear c21
                        have H' := Aside0.mk H
                        clear H
                        obtain ⟨Ao23, co23, eo23⟩ := Kd.R_slice HO_8.out
                        subst eo23
                        have p124 : 0 ≤ (x10_2 : Int) := of_decide_eq_true (by first | (with_reducible assumption) | assumption)
                        have q124 : x10_2 < (t118.length : Int) := of_decide_eq_true (by first | (with_reducible assumption) | assumption)
                        obtain ⟨ad124, e124, hx124_0⟩ := Kd.at_string (Kd.R_reads' HO_8.out).2.2 x10_2 p124 q124
                        cases e124
                        replace p124 := eq_true p124
                        replace q124 := eq_true q124
                        have p126 : 0 ≤ (x10_2 : Int) := of_decide_eq_true (by first | (with_reducible assumption) | assumption)
                        have q126 : x10_2 < (t118.length : Int) := of_decide_eq_true (by first | (with_reducible assumption) | assumption)
                        obtain ⟨ad126, e126, hx126_0⟩ := Kd.at_string (Kd.R_reads' HO_8.out).2.2 x10_2 p126 q126
                        obtain rfl : ad124 = ad126 := (by injection e126)
                        replace p126 := eq_true p126
                        replace q126 := eq_true q126
                        go_wp2
                        go_roundg k2
                        case measure => have := HJ7.out; have := HK2.out; omega
                        case rel => exact ⟨(wrap64 (x10_2 + 1)), (by first | rfl | (simp; done) | (simp [*]; done)), H', ⟨by have := HJ7.out; have := HK2.out; omega⟩, ⟨by (with_reducible repeat (first | apply Kd.R_alloc | apply Kd.R_drewN | apply Kd.R_drew)); exact HO_8.out⟩, ⟨by repeat (first | (with_reducible first | exact HB.out | apply below_alloc | apply pw_below_drewN | apply below_drew1) | exact HB.out)⟩⟩
                · rw [if_neg c14] at H
                  exact absurd H (by simp)
              · rw [if_neg c13] at H
                have c13b0 : decide (x10_2 < (t118.length : Int)) = false := decide_eq_false c13
                clear c13
                by_cases c24 : t117 = true
                · subst c24
                  have H1 : (if a1 = 0 then (none) else (some ((t118.length : Int) == (wrap64 (Int.tdiv (wrap64 ((wrap64 ((a0.size : Int) + a1)) - 1)) a1))))) = some r := by rw [if_pos rfl] at H; exact H
                  clear H
                  have H := H1
                  clear H1
                  by_cases c25 : a1 = 0
                  · rw [if_pos c25] at H
                    exact absurd H (by simp)
                  · rw [if_neg c25] at H
                    have c25b0 : (a1 == 0) = false := beq_eq_false_iff_ne.mpr c25
                    have c25b1 : (a1 != 0) = true := bne_iff_ne.mpr c25
                    obtain rfl := Option.some.inj H
                    obtain ⟨Ao26, co26, eo26⟩ := Kd.R_slice HO_8.out
                    subst eo26
                    go_wp2
                    go_ret
                    exact ⟨by first | rfl | (simp [errW_none, errW_some] <;> rfl) | (simp [*, errW_none, errW_some] <;> rfl), by repeat (first | (with_reducible first | exact HB.out | apply below_alloc | apply pw_below_drewN | apply below_drew1) | exact HB.out)⟩
                · replace c24 := Bool.eq_false_iff.mpr c24
                  subst c24
                  have H1 : (some false) = some r := by rw [if_neg (show ¬ (false = true) by decide)] at H; exact H
                  clear H
                  have H := H1
                  clear H1
                  obtain rfl := Option.some.inj H
                  obtain ⟨Ao27, co27, eo27⟩ := Kd.R_slice HO_8.out
                  subst eo27
                  go_wp2
                  go_ret
                  exact ⟨by first | rfl | (simp [errW_none, errW_some] <;> rfl) | (simp [*, errW_none, errW_some] <;> rfl), by repeat (first | (with_reducible first | exact HB.out | apply below_alloc | apply pw_below_drewN | apply below_drew1) | exact HB.out)⟩

/-- THE ONE PURE STATEMENT of becketlaw03_ChunkEqual: yours. -/
def becketlaw03_ChunkEqual.Pure : Prop := ∀ (a0 : ByteArray) (a1 : Int) (a2 : Int), a0.size ≤ 140737488351232 → (Lit.int .i64 a1).wf = true → (Lit.int .i64 a2).wf = true → ∃ k, becketlaw03_ChunkEqual.f k a0 a1 a2 = some true
theorem becketlaw03_ChunkEqual.walk (P : becketlaw03_ChunkEqual.Pure) (a0 : ByteArray) (a1 : Int) (a2 : Int) (w : World) (w0 : a0.size ≤ 140737488351232) (w1 : (Lit.int .i64 a1).wf = true) (w2 : (Lit.int .i64 a2).wf = true) :
    Calls Try.prog 6 #[.string a0, .int .i64 a1, .int .i64 a2] w fun e w' => e = .returned (.bool true) ∧ Below w.heap.size w w' := by
  obtain ⟨k, h⟩ := P a0 a1 a2 w0 w1 w2
  refine (becketlaw03_ChunkEqual.calls k a0 a1 a2 true w h).mono ?_
  rintro e w' ⟨rfl, hd⟩
  exact ⟨rfl, hd⟩

end Go.Proofs.Ytnjikdaicogdgaa.PChunkEqual
