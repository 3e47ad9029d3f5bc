-- Out of the translation, by a program of this session (wip/myprint.py, over the kit's printer). Lean checks it.
import Derived.Test.YtnjikdaicogdgaaLax0
import Derived.Test.YtnjikdaicogdgaaLax1
import Derived.Test.YtnjikdaicogdgaaLax2
namespace Go.Proofs.Ytnjikdaicogdgaa.La
open Go.RowKit Go.Proofs.YtnjikdaicogdgaaW.PrintWords Go.Proofs.YtnjikdaicogdgaaW.PrintLast Go.Proofs.YtnjikdaicogdgaaW.PrintMore
attribute [local go_sem] max2_int min2_int max_two min_two max_three min_three max_four min_four   -- for this text's walks alone
set_option linter.unusedVariables false
set_option linter.unusedSimpArgs false

attribute [local go_sem] eqlErr neqErr eqlErrNil neqErrNil
/-! ### becketlaw01_WireStays: function 10 -/
mutual
def becketlaw01_WireStays.j0 : Nat → List Int → Int → ByteArray → Bool → Bool → Option (Bool)
  | 0, _, _, _, _, _ => none
  | k + 1, x0, x1, x2, x7, x22 => if x22 = true then (some x7) else ((some (([] : List Int) : List Int)).bind fun y155 => (if y155.length + x0.length < 140737488355328 then ((some (y155 ++ x0 : List Int)).bind fun y158 => ((some (([1, 2, 3, 4, 5, 6, 7, 8, 9, 10, 11, 12] : List Int) : List Int)).bind fun y161 => (if y158.length + y161.length < 140737488355328 then ((some (y158 ++ y161 : List Int)).bind fun y164 => (if 0 ≤ (x0.length : Int) then (if (x0.length : Int) ≤ (y164.length : Int) then ((wire_Num.f k (y164.take ((x0.length : Int) : Int).toNat) x1).bind fun t171 => ((wire_Text.f k (y164.take ((x0.length : Int) : Int).toNat) x2).bind fun t178 => (becketlaw01_WireStays.l0 k x7 y164 (strOfNums y164) t171 t178 (strOfNums t171) 0))) else (none)) else (none))) else (none)))) else (none)))
def becketlaw01_WireStays.l0 : Nat → Bool → List Int → ByteArray → List Int → List Int → ByteArray → Int → Option (Bool)
  | 0, _, _, _, _, _, _, _ => none
  | k + 1, x7, x8, x9, x10, x11, x12, x13 => if x13 < (x11.length : Int) then (if 0 ≤ x13 then (becketlaw01_WireStays.l0 k x7 x8 x9 x10 (x11.set (x13 : Int).toNat (((rd x11 x13) + 1) % 256)) x12 (wrap64 (x13 + 1))) else (none)) else (if x7 = true then (if (strOfNums x8).toList = x9.toList then (some ((strOfNums x10).toList == x12.toList)) else (some false)) else (some false))
end
def becketlaw01_WireStays.f (k : Nat) (l0 : List Int) (a1 : Int) (a2 : ByteArray) : Option (Bool) := (becketlaw01_up.f k).bind fun t154 => (if (l0.length : Int) > 10000 then (becketlaw01_WireStays.j0 k l0 a1 a2 t154 true) else (becketlaw01_WireStays.j0 k l0 a1 a2 t154 (decide ((a2.size : Int) > 10000))))
theorem becketlaw01_WireStays.mono_l : ∀ k, (∀ y0 y1 y2 y3 y4, LeO (becketlaw01_WireStays.j0 k y0 y1 y2 y3 y4) (becketlaw01_WireStays.j0 (k + 1) y0 y1 y2 y3 y4)) ∧ (∀ y0 y1 y2 y3 y4 y5 y6, LeO (becketlaw01_WireStays.l0 k y0 y1 y2 y3 y4 y5 y6) (becketlaw01_WireStays.l0 (k + 1) y0 y1 y2 y3 y4 y5 y6))
  | 0 => ⟨fun _ _ _ _ _ r h => by simp [becketlaw01_WireStays.j0] at h, fun _ _ _ _ _ _ _ r h => by simp [becketlaw01_WireStays.l0] at h⟩
  | k + 1 => by
    obtain ⟨ih0, ih1⟩ := becketlaw01_WireStays.mono_l k
    refine ⟨?_, ?_⟩
    · intro y0 y1 y2 y3 y4
      unfold becketlaw01_WireStays.j0
      repeat' first
      | (with_reducible exact ih0 _ _ _ _ _)
      | (with_reducible exact ih1 _ _ _ _ _ _ _)
      | (with_reducible exact becketlaw01_up.mono _)
      | (with_reducible exact wire_Num.mono _ _ _)
      | (with_reducible exact wire_Text.mono _ _ _)
      | (with_reducible exact LeO.refl _)
      | (with_reducible exact LeO.none _)
      | (with_reducible refine LeO.ite ?_ ?_)
      | (with_reducible refine LeO.bind ?_ (fun _ => ?_))
      | exact ih0 _ _ _ _ _
      | exact ih1 _ _ _ _ _ _ _
      | exact becketlaw01_up.mono _
      | exact wire_Num.mono _ _ _
      | exact wire_Text.mono _ _ _
      | exact LeO.none _
      | refine LeO.ite ?_ ?_
      | refine LeO.bind ?_ (fun _ => ?_)
    · intro y0 y1 y2 y3 y4 y5 y6
      unfold becketlaw01_WireStays.l0
      repeat' first
      | (with_reducible exact ih0 _ _ _ _ _)
      | (with_reducible exact ih1 _ _ _ _ _ _ _)
      | (with_reducible exact becketlaw01_up.mono _)
      | (with_reducible exact wire_Num.mono _ _ _)
      | (with_reducible exact wire_Text.mono _ _ _)
      | (with_reducible exact LeO.refl _)
      | (with_reducible exact LeO.none _)
      | (with_reducible refine LeO.ite ?_ ?_)
      | (with_reducible refine LeO.bind ?_ (fun _ => ?_))
      | exact ih0 _ _ _ _ _
      | exact ih1 _ _ _ _ _ _ _
      | exact becketlaw01_up.mono _
      | exact wire_Num.mono _ _ _
      | exact wire_Text.mono _ _ _
      | exact LeO.none _
      | refine LeO.ite ?_ ?_
      | refine LeO.bind ?_ (fun _ => ?_)
theorem becketlaw01_WireStays.mono : ∀ a0 a1 a2 k, LeO (becketlaw01_WireStays.f k a0 a1 a2) (becketlaw01_WireStays.f (k + 1) a0 a1 a2) := by
  intro a0 a1 a2 k
  obtain ⟨ih0, ih1⟩ := becketlaw01_WireStays.mono_l k
  unfold becketlaw01_WireStays.f
  repeat' first
      | (with_reducible exact ih0 _ _ _ _ _)
      | (with_reducible exact ih1 _ _ _ _ _ _ _)
      | (with_reducible exact becketlaw01_up.mono _)
      | (with_reducible exact wire_Num.mono _ _ _)
      | (with_reducible exact wire_Text.mono _ _ _)
      | (with_reducible exact LeO.refl _)
      | (with_reducible exact LeO.none _)
      | (with_reducible refine LeO.ite ?_ ?_)
      | (with_reducible refine LeO.bind ?_ (fun _ => ?_))
      | exact ih0 _ _ _ _ _
      | exact ih1 _ _ _ _ _ _ _
      | exact becketlaw01_up.mono _
      | exact wire_Num.mono _ _ _
      | exact wire_Text.mono _ _ _
      | exact LeO.none _
      | refine LeO.ite ?_ ?_
      | refine LeO.bind ?_ (fun _ => ?_)
set_option maxHeartbeats 8000000 in
set_option maxRecDepth 100000 in
theorem becketlaw01_WireStays.calls (k : Nat) (A0 : Option Addr) (c0 : Nat) (l0 : List Int) (a1 : Int) (a2 : ByteArray) (r : Bool) (w : World) (hr0 : Kd.C (Kd.int .u8) w A0 l0.length l0) (hc0 : l0.length ≤ c0) (h : becketlaw01_WireStays.f k l0 a1 a2 = some r) :
    Calls Try.prog 10 #[.slice A0 l0.length c0, .int .u64 a1, .string a2] w fun e w' => e = .returned (.bool r) ∧ Below w.heap.size w w' := by
  have HR0 := Aside0.mk hr0
  have HC0 := Aside0.mk hc0
  clear hr0 hc0
  have HB := Aside0.mk (Below.refl w.heap.size w)
  have H : ((becketlaw01_up.f k).bind fun t154 => (if (l0.length : Int) > 10000 then (becketlaw01_WireStays.j0 k l0 a1 a2 t154 true) else (becketlaw01_WireStays.j0 k l0 a1 a2 t154 (decide ((a2.size : Int) > 10000))))) = some r := h
  clear h
  replace H := Option.bind_eq_some_iff.mp H
  obtain ⟨t154, A40, H⟩ := H
  replace H : (if (l0.length : Int) > 10000 then (becketlaw01_WireStays.j0 k l0 a1 a2 t154 true) else (becketlaw01_WireStays.j0 k l0 a1 a2 t154 (decide ((a2.size : Int) > 10000)))) = some r := H
  have A4 := Aside0.mk A40
  clear A40
  have HC5 := Aside0.mk H
  clear H
  go_enter Try.func10, Try.ntmps10
  go_upto_region 2 with (first | ((with_reducible refine gate_callee (f := 27) rfl ?_); refine goesL_ (some 14) rfl rfl Try.func27 (by kernel_rfl) rfl #[] rfl (by (try simp only [List.map_toArray, List.map_cons, List.map_nil]); first | done | rfl | (simp only [List.length_drop, List.length_take]; rfl)) ?_; (with_reducible refine (becketlaw01_up.calls k  t154 _ A4.out).mono ?_); rintro e w6 ⟨rfl, hb⟩; refine ⟨_, rfl, ?_⟩; have n0_ := Aside0.mk (below_step (by repeat (first | (with_reducible first | exact HB.out | apply below_alloc | apply pw_below_drewN | apply below_drew1) | exact HB.out)) hb); clear HB; have HB := n0_; clear n0_; (try clear hb); (try clear hb2); (try clear hk); (try clear hi)))
  (try simp only [Act.put, List.setIfInBounds_toArray, List.set_cons_zero, List.set_cons_succ])
  go_cut [22] (fun v22 wc => ∃ (kq : Nat) (x22_4 : Bool), v22 = .bool x22_4 ∧ Aside0 (becketlaw01_WireStays.j0 kq l0 a1 a2 t154 x22_4 = some r) ∧ Aside0 (kq ≤ k) ∧ Aside0 (Below w.heap.size w wc))
  case first =>
    have H := HC5.out
    clear HC5
    by_cases c7 : (l0.length : Int) > 10000
    · rw [if_pos c7] at H
      have c7b0 : decide (10000 < (l0.length : Int)) = true := decide_eq_true c7
      have c7b1 : decide (10000 < l0.length) = true := decide_eq_true (by omega)
      clear c7
      (first | rw [c7b0] | (simp only [i64_w, i32_w]; rw [c7b0]) | skip)
      have H' := Aside0.mk H
      clear H
      go_wp2
      go_meet
      case rel => exact ⟨_, (true), (by first | rfl | (simp; done) | (simp [*]; done)), H', ⟨by first | omega | exact Nat.le_refl _⟩, ⟨by repeat (first | (with_reducible first | exact HB.out | apply below_alloc | apply pw_below_drewN | apply below_drew1) | exact HB.out)⟩⟩
    · rw [if_neg c7] at H
      have c7b0 : decide (10000 < (l0.length : Int)) = false := decide_eq_false c7
      have c7b1 : decide (10000 < l0.length) = false := decide_eq_false (by omega)
      clear c7
      (first | rw [c7b0] | (simp only [i64_w, i32_w]; rw [c7b0]) | skip)
      have H' := Aside0.mk H
      clear H
      go_wp2
      go_meet
      case rel => exact ⟨_, (decide ((a2.size : Int) > 10000)), (by first | rfl | (simp; done) | (simp [*]; done)), H', ⟨by first | omega | exact Nat.le_refl _⟩, ⟨by repeat (first | (with_reducible first | exact HB.out | apply below_alloc | apply pw_below_drewN | apply below_drew1) | exact HB.out)⟩⟩
  case rest =>
    clear HC5
    try clear c1
    try clear c2
    try clear p2
    try clear c7
    try clear c7b0
    try clear c7b1
    obtain ⟨kq, x22_4, rfl, HA, HJ4, HB⟩ := hcut
    cases kq with
    | zero => exact absurd HA.out (by simp [becketlaw01_WireStays.j0])
    | succ kj4 =>
      have H := HA.out
      clear HA
      simp only [becketlaw01_WireStays.j0] at H
      by_cases c8 : x22_4 = true
      · subst c8
        have H1 : (some t154) = some r := by first | (rw [if_pos rfl] at H; with_reducible exact H) | exact (if_pos rfl).symm.trans H | (simp only [if_true, eq_self_iff_true] at H ⊢; exact H)
        clear H
        have H := H1
        clear H1
        obtain rfl := Option.some.inj H
        go_wp2
        go_ret
        exact ⟨by first | rfl | (simp [errW_none, errW_some] <;> rfl) | (simp [*, errW_none, errW_some] <;> rfl), by repeat (first | (with_reducible first | exact HB.out | apply below_alloc | apply pw_below_drewN | apply below_drew1) | exact HB.out)⟩
      · replace c8 := Bool.eq_false_iff.mpr c8
        subst c8
        have H1 : ((some (([] : List Int) : List Int)).bind fun y155 => (if y155.length + l0.length < 140737488355328 then ((some (y155 ++ l0 : List Int)).bind fun y158 => ((some (([1, 2, 3, 4, 5, 6, 7, 8, 9, 10, 11, 12] : List Int) : List Int)).bind fun y161 => (if y158.length + y161.length < 140737488355328 then ((some (y158 ++ y161 : List Int)).bind fun y164 => (if 0 ≤ (l0.length : Int) then (if (l0.length : Int) ≤ (y164.length : Int) then ((wire_Num.f kj4 (y164.take ((l0.length : Int) : Int).toNat) a1).bind fun t171 => ((wire_Text.f kj4 (y164.take ((l0.length : Int) : Int).toNat) a2).bind fun t178 => (becketlaw01_WireStays.l0 kj4 t154 y164 (strOfNums y164) t171 t178 (strOfNums t171) 0))) else (none)) else (none))) else (none)))) else (none))) = some r := by rw [if_neg (show ¬ (false = true) by decide)] at H; exact H
        clear H
        have H := H1
        clear H1
        obtain ⟨y155, hy155⟩ : ∃ y_ : List Int, y_ = (([] : List Int)) := ⟨_, rfl⟩
        replace H : (if y155.length + l0.length < 140737488355328 then ((some (y155 ++ l0 : List Int)).bind fun y158 => ((some (([1, 2, 3, 4, 5, 6, 7, 8, 9, 10, 11, 12] : List Int) : List Int)).bind fun y161 => (if y158.length + y161.length < 140737488355328 then ((some (y158 ++ y161 : List Int)).bind fun y164 => (if 0 ≤ (l0.length : Int) then (if (l0.length : Int) ≤ (y164.length : Int) then ((wire_Num.f kj4 (y164.take ((l0.length : Int) : Int).toNat) a1).bind fun t171 => ((wire_Text.f kj4 (y164.take ((l0.length : Int) : Int).toNat) a2).bind fun t178 => (becketlaw01_WireStays.l0 kj4 t154 y164 (strOfNums y164) t171 t178 (strOfNums t171) 0))) else (none)) else (none))) else (none)))) else (none)) = some r := by first | (rw [hy155]; with_reducible exact H) | (have H2_ := (Option.bind_some _ _).symm.trans H; rw [hy155]; with_reducible exact H2_) | (have H2_ := (Option.bind_some _ _).symm.trans H; with_reducible exact H2_) | with_reducible exact H | (rw [hy155]; exact H) | exact H
        have Ny155 := Aside0.mk hy155
        clear hy155
        by_cases c9 : y155.length + l0.length < 140737488355328
        · rw [if_pos c9] at H
          have LMc9 := Aside0.mk c9
          clear c9
          obtain ⟨y158, hy158⟩ : ∃ y_ : List Int, y_ = (y155 ++ l0) := ⟨_, rfl⟩
          replace H : ((some (([1, 2, 3, 4, 5, 6, 7, 8, 9, 10, 11, 12] : List Int) : List Int)).bind fun y161 => (if y158.length + y161.length < 140737488355328 then ((some (y158 ++ y161 : List Int)).bind fun y164 => (if 0 ≤ (l0.length : Int) then (if (l0.length : Int) ≤ (y164.length : Int) then ((wire_Num.f kj4 (y164.take ((l0.length : Int) : Int).toNat) a1).bind fun t171 => ((wire_Text.f kj4 (y164.take ((l0.length : Int) : Int).toNat) a2).bind fun t178 => (becketlaw01_WireStays.l0 kj4 t154 y164 (strOfNums y164) t171 t178 (strOfNums t171) 0))) else (none)) else (none))) else (none))) = some r := by first | (rw [hy158]; with_reducible exact H) | (have H2_ := (Option.bind_some _ _).symm.trans H; rw [hy158]; with_reducible exact H2_) | (have H2_ := (Option.bind_some _ _).symm.trans H; with_reducible exact H2_) | with_reducible exact H | (rw [hy158]; exact H) | exact H
          have Ny158 := Aside0.mk hy158
          clear hy158
          obtain ⟨y161, hy161⟩ : ∃ y_ : List Int, y_ = (([1, 2, 3, 4, 5, 6, 7, 8, 9, 10, 11, 12] : List Int)) := ⟨_, rfl⟩
          replace H : (if y158.length + y161.length < 140737488355328 then ((some (y158 ++ y161 : List Int)).bind fun y164 => (if 0 ≤ (l0.length : Int) then (if (l0.length : Int) ≤ (y164.length : Int) then ((wire_Num.f kj4 (y164.take ((l0.length : Int) : Int).toNat) a1).bind fun t171 => ((wire_Text.f kj4 (y164.take ((l0.length : Int) : Int).toNat) a2).bind fun t178 => (becketlaw01_WireStays.l0 kj4 t154 y164 (strOfNums y164) t171 t178 (strOfNums t171) 0))) else (none)) else (none))) else (none)) = some r := by first | (rw [hy161]; with_reducible exact H) | (have H2_ := (Option.bind_some _ _).symm.trans H; rw [hy161]; with_reducible exact H2_) | (have H2_ := (Option.bind_some _ _).symm.trans H; with_reducible exact H2_) | with_reducible exact H | (rw [hy161]; exact H) | exact H
          have Ny161 := Aside0.mk hy161
          clear hy161
          by_cases c10 : y158.length + y161.length < 140737488355328
          · rw [if_pos c10] at H
            have LMc10 := Aside0.mk c10
            clear c10
            obtain ⟨y164, hy164⟩ : ∃ y_ : List Int, y_ = (y158 ++ y161) := ⟨_, rfl⟩
            replace H : (if 0 ≤ (l0.length : Int) then (if (l0.length : Int) ≤ (y164.length : Int) then ((wire_Num.f kj4 (y164.take ((l0.length : Int) : Int).toNat) a1).bind fun t171 => ((wire_Text.f kj4 (y164.take ((l0.length : Int) : Int).toNat) a2).bind fun t178 => (becketlaw01_WireStays.l0 kj4 t154 y164 (strOfNums y164) t171 t178 (strOfNums t171) 0))) else (none)) else (none)) = some r := by first | (rw [hy164]; with_reducible exact H) | (have H2_ := (Option.bind_some _ _).symm.trans H; rw [hy164]; with_reducible exact H2_) | (have H2_ := (Option.bind_some _ _).symm.trans H; with_reducible exact H2_) | with_reducible exact H | (rw [hy164]; exact H) | exact H
            have Ny164 := Aside0.mk hy164
            clear hy164
            by_cases c11 : 0 ≤ (l0.length : Int)
            · rw [if_pos c11] at H
              have c11b0 := eq_true c11
              have c11b1 : decide (0 ≤ (l0.length : Int)) = true := decide_eq_true c11
              clear c11
              by_cases c12 : (l0.length : Int) ≤ (y164.length : Int)
              · rw [if_pos c12] at H
                have c12b0 := eq_true c12
                have c12b1 : decide ((l0.length : Int) ≤ (y164.length : Int)) = true := decide_eq_true c12
                clear c12
                obtain ⟨y167, hy167⟩ : ∃ y_ : List Int, y_ = (y164.take ((l0.length : Int) : Int).toNat) := ⟨_, rfl⟩
                replace H : ((wire_Num.f kj4 y167 a1).bind fun t171 => ((wire_Text.f kj4 (y164.take ((l0.length : Int) : Int).toNat) a2).bind fun t178 => (becketlaw01_WireStays.l0 kj4 t154 y164 (strOfNums y164) t171 t178 (strOfNums t171) 0))) = some r := by first | (rw [hy167]; with_reducible exact H) | (have H2_ := (Option.bind_some _ _).symm.trans H; rw [hy167]; with_reducible exact H2_) | (have H2_ := (Option.bind_some _ _).symm.trans H; with_reducible exact H2_) | with_reducible exact H | (rw [hy167]; exact H) | exact H
                have Ny167 := Aside0.mk hy167
                clear hy167
                replace H := Option.bind_eq_some_iff.mp H
                obtain ⟨t171, A130, H⟩ := H
                replace H : ((wire_Text.f kj4 (y164.take ((l0.length : Int) : Int).toNat) a2).bind fun t178 => (becketlaw01_WireStays.l0 kj4 t154 y164 (strOfNums y164) t171 t178 (strOfNums t171) 0)) = some r := H
                have A13 := Aside0.mk A130
                clear A130
                have c14b0 := eq_true (of_decide_eq_true (by first | (with_reducible assumption) | assumption) : 0 ≤ (l0.length : Int))
                have c15b0 := eq_true (of_decide_eq_true (by first | (with_reducible assumption) | assumption) : (l0.length : Int) ≤ (y164.length : Int))
                have hy174 := Ny167.out
                replace H : ((wire_Text.f kj4 y167 a2).bind fun t178 => (becketlaw01_WireStays.l0 kj4 t154 y164 (strOfNums y164) t171 t178 (strOfNums t171) 0)) = some r := by first | (rw [hy174]; with_reducible exact H) | (have H2_ := (Option.bind_some _ _).symm.trans H; rw [hy174]; with_reducible exact H2_) | (have H2_ := (Option.bind_some _ _).symm.trans H; with_reducible exact H2_) | with_reducible exact H | (rw [hy174]; exact H) | exact H
                have Ny174 := Aside0.mk hy174
                clear hy174
                replace H := Option.bind_eq_some_iff.mp H
                obtain ⟨t178, A160, H⟩ := H
                replace H : (becketlaw01_WireStays.l0 kj4 t154 y164 (strOfNums y164) t171 t178 (strOfNums t171) 0) = some r := H
                have A16 := Aside0.mk A160
                clear A160
                have H' := Aside0.mk H
                clear H
                go_wp2_with (first | ((with_reducible refine gate_dst (N := 24) rfl ?_); (try (refine gate_guard (by rfl) ?_; dsimp only)); refine Kd.R_lit (Kd.int .u8) _ 5 ?hg (N := 24) ?hd (xs := ([] : List Int)) (inner := []) (ok := fun _ => True) (okp := fun _ => True) ?hr ?hp (fun _ hk => hk) trivial (Below.refl _ _) (Nat.le_refl _) (by simp) ?_; (case hd => rfl); (case hg => rfl); (case hr => first | (go_simp; done) | (go_simp; rfl)); (case hp => exact (Reps.none _ _)); intro v156 w17 ho18 hb hg_ hnew_; clear hg_ hnew_; (first | rw [← Ny155.out] at ho18 | (simp only [Int.reduceToNat] at ho18; rw [← Ny155.out] at ho18)); have n0_ := Aside0.mk (Kd.R_lower ho18 (below_size (by repeat (first | (with_reducible first | exact HB.out | apply below_alloc | apply pw_below_drewN | apply below_drew1) | exact HB.out)))); have n1_ := Aside0.mk (below_step (by repeat (first | (with_reducible first | exact HB.out | apply below_alloc | apply pw_below_drewN | apply below_drew1) | exact HB.out)) hb); clear HB; have HO157 := n0_; have HB := n1_; clear n0_ n1_; clear hb ho18) | ((with_reducible refine gate_builtin (b := .append) (xs := #[.tmp 24, .tmp 25]) rfl ?_); (try (refine gate_guard (by rfl) ?_; dsimp only)); at_builtin; refine Kd.R_append_rows (Kd.int .u8) (w0 := w) w.heap.size rfl (.tmp 24) (.tmp 25) 29 5 (.int .u8 0) 1 rfl Try.underlying29 info5 rfl (by decide) (by omega) v156 y155 l0 _ _ _ (fun _ => True) (fun _ => False) rfl rfl ?aO ?aR (fun _ _ h => h) (fun _ h => h.elim) ?aF ?aB ?aS ?aL ?_; (case aR => repeat (first | exact (Kd.C_below HR0.out HB.out) | (with_reducible refine Kd.C_alloc ?_ _) | (with_reducible refine Kd.C_drewN ?_ _) | (with_reducible refine Kd.C_drew ?_))); (case aB => exact (by repeat (first | (with_reducible first | exact HB.out | apply below_alloc | apply pw_below_drewN | apply below_drew1) | exact HB.out))); (case aF => exact (fun _ _ => trivial)); (case aO => exact (by (with_reducible repeat (first | apply Kd.R_alloc | apply Kd.R_drewN | apply Kd.R_drew)); exact HO157.out)); (case aS => exact (below_size (by repeat (first | (with_reducible first | exact HB.out | apply below_alloc | apply pw_below_drewN | apply below_drew1) | exact HB.out)))); (case aL => have := LMc9.out; omega); intro v159 w19 ho hb hg hat; rw [← Ny158.out] at ho; have n0_ := Aside0.mk (hb); have n1_ := Aside0.mk (ho); clear HB; clear HO157; have HB := n0_; have HO160 := n1_; clear n0_ n1_; clear ho hb hg hat) | ((with_reducible refine gate_dst (N := 27) rfl ?_); (try (refine gate_guard (by rfl) ?_; dsimp only)); refine Kd.R_lit (Kd.int .u8) _ 5 ?hg (N := 27) ?hd (xs := ([1, 2, 3, 4, 5, 6, 7, 8, 9, 10, 11, 12] : List Int)) (inner := [.int .u8 1, .int .u8 2, .int .u8 3, .int .u8 4, .int .u8 5, .int .u8 6, .int .u8 7, .int .u8 8, .int .u8 9, .int .u8 10, .int .u8 11, .int .u8 12]) (ok := fun _ => True) (okp := fun _ => True) ?hr ?hp (fun _ hk => hk) trivial (Below.refl _ _) (Nat.le_refl _) (by simp) ?_; (case hd => rfl); (case hg => rfl); (case hr => first | (go_simp; done) | (go_simp; rfl)); (case hp => exact (Reps.one (show Kd.M (Kd.int .u8) _ _ _ 1 [.int .u8 1] from rfl) (Reps.one (show Kd.M (Kd.int .u8) _ _ _ 2 [.int .u8 2] from rfl) (Reps.one (show Kd.M (Kd.int .u8) _ _ _ 3 [.int .u8 3] from rfl) (Reps.one (show Kd.M (Kd.int .u8) _ _ _ 4 [.int .u8 4] from rfl) (Reps.one (show Kd.M (Kd.int .u8) _ _ _ 5 [.int .u8 5] from rfl) (Reps.one (show Kd.M (Kd.int .u8) _ _ _ 6 [.int .u8 6] from rfl) (Reps.one (show Kd.M (Kd.int .u8) _ _ _ 7 [.int .u8 7] from rfl) (Reps.one (show Kd.M (Kd.int .u8) _ _ _ 8 [.int .u8 8] from rfl) (Reps.one (show Kd.M (Kd.int .u8) _ _ _ 9 [.int .u8 9] from rfl) (Reps.one (show Kd.M (Kd.int .u8) _ _ _ 10 [.int .u8 10] from rfl) (Reps.one (show Kd.M (Kd.int .u8) _ _ _ 11 [.int .u8 11] from rfl) (Reps.one (show Kd.M (Kd.int .u8) _ _ _ 12 [.int .u8 12] from rfl) (Reps.none _ _)))))))))))))); intro v162 w20 ho21 hb hg_ hnew_; clear hg_ hnew_; (first | rw [← Ny161.out] at ho21 | (simp only [Int.reduceToNat] at ho21; rw [← Ny161.out] at ho21)); have n0_ := Aside0.mk (Kd.R_elder' (by (with_reducible repeat (first | apply Kd.R_alloc | apply Kd.R_drewN | apply Kd.R_drew)); exact HO160.out) (Kd.R_base ho21) hb); have n1_ := Aside0.mk (Kd.R_lower (Kd.R_new' ho21 (Kd.R_lt (by (with_reducible repeat (first | apply Kd.R_alloc | apply Kd.R_drewN | apply Kd.R_drew)); exact HO160.out))) (below_size (by repeat (first | (with_reducible first | exact HB.out | apply below_alloc | apply pw_below_drewN | apply below_drew1) | exact HB.out)))); have n2_ := Aside0.mk (below_step (by repeat (first | (with_reducible first | exact HB.out | apply below_alloc | apply pw_below_drewN | apply below_drew1) | exact HB.out)) hb); clear HO160; clear HB; have HO160 := n0_; have HO163 := n1_; have HB := n2_; clear n0_ n1_ n2_; clear hb ho21; obtain ⟨Ao23, co23, eo23⟩ := Kd.R_slice HO163.out; subst eo23) | ((with_reducible refine gate_builtin (b := .append) (xs := #[.tmp 26, .tmp 27]) rfl ?_); (try (refine gate_guard (by rfl) ?_; dsimp only)); at_builtin; refine Kd.R_append_rows (Kd.int .u8) (w0 := w) w.heap.size rfl (.tmp 26) (.tmp 27) 29 5 (.int .u8 0) 1 rfl Try.underlying29 info5 rfl (by decide) (by omega) v159 y158 y161 _ _ _ (fun k_ => some k_ ≠ (.slice Ao23 y161.length co23 : Value).ownBlock) (fun _ => False) rfl rfl ?aO ?aR (fun _ _ h => h) (fun _ h => h.elim) ?aF ?aB ?aS ?aL ?_; (case aR => repeat (first | exact (Kd.R_reads' HO163.out).2.2 | (with_reducible refine Kd.C_alloc ?_ _) | (with_reducible refine Kd.C_drewN ?_ _) | (with_reducible refine Kd.C_drew ?_))); (case aB => exact (by repeat (first | (with_reducible first | exact HB.out | apply below_alloc | apply pw_below_drewN | apply below_drew1) | exact HB.out))); (case aF => exact (fun k_ hk => Kd.fresh' (Kd.R_lt (by (with_reducible repeat (first | apply Kd.R_alloc | apply Kd.R_drewN | apply Kd.R_drew)); exact HO163.out)) k_ hk)); (case aO => exact (by (with_reducible repeat (first | apply Kd.R_alloc | apply Kd.R_drewN | apply Kd.R_drew)); exact Kd.R_mono HO160.out (fun _ hk => hk.2))); (case aS => exact (below_size (by repeat (first | (with_reducible first | exact HB.out | apply below_alloc | apply pw_below_drewN | apply below_drew1) | exact HB.out)))); (case aL => have := LMc10.out; omega); intro v165 w22 ho hb hg hat; rw [← Ny164.out] at ho; have n0_ := Aside0.mk (Kd.R_after (ok := (fun _ => True)) (by (with_reducible repeat (first | apply Kd.R_alloc | apply Kd.R_drewN | apply Kd.R_drew)); exact HO163.out) hg hat); have n1_ := Aside0.mk (hb); have n2_ := Aside0.mk (ho); clear HO163; clear HB; clear HO160; have HO163 := n0_; have HB := n1_; have HO166 := n2_; clear n0_ n1_ n2_; clear ho hb hg hat; have hcv24 := own_string (P := Try.prog) Try.underlying29 Try.underlying5 Try.underlying9 (Kd.own_of_R HO166.out); have hcv25 := fun n_ : Nat => own_string (P := Try.prog) Try.underlying29 Try.underlying5 Try.underlying9 (Kd.own_of_R (Kd.R_drewN HO166.out n_)); obtain ⟨Ao27, co27, eo27⟩ := Kd.R_slice HO166.out; subst eo27; have q26 : ((l0.length : Int) : Int) ≤ ((y164.length : Int) : Int) := of_decide_eq_true (by first | (with_reducible assumption) | assumption); obtain ⟨i026, hi026, _, hsz26, _⟩ := info_parts info5; have hroom26 : y164.length ≤ co27 := (Kd.R_reads' HO166.out).2.1; have hC26 : Kd.C (Kd.int .u8) _ Ao27 y164.length y164 := (Kd.R_reads' HO166.out).2.2; have hcut26 := cut_to (P := Try.prog) 29 5 .i64 Try.underlying29 hi026 Ao27 y164.length co27 (l0.length : Int) (of_decide_eq_true (by first | (with_reducible assumption) | assumption)) q26 hroom26; have hr26 := Kd.C_take (m := ((l0.length : Int) : Int).toNat) hC26 (by omega); have hy26 : y167.length = ((l0.length : Int) : Int).toNat := (by rw [Ny167.out, List.length_take]; omega); rw [← Ny167.out] at hr26; rw [← hy26] at hcut26; have HR170 := Aside0.mk hr26; have HC170 := Aside0.mk (show y167.length ≤ co27 from by omega); clear hr26 hC26 hroom26 hi026 hsz26; have KY26 := Aside0.mk hy26; clear hy26; have KL26 := Aside0.mk (show ((l0.length : Int) : Int).toNat ≤ y164.length from by omega); replace q26 := eq_true q26) | ((with_reducible refine gate_callee (f := 28) rfl ?_); refine goesL_ (some 36) rfl rfl Try.func28 (by kernel_rfl) rfl #[.slice Ao27 y167.length co27, .int .u64 a1] rfl (by (try simp only [List.map_toArray, List.map_cons, List.map_nil]); first | done | rfl | (simp only [List.length_drop, List.length_take]; rfl)) ?_; (with_reducible refine (wire_Num.calls kj4 _ _ y167 a1 t171 _ ?side1 ?side2 A13.out).mono ?_); (case side1 => repeat (first | exact (by repeat (first | (with_reducible exact HR170.out) | (with_reducible refine Kd.C_alloc ?_ _) | (with_reducible refine Kd.C_drewN ?_ _) | (with_reducible refine Kd.C_drew ?_) | exact HR170.out)) | (with_reducible refine Kd.C_alloc ?_ _) | (with_reducible refine Kd.C_drewN ?_ _) | (with_reducible refine Kd.C_drew ?_))); (case side2 => exact HC170.out); rintro e w28 ⟨v172, rfl, ho0, hb⟩; refine ⟨_, rfl, ?_⟩; have n0_ := Aside0.mk (Kd.R_elder' (by (with_reducible repeat (first | apply Kd.R_alloc | apply Kd.R_drewN | apply Kd.R_drew)); exact HO163.out) (Kd.R_base ho0) hb); have n1_ := Aside0.mk (Kd.R_elder' (by (with_reducible repeat (first | apply Kd.R_alloc | apply Kd.R_drewN | apply Kd.R_drew)); exact HO166.out) (Kd.R_base ho0) hb); have n2_ := Aside0.mk (Kd.R_lower (Kd.R_new' (Kd.R_new' ho0 (Kd.R_lt (by (with_reducible repeat (first | apply Kd.R_alloc | apply Kd.R_drewN | apply Kd.R_drew)); exact HO163.out))) (Kd.R_lt (by (with_reducible repeat (first | apply Kd.R_alloc | apply Kd.R_drewN | apply Kd.R_drew)); exact HO166.out))) (below_size (by repeat (first | (with_reducible first | exact HB.out | apply below_alloc | apply pw_below_drewN | apply below_drew1) | exact HB.out)))); have n3_ := Aside0.mk (Kd.C_below (by repeat (first | (with_reducible exact HR170.out) | (with_reducible refine Kd.C_alloc ?_ _) | (with_reducible refine Kd.C_drewN ?_ _) | (with_reducible refine Kd.C_drew ?_) | exact HR170.out)) hb); have n4_ := Aside0.mk (below_step (by repeat (first | (with_reducible first | exact HB.out | apply below_alloc | apply pw_below_drewN | apply below_drew1) | exact HB.out)) hb); clear HO163; clear HO166; clear HR170; clear HB; have HO163 := n0_; have HO166 := n1_; have HO173 := n2_; have HR170 := n3_; have HB := n4_; clear n0_ n1_ n2_ n3_ n4_; (try clear hb); (try clear hb2); (try clear hk); (try clear hi); (try clear ho0); have q29 : ((l0.length : Int) : Int) ≤ ((y164.length : Int) : Int) := of_decide_eq_true (by first | (with_reducible assumption) | assumption); obtain ⟨i029, hi029, _, hsz29, _⟩ := info_parts info5; have hroom29 : y164.length ≤ co27 := (Kd.R_reads' HO166.out).2.1; have hC29 : Kd.C (Kd.int .u8) _ Ao27 y164.length y164 := (Kd.R_reads' HO166.out).2.2; have hcut29 := cut_to (P := Try.prog) 29 5 .i64 Try.underlying29 hi029 Ao27 y164.length co27 (l0.length : Int) (of_decide_eq_true (by first | (with_reducible assumption) | assumption)) q29 hroom29; have hr29 := Kd.C_take (m := ((l0.length : Int) : Int).toNat) hC29 (by omega); have hy29 : y167.length = ((l0.length : Int) : Int).toNat := (by rw [Ny174.out, List.length_take]; omega); rw [← Ny174.out] at hr29; rw [← hy29] at hcut29; have HR177 := Aside0.mk hr29; have HC177 := Aside0.mk (show y167.length ≤ co27 from by omega); clear hr29 hC29 hroom29 hi029 hsz29; have KY29 := Aside0.mk hy29; clear hy29; have KL29 := Aside0.mk (show ((l0.length : Int) : Int).toNat ≤ y164.length from by omega); replace q29 := eq_true q29) | ((with_reducible refine gate_callee (f := 29) rfl ?_); refine goesL_ (some 42) rfl rfl Try.func29 (by kernel_rfl) rfl #[.slice Ao27 y167.length co27, .string a2] rfl (by (try simp only [List.map_toArray, List.map_cons, List.map_nil]); first | done | rfl | (simp only [List.length_drop, List.length_take]; rfl)) ?_; (with_reducible refine (wire_Text.calls kj4 _ _ y167 a2 t178 _ ?side1 ?side2 A16.out).mono ?_); (case side1 => repeat (first | exact (by repeat (first | (with_reducible exact HR177.out) | (with_reducible refine Kd.C_alloc ?_ _) | (with_reducible refine Kd.C_drewN ?_ _) | (with_reducible refine Kd.C_drew ?_) | exact HR177.out)) | (with_reducible refine Kd.C_alloc ?_ _) | (with_reducible refine Kd.C_drewN ?_ _) | (with_reducible refine Kd.C_drew ?_))); (case side2 => exact HC177.out); rintro e w30 ⟨v179, rfl, ho0, hb⟩; refine ⟨_, rfl, ?_⟩; have n0_ := Aside0.mk (Kd.R_elder' (by (with_reducible repeat (first | apply Kd.R_alloc | apply Kd.R_drewN | apply Kd.R_drew)); exact HO163.out) (Kd.R_base ho0) hb); have n1_ := Aside0.mk (Kd.R_elder' (by (with_reducible repeat (first | apply Kd.R_alloc | apply Kd.R_drewN | apply Kd.R_drew)); exact HO166.out) (Kd.R_base ho0) hb); have n2_ := Aside0.mk (Kd.R_elder' (by (with_reducible repeat (first | apply Kd.R_alloc | apply Kd.R_drewN | apply Kd.R_drew)); exact HO173.out) (Kd.R_base ho0) hb); have n3_ := Aside0.mk (Kd.R_lower (Kd.R_new' (Kd.R_new' (Kd.R_new' ho0 (Kd.R_lt (by (with_reducible repeat (first | apply Kd.R_alloc | apply Kd.R_drewN | apply Kd.R_drew)); exact HO163.out))) (Kd.R_lt (by (with_reducible repeat (first | apply Kd.R_alloc | apply Kd.R_drewN | apply Kd.R_drew)); exact HO166.out))) (Kd.R_lt (by (with_reducible repeat (first | apply Kd.R_alloc | apply Kd.R_drewN | apply Kd.R_drew)); exact HO173.out))) (below_size (by repeat (first | (with_reducible first | exact HB.out | apply below_alloc | apply pw_below_drewN | apply below_drew1) | exact HB.out)))); have n4_ := Aside0.mk (Kd.C_below (by repeat (first | (with_reducible exact HR170.out) | (with_reducible refine Kd.C_alloc ?_ _) | (with_reducible refine Kd.C_drewN ?_ _) | (with_reducible refine Kd.C_drew ?_) | exact HR170.out)) hb); have n5_ := Aside0.mk (Kd.C_below (by repeat (first | (with_reducible exact HR177.out) | (with_reducible refine Kd.C_alloc ?_ _) | (with_reducible refine Kd.C_drewN ?_ _) | (with_reducible refine Kd.C_drew ?_) | exact HR177.out)) hb); have n6_ := Aside0.mk (below_step (by repeat (first | (with_reducible first | exact HB.out | apply below_alloc | apply pw_below_drewN | apply below_drew1) | exact HB.out)) hb); clear HO163; clear HO166; clear HO173; clear HR170; clear HR177; clear HB; have HO163 := n0_; have HO166 := n1_; have HO173 := n2_; have HO180 := n3_; have HR170 := n4_; have HR177 := n5_; have HB := n6_; clear n0_ n1_ n2_ n3_ n4_ n5_ n6_; (try clear hb); (try clear hb2); (try clear hk); (try clear hi); (try clear ho0); have hcv31 := own_string (P := Try.prog) Try.underlying29 Try.underlying5 Try.underlying9 (Kd.own_of_R HO173.out); have hcv32 := fun n_ : Nat => own_string (P := Try.prog) Try.underlying29 Try.underlying5 Try.underlying9 (Kd.own_of_R (Kd.R_drewN HO173.out n_))))
                go_loopg [13] kj4 (fun kq v13 w' => ∃ (x11_2 : List Int) (x13_2 : Int), v13 = .int .i64 x13_2 ∧ Aside0 (becketlaw01_WireStays.l0 kq t154 y164 (strOfNums y164) t171 x11_2 (strOfNums t171) x13_2 = some r) ∧ Aside0 (kq ≤ kj4) ∧ Aside0 (Kd.R (Kd.int .u8) 5 w' w.heap.size (fun k_ => some k_ ≠ (v172 : Value).ownBlock ∧ some k_ ≠ (v179 : Value).ownBlock) (.slice Ao27 y164.length co27) y164) ∧ Aside0 (Kd.R (Kd.int .u8) 5 w' w.heap.size (fun k_ => some k_ ≠ ((.slice Ao27 y164.length co27) : Value).ownBlock ∧ some k_ ≠ (v179 : Value).ownBlock) v172 t171) ∧ Aside0 (Kd.R (Kd.int .u8) 5 w' w.heap.size (fun k_ => some k_ ≠ ((.slice Ao27 y164.length co27) : Value).ownBlock ∧ some k_ ≠ (v172 : Value).ownBlock) v179 x11_2) ∧ Aside0 (Below w.heap.size w w'))
                case atStart => exact ⟨(t178), (0), (by first | rfl | (simp; done) | (simp [*]; done)), H', ⟨Nat.le_refl _⟩, ⟨by (with_reducible repeat (first | apply Kd.R_alloc | apply Kd.R_drewN | apply Kd.R_drew)); exact Kd.R_mono HO166.out (fun _ hk => ⟨hk.1.2, hk.2⟩)⟩, ⟨by (with_reducible repeat (first | apply Kd.R_alloc | apply Kd.R_drewN | apply Kd.R_drew)); exact Kd.R_mono HO173.out (fun _ hk => ⟨hk.1.2, hk.2⟩)⟩, ⟨by (with_reducible repeat (first | apply Kd.R_alloc | apply Kd.R_drewN | apply Kd.R_drew)); exact Kd.R_mono HO180.out (fun _ hk => ⟨hk.1.2, hk.2⟩)⟩, ⟨by repeat (first | (with_reducible first | exact HB.out | apply below_alloc | apply pw_below_drewN | apply below_drew1) | exact HB.out)⟩⟩
                case round =>
                  clear H'
                  try clear c1
                  try clear c2
                  try clear p2
                  try clear q2
                  try clear hcv2
                  try clear hcv3
                  try clear c7
                  try clear c7b0
                  try clear c7b1
                  try clear c8
                  try clear c9
                  try clear c10
                  try clear c11
                  try clear c11b0
                  try clear c11b1
                  try clear c12
                  try clear c12b0
                  try clear c12b1
                  try clear c14
                  try clear c14b0
                  try clear c15
                  try clear c15b0
                  try clear hcv24
                  try clear hcv25
                  try clear q26
                  try clear c27
                  try clear c28
                  try clear c29
                  try clear q29
                  try clear hcv31
                  try clear hcv32
                  try clear p2
                  try clear q26
                  try clear q29
                  obtain ⟨x11_2, x13_2, rfl, HA, HK2, HO_8, HO_10, HO_11, HB⟩ := hrel
                  cases gk with
                  | zero => exact absurd HA.out (by simp [becketlaw01_WireStays.l0])
                  | succ k2 =>
                    have H := HA.out
                    clear HA
                    simp only [becketlaw01_WireStays.l0] at H
                    by_cases c33 : x13_2 < (x11_2.length : Int)
                    · rw [if_pos c33] at H
                      have c33b0 : decide (x13_2 < (x11_2.length : Int)) = true := decide_eq_true c33
                      clear c33
                      by_cases c34 : 0 ≤ x13_2
                      · rw [if_pos c34] at H
                        have c34b0 : decide (0 ≤ x13_2) = true := decide_eq_true c34
                        clear c34
                        obtain ⟨y182, hy182⟩ : ∃ y_ : List Int, y_ = (x11_2.set (x13_2 : Int).toNat (((rd x11_2 x13_2) + 1) % 256)) := ⟨_, rfl⟩
                        replace H : (becketlaw01_WireStays.l0 k2 t154 y164 (strOfNums y164) t171 y182 (strOfNums t171) (wrap64 (x13_2 + 1))) = some r := by first | (rw [hy182]; with_reducible exact H) | (have H2_ := (Option.bind_some _ _).symm.trans H; rw [hy182]; with_reducible exact H2_) | (have H2_ := (Option.bind_some _ _).symm.trans H; with_reducible exact H2_) | with_reducible exact H | (rw [hy182]; exact H) | exact H
                        have Ny182 := Aside0.mk hy182
                        clear hy182
                        have H' := Aside0.mk H
                        clear H
                        obtain ⟨Ao36, co36, eo36⟩ := Kd.R_slice HO_11.out
                        subst eo36
                        have p181 : 0 ≤ (x13_2 : Int) := of_decide_eq_true (by first | (with_reducible assumption) | assumption)
                        have q181 : x13_2 < (x11_2.length : Int) := of_decide_eq_true (by first | (with_reducible assumption) | assumption)
                        obtain ⟨ad181, e181, hx181_0⟩ := Kd.at_int (Kd.R_reads' HO_11.out).2.2 x13_2 p181 q181
                        cases e181
                        replace p181 := eq_true p181
                        replace q181 := eq_true q181
                        have p35 : 0 ≤ (x13_2 : Int) := of_decide_eq_true (by first | (with_reducible assumption) | assumption)
                        have q35 : (x13_2 : Int) < ((x11_2.length : Int) : Int) := of_decide_eq_true (by first | (with_reducible assumption) | assumption)
                        obtain ⟨go35, co35, eo35, gb35, gl35, cl35, HG35⟩ := Kd.R_form HO_11.out (by omega)
                        (first | cases eo35 | (injection eo35 with ea_ en_ ec_; (first | subst ea_ | (injection ea_ with ea_; subst ea_)); subst ec_; clear en_))
                        have GB35 := Aside0.mk gb35
                        have GG35 := Aside0.mk HG35
                        clear gb35 gl35 HG35
                        (first | simp only [add_plain] at hx181_0 | skip)
                        obtain ⟨hx35_0, hf35_0⟩ := Kd.R_celln 0 HO_11.out (x13_2 : Int) p35 q35
                        replace p35 := eq_true p35
                        replace q35 := eq_true q35
                        have HP37 := Kd.R_putg HO_11.out (x13_2 : Int) (((rd x11_2 x13_2) + 1) % 256)
                        go_wp2_with (first | ((with_reducible refine gate_store (t := 5) (p := 58) rfl ?_); refine store_event (t := 5) (p := 58) (v := ?vo_w38) (w1 := (wr.setCell ⟨go35, (x13_2 : Int).toNat, none⟩ (.int .u8 (((rd x11_2 x13_2) + 1) % 256)))) ?hg ?ho ?hn ?hr ?_; (case ho => rfl); (case hg => rfl); (case hn => rfl); (case hr => first | (go_simp; done) | (go_simp; rfl)); intro w38 hw; have hg : wr.grownBy w38 (some go35) := (by rw [hw]; exact HP37.2); have hp_ : Kd.R (Kd.int .u8) 5 w38 w.heap.size (fun k_ => some k_ ≠ (.slice Ao27 y164.length co27 : Value).ownBlock ∧ some k_ ≠ (v172 : Value).ownBlock) (.slice (some ⟨go35, 0, none⟩) x11_2.length co36) y182 := (by rw [hw, Ny182.out]; exact HP37.1); clear HP37; have n0_ := Aside0.mk (Kd.R_after (v := (.slice (some ⟨go35, 0, none⟩) x11_2.length co36)) (v1 := (.slice (some ⟨go35, 0, none⟩) x11_2.length co36)) (ok := (fun k_ => some k_ ≠ (v172 : Value).ownBlock)) (by (with_reducible repeat (first | apply Kd.R_alloc | apply Kd.R_drewN | apply Kd.R_drew)); exact HO_8.out) hg (.inl rfl)); have n1_ := Aside0.mk (Kd.R_after (v := (.slice (some ⟨go35, 0, none⟩) x11_2.length co36)) (v1 := (.slice (some ⟨go35, 0, none⟩) x11_2.length co36)) (ok := (fun k_ => some k_ ≠ (.slice Ao27 y164.length co27 : Value).ownBlock)) (by (with_reducible repeat (first | apply Kd.R_alloc | apply Kd.R_drewN | apply Kd.R_drew)); exact HO_10.out) hg (.inl rfl)); have n2_ := Aside0.mk (hp_); have n3_ := Aside0.mk ((by rw [hw]; exact below_set (HB.out) GB35.out : Below w.heap.size w w38)); clear HO_8; clear HO_10; clear HO_11; clear HB; have HO_8 := n0_; have HO_10 := n1_; have HO_11 := n2_; have HB := n3_; clear n0_ n1_ n2_ n3_; clear hg hw hp_))
                        go_roundg k2
                        case measure => have := HJ4.out; have := HK2.out; omega
                        case rel => exact ⟨(y182), (wrap64 (x13_2 + 1)), (by first | rfl | (simp; done) | (simp [*]; done)), H', ⟨by have := HJ4.out; have := HK2.out; omega⟩, ⟨by (with_reducible repeat (first | apply Kd.R_alloc | apply Kd.R_drewN | apply Kd.R_drew)); exact HO_8.out⟩, ⟨by (with_reducible repeat (first | apply Kd.R_alloc | apply Kd.R_drewN | apply Kd.R_drew)); exact HO_10.out⟩, ⟨by (with_reducible repeat (first | apply Kd.R_alloc | apply Kd.R_drewN | apply Kd.R_drew)); exact HO_11.out⟩, ⟨by repeat (first | (with_reducible first | exact HB.out | apply below_alloc | apply pw_below_drewN | apply below_drew1) | exact HB.out)⟩⟩
                      · rw [if_neg c34] at H
                        exact absurd H (by simp)
                    · rw [if_neg c33] at H
                      have c33b0 : decide (x13_2 < (x11_2.length : Int)) = false := decide_eq_false c33
                      clear c33
                      by_cases c39 : t154 = true
                      · subst c39
                        have H1 : (if (strOfNums y164).toList = (strOfNums y164).toList then (some ((strOfNums t171).toList == (strOfNums t171).toList)) else (some false)) = some r := by first | (rw [if_pos rfl] at H; with_reducible exact H) | exact (if_pos rfl).symm.trans H | (simp only [if_true, eq_self_iff_true] at H ⊢; exact H)
                        clear H
                        have H := H1
                        clear H1
                        by_cases c40 : (strOfNums y164).toList = (strOfNums y164).toList
                        · rw [if_pos c40] at H
                          have c40b0 : ((strOfNums y164).toList == (strOfNums y164).toList) = true := beq_iff_eq.mpr c40
                          have c40b1 : ((strOfNums y164).toList != (strOfNums y164).toList) = false := bne_eq_false_iff_eq.mpr c40
                          clear c40
                          obtain rfl := Option.some.inj H
                          obtain ⟨Ao41, co41, eo41⟩ := Kd.R_slice HO_11.out
                          subst eo41
                          have hcv42 := own_string (P := Try.prog) Try.underlying29 Try.underlying5 Try.underlying9 (Kd.own_of_R HO_8.out)
                          have hcv43 := fun n_ : Nat => own_string (P := Try.prog) Try.underlying29 Try.underlying5 Try.underlying9 (Kd.own_of_R (Kd.R_drewN HO_8.out n_))
                          have hcv44 := own_string (P := Try.prog) Try.underlying29 Try.underlying5 Try.underlying9 (Kd.own_of_R HO_10.out)
                          have hcv45 := fun n_ : Nat => own_string (P := Try.prog) Try.underlying29 Try.underlying5 Try.underlying9 (Kd.own_of_R (Kd.R_drewN HO_10.out n_))
                          go_wp2
                          go_ret
                          exact ⟨by first | rfl | (simp [errW_none, errW_some] <;> rfl) | (simp [*, errW_none, errW_some] <;> rfl), by repeat (first | (with_reducible first | exact HB.out | apply below_alloc | apply pw_below_drewN | apply below_drew1) | exact HB.out)⟩
                        · exact absurd rfl c40
                      · replace c39 := Bool.eq_false_iff.mpr c39
                        subst c39
                        have H1 : (some false) = some r := by rw [if_neg (show ¬ (false = true) by decide)] at H; exact H
                        clear H
                        have H := H1
                        clear H1
                        obtain rfl := Option.some.inj H
                        obtain ⟨Ao49, co49, eo49⟩ := Kd.R_slice HO_11.out
                        subst eo49
                        go_wp2
                        go_ret
                        exact ⟨by first | rfl | (simp [errW_none, errW_some] <;> rfl) | (simp [*, errW_none, errW_some] <;> rfl), by repeat (first | (with_reducible first | exact HB.out | apply below_alloc | apply pw_below_drewN | apply below_drew1) | exact HB.out)⟩
              · rw [if_neg c12] at H
                exact absurd H (by simp)
            · rw [if_neg c11] at H
              exact absurd H (by simp)
          · rw [if_neg c10] at H
            exact absurd H (by simp)
        · rw [if_neg c9] at H
          exact absurd H (by simp)

/-- THE ONE PURE STATEMENT of becketlaw01_WireStays: yours. -/
def becketlaw01_WireStays.Pure : Prop := ∀ (l0 : List Int) (a1 : Int) (a2 : ByteArray), l0.length ≤ maxLen → l0.length * 1 ≤ 140737488351232 → (∀ x ∈ l0, (Lit.int .u8 x).wf = true) → (Lit.int .u64 a1).wf = true → a2.size ≤ 140737488351232 → ∃ k, becketlaw01_WireStays.f k l0 a1 a2 = some true
theorem becketlaw01_WireStays.walk (P : becketlaw01_WireStays.Pure) (a0 : Option Addr) (len0 cap0 : Nat) (z0 : List Int) (a1 : Int) (a2 : ByteArray) (w : World) (w0 : (a0 = none ∧ len0 = 0 ∧ cap0 = 0 ∧ z0 = []) ∨ ∃ x, a0 = some x ∧ len0 ≤ cap0 ∧ cap0 ≤ maxLen ∧ z0.length = cap0 ∧ (∀ i, i < z0.length → w.cell? (x.add i) = some (.int .u8 (z0.getD i 0))) ∧ ∀ n ∈ z0, (Lit.int .u8 n).wf = true) (y0 : len0 * 1 ≤ 140737488351232) (w1 : (Lit.int .u64 a1).wf = true) (w2 : a2.size ≤ 140737488351232) :
    Calls Try.prog 10 #[.slice a0 len0 cap0, .int .u64 a1, .string a2] w fun e w' => e = .returned (.bool true) ∧ Below w.heap.size w w' := by
  obtain ⟨l0, rfl, hr0, hm0, hw0, hc0⟩ := ReadsInt.ofRowC w0
  obtain ⟨k, h⟩ := P l0 a1 a2 hm0 y0 hw0 w1 w2
  refine (becketlaw01_WireStays.calls k _ _ l0 a1 a2 true w (Kd.C_of_reads (d := (0 : Int)) (h1 := fun _ => rfl) hr0) hc0 h).mono ?_
  rintro e w' ⟨rfl, hd⟩
  exact ⟨rfl, hd⟩

/-! ### wire_GetText: function 33 -/
def wire_GetText.j0 : Nat → List Int → Int → Int → Bool → Option (ByteArray × Int × Option Int)
  | 0, _, _, _, _ => none
  | k + 1, x0, x1, x2, x18 => if x18 = true then (some ((⟨#[]⟩ : ByteArray), 0, some 1)) else ((wire_GetNum.f k x0 x1 (IntKind.u64.wrap (x2))).bind fun bt183 => (if bt183.2.2.isNone = true then (if (wrap64 (bt183.2.1 + (wrap64 (bt183.1)))) > (x0.length : Int) then (some ((⟨#[]⟩ : ByteArray), 0, some 2)) else (if 0 ≤ bt183.2.1 then (if bt183.2.1 ≤ (wrap64 (bt183.2.1 + (wrap64 (bt183.1)))) then (if (wrap64 (bt183.2.1 + (wrap64 (bt183.1)))) ≤ (x0.length : Int) then (some (strOfNums ((x0.take ((wrap64 (bt183.2.1 + (wrap64 (bt183.1)))) : Int).toNat).drop (bt183.2.1 : Int).toNat), wrap64 (bt183.2.1 + (wrap64 (bt183.1))), none)) else (none)) else (none)) else (none))) else (some ((⟨#[]⟩ : ByteArray), 0, some (bt183.2.2.getD 0)))))
def wire_GetText.f (k : Nat) (l0 : List Int) (a1 : Int) (a2 : Int) : Option (ByteArray × Int × Option Int) := if a2 < 0 then (wire_GetText.j0 k l0 a1 a2 true) else (wire_GetText.j0 k l0 a1 a2 (decide (a2 > 4096)))
theorem wire_GetText.mono_l : ∀ k, (∀ y0 y1 y2 y3, LeO (wire_GetText.j0 k y0 y1 y2 y3) (wire_GetText.j0 (k + 1) y0 y1 y2 y3))
  | 0 => fun _ _ _ _ r h => by simp [wire_GetText.j0] at h
  | k + 1 => by
    have ih0 := wire_GetText.mono_l k
    · intro y0 y1 y2 y3
      unfold wire_GetText.j0
      repeat' first
      | (with_reducible exact ih0 _ _ _ _)
      | (with_reducible exact wire_GetNum.mono _ _ _ _)
      | (with_reducible exact LeO.refl _)
      | (with_reducible exact LeO.none _)
      | (with_reducible refine LeO.ite ?_ ?_)
      | (with_reducible refine LeO.bind ?_ (fun _ => ?_))
      | exact ih0 _ _ _ _
      | exact wire_GetNum.mono _ _ _ _
      | exact LeO.none _
      | refine LeO.ite ?_ ?_
      | refine LeO.bind ?_ (fun _ => ?_)
theorem wire_GetText.mono : ∀ a0 a1 a2 k, LeO (wire_GetText.f k a0 a1 a2) (wire_GetText.f (k + 1) a0 a1 a2) := by
  intro a0 a1 a2 k
  have ih0 := wire_GetText.mono_l k
  unfold wire_GetText.f
  repeat' first
      | (with_reducible exact ih0 _ _ _ _)
      | (with_reducible exact wire_GetNum.mono _ _ _ _)
      | (with_reducible exact LeO.refl _)
      | (with_reducible exact LeO.none _)
      | (with_reducible refine LeO.ite ?_ ?_)
      | (with_reducible refine LeO.bind ?_ (fun _ => ?_))
      | exact ih0 _ _ _ _
      | exact wire_GetNum.mono _ _ _ _
      | exact LeO.none _
      | refine LeO.ite ?_ ?_
      | refine LeO.bind ?_ (fun _ => ?_)
set_option maxHeartbeats 8000000 in
set_option maxRecDepth 100000 in
theorem wire_GetText.calls (k : Nat) (A0 : Option Addr) (c0 : Nat) (l0 : List Int) (a1 : Int) (a2 : Int) (r1 : ByteArray) (r2 : Int) (r3 : Option Int) (w : World) (hr0 : Kd.C (Kd.int .u8) w A0 l0.length l0) (hc0 : l0.length ≤ c0) (h : wire_GetText.f k l0 a1 a2 = some (r1, r2, r3)) :
    Calls Try.prog 33 #[.slice A0 l0.length c0, .int .i64 a1, .int .i64 a2] w fun e w' => e = .returned (.tuple #[.string r1, .int .i64 r2, errW r3]) ∧ Drawn0 w w' := by
  have hu27 := Try.underlying27
  have hu30 := Try.underlying30
  have HR0 := Aside0.mk hr0
  have HC0 := Aside0.mk hc0
  clear hr0 hc0
  have H : (if a2 < 0 then (wire_GetText.j0 k l0 a1 a2 true) else (wire_GetText.j0 k l0 a1 a2 (decide (a2 > 4096)))) = some (r1, r2, r3) := h
  clear h
  have HC4 := Aside0.mk H
  clear H
  go_enter Try.func33, Try.ntmps33
  go_upto_region 1 with (fail)
  go_cut [18] (fun v18 wc => ∃ (kq : Nat) (x18_3 : Bool), v18 = .bool x18_3 ∧ Aside0 (wire_GetText.j0 kq l0 a1 a2 x18_3 = some (r1, r2, r3)) ∧ Aside0 (kq ≤ k) ∧ Drawn0 w wc)
  case first =>
    have H := HC4.out
    clear HC4
    by_cases c5 : a2 < 0
    · rw [if_pos c5] at H
      have c5b0 : decide (a2 < 0) = true := decide_eq_true c5
      clear c5
      (first | rw [c5b0] | (simp only [i64_w, i32_w]; rw [c5b0]) | skip)
      have H' := Aside0.mk H
      clear H
      go_wp2
      go_meet
      case rel => exact ⟨_, (true), (by first | rfl | (simp; done) | (simp [*]; done)), H', ⟨by first | omega | exact Nat.le_refl _⟩, by repeat (first | exact Drawn0.refl _ | apply Drawn0.step)⟩
    · rw [if_neg c5] at H
      have c5b0 : decide (a2 < 0) = false := decide_eq_false c5
      clear c5
      (first | rw [c5b0] | (simp only [i64_w, i32_w]; rw [c5b0]) | skip)
      have H' := Aside0.mk H
      clear H
      go_wp2
      go_meet
      case rel => exact ⟨_, (decide (a2 > 4096)), (by first | rfl | (simp; done) | (simp [*]; done)), H', ⟨by first | omega | exact Nat.le_refl _⟩, by repeat (first | exact Drawn0.refl _ | apply Drawn0.step)⟩
  case rest =>
    clear HC4
    try clear p2
    try clear c3
    try clear c5
    try clear c5b0
    obtain ⟨kq, x18_3, rfl, HA, HJ3, ⟨mc3, rfl⟩⟩ := hcut
    cases kq with
    | zero => exact absurd HA.out (by simp [wire_GetText.j0])
    | succ kj3 =>
      have H := HA.out
      clear HA
      simp only [wire_GetText.j0] at H
      by_cases c6 : x18_3 = true
      · subst c6
        have H1 : (some ((⟨#[]⟩ : ByteArray), 0, some 1)) = some (r1, r2, r3) := by first | (rw [if_pos rfl] at H; with_reducible exact H) | exact (if_pos rfl).symm.trans H | (simp only [if_true, eq_self_iff_true] at H ⊢; exact H)
        clear H
        have H := H1
        clear H1
        simp only [Option.some.injEq, Prod.mk.injEq] at H
        obtain ⟨rfl, rfl, rfl⟩ := H
        go_wp2
        go_ret3
        exact ⟨by first | rfl | (simp; done) | (simp [*]; done), by repeat (first | exact Drawn0.refl _ | apply Drawn0.step)⟩
      · replace c6 := Bool.eq_false_iff.mpr c6
        subst c6
        have H1 : ((wire_GetNum.f kj3 l0 a1 (IntKind.u64.wrap (a2))).bind fun bt183 => (if bt183.2.2.isNone = true then (if (wrap64 (bt183.2.1 + (wrap64 (bt183.1)))) > (l0.length : Int) then (some ((⟨#[]⟩ : ByteArray), 0, some 2)) else (if 0 ≤ bt183.2.1 then (if bt183.2.1 ≤ (wrap64 (bt183.2.1 + (wrap64 (bt183.1)))) then (if (wrap64 (bt183.2.1 + (wrap64 (bt183.1)))) ≤ (l0.length : Int) then (some (strOfNums ((l0.take ((wrap64 (bt183.2.1 + (wrap64 (bt183.1)))) : Int).toNat).drop (bt183.2.1 : Int).toNat), wrap64 (bt183.2.1 + (wrap64 (bt183.1))), none)) else (none)) else (none)) else (none))) else (some ((⟨#[]⟩ : ByteArray), 0, some (bt183.2.2.getD 0))))) = some (r1, r2, r3) := by rw [if_neg (show ¬ (false = true) by decide)] at H; exact H
        clear H
        have H := H1
        clear H1
        replace H := Option.bind_eq_some_iff.mp H
        obtain ⟨⟨t183, t184, t185⟩, A70, H⟩ := H
        replace H : (if t185.isNone = true then (if (wrap64 (t184 + (wrap64 (t183)))) > (l0.length : Int) then (some ((⟨#[]⟩ : ByteArray), 0, some 2)) else (if 0 ≤ t184 then (if t184 ≤ (wrap64 (t184 + (wrap64 (t183)))) then (if (wrap64 (t184 + (wrap64 (t183)))) ≤ (l0.length : Int) then (some (strOfNums ((l0.take ((wrap64 (t184 + (wrap64 (t183)))) : Int).toNat).drop (t184 : Int).toNat), wrap64 (t184 + (wrap64 (t183))), none)) else (none)) else (none)) else (none))) else (some ((⟨#[]⟩ : ByteArray), 0, some (t185.getD 0)))) = some (r1, r2, r3) := H
        have A7 := Aside0.mk A70
        clear A70
        rcases t185 with _ | q186
        · have H1 : (if (wrap64 (t184 + (wrap64 (t183)))) > (l0.length : Int) then (some ((⟨#[]⟩ : ByteArray), 0, some 2)) else (if 0 ≤ t184 then (if t184 ≤ (wrap64 (t184 + (wrap64 (t183)))) then (if (wrap64 (t184 + (wrap64 (t183)))) ≤ (l0.length : Int) then (some (strOfNums ((l0.take ((wrap64 (t184 + (wrap64 (t183)))) : Int).toNat).drop (t184 : Int).toNat), wrap64 (t184 + (wrap64 (t183))), none)) else (none)) else (none)) else (none))) = some (r1, r2, r3) := by rw [if_pos (show (none : Option Int).isNone = true by rfl)] at H; exact H
          clear H
          have H := H1
          clear H1
          try simp only [errW_none, errW_some]
          by_cases c8 : (wrap64 (t184 + (wrap64 (t183)))) > (l0.length : Int)
          · rw [if_pos c8] at H
            have c8b0 : decide ((l0.length : Int) < (wrap64 (t184 + (wrap64 (t183))))) = true := decide_eq_true c8
            clear c8
            simp only [Option.some.injEq, Prod.mk.injEq] at H
            obtain ⟨rfl, rfl, rfl⟩ := H
            go_wp2_with (first | ((with_reducible refine gate_callee (f := 32) rfl ?_); refine goesL_ (some 25) rfl rfl Try.func32 (by kernel_rfl) rfl #[.slice A0 l0.length c0, .int .i64 a1, .int .u64 (IntKind.u64.wrap (a2))] rfl (by (try simp only [List.map_toArray, List.map_cons, List.map_nil]); first | done | rfl | (simp only [List.length_drop, List.length_take]; rfl)) ?_; (with_reducible refine (wire_GetNum.calls kj3 _ _ l0 a1 (IntKind.u64.wrap (a2)) t183 t184 none _ ?side1 ?side2 A7.out).mono ?_); (case side1 => repeat (first | exact HR0.out | (with_reducible refine Kd.C_alloc ?_ _) | (with_reducible refine Kd.C_drewN ?_ _) | (with_reducible refine Kd.C_drew ?_))); (case side2 => exact HC0.out); rintro e w' ⟨rfl, ⟨nd, rfl⟩⟩; refine ⟨_, rfl, ?_⟩; (try simp only [errW_none, errW_some])))
            go_ret3
            exact ⟨by first | rfl | (simp; done) | (simp [*]; done), by repeat (first | exact Drawn0.refl _ | apply Drawn0.step)⟩
          · rw [if_neg c8] at H
            have c8b0 : decide ((l0.length : Int) < (wrap64 (t184 + (wrap64 (t183))))) = false := decide_eq_false c8
            clear c8
            by_cases c9 : 0 ≤ t184
            · rw [if_pos c9] at H
              have c9b0 := eq_true c9
              have c9b1 : decide (0 ≤ t184) = true := decide_eq_true c9
              clear c9
              by_cases c10 : t184 ≤ (wrap64 (t184 + (wrap64 (t183))))
              · rw [if_pos c10] at H
                have c10b0 := eq_true c10
                have c10b1 : decide (t184 ≤ (wrap64 (t184 + (wrap64 (t183))))) = true := decide_eq_true c10
                by_cases c11 : (wrap64 (t184 + (wrap64 (t183)))) ≤ (l0.length : Int)
                · rw [if_pos c11] at H
                  have c11b0 := eq_true c11
                  have c11b1 : decide ((wrap64 (t184 + (wrap64 (t183)))) ≤ (l0.length : Int)) = true := decide_eq_true c11
                  simp only [Option.some.injEq, Prod.mk.injEq] at H
                  obtain ⟨rfl, rfl, rfl⟩ := H
                  go_wp2_with (first | ((with_reducible refine gate_callee (f := 32) rfl ?_); refine goesL_ (some 25) rfl rfl Try.func32 (by kernel_rfl) rfl #[.slice A0 l0.length c0, .int .i64 a1, .int .u64 (IntKind.u64.wrap (a2))] rfl (by (try simp only [List.map_toArray, List.map_cons, List.map_nil]); first | done | rfl | (simp only [List.length_drop, List.length_take]; rfl)) ?_; (with_reducible refine (wire_GetNum.calls kj3 _ _ l0 a1 (IntKind.u64.wrap (a2)) t183 t184 none _ ?side1 ?side2 A7.out).mono ?_); (case side1 => repeat (first | exact HR0.out | (with_reducible refine Kd.C_alloc ?_ _) | (with_reducible refine Kd.C_drewN ?_ _) | (with_reducible refine Kd.C_drew ?_))); (case side2 => exact HC0.out); rintro e w' ⟨rfl, ⟨nd, rfl⟩⟩; refine ⟨_, rfl, ?_⟩; (try simp only [errW_none, errW_some]); obtain ⟨i012, hi012, _, hsz12, _⟩ := info_parts info5; obtain ⟨A12, hcut12, hA12, hC12⟩ := print_mid_of (P := Try.prog) (Value.int .u8) 0 29 5 .i64 .i64 Try.underlying29 hi012 hsz12 A0 c0 l0 t184 (wrap64 (t184 + (wrap64 (t183)))) (of_decide_eq_true (by first | (with_reducible assumption) | assumption)) (by first | omega | exact of_decide_eq_true (by first | (with_reducible assumption) | assumption)) (of_decide_eq_true (by first | (with_reducible assumption) | assumption)) HC0.out; have HR187 := Aside0.mk (Kd.C_of_reads (h1 := fun _ => rfl) (hA12 _ (Kd.reads_of_C HR0.out))); have HC187 := Aside0.mk hC12; clear hA12 hC12 hi012 hsz12; have hcv13 := Kd.C_string (P := Try.prog) (A := A12) (c := (c0 - t184.toNat)) Try.underlying29 Try.underlying5 Try.underlying9 HR187.out; have hcv14 := fun n_ : Nat => Kd.C_string (P := Try.prog) (A := A12) (c := (c0 - t184.toNat)) Try.underlying29 Try.underlying5 Try.underlying9 (Kd.C_drewN HR187.out n_); have hl_hcv13 : (List.drop (t184 : Int).toNat (List.take ((wrap64 (t184 + (wrap64 (t183)))) : Int).toNat l0)).length = ((wrap64 (t184 + (wrap64 (t183)))) : Int).toNat - (t184 : Int).toNat := (by rw [List.length_drop, List.length_take, Nat.min_eq_left (by have q_ := of_decide_eq_true (by assumption : decide ((wrap64 (t184 + (wrap64 (t183)))) ≤ (l0.length : Int)) = true); omega)]); have hcv13L := hcv13; rw [hl_hcv13] at hcv13L; have hcv13M := hcv14; simp only [hl_hcv13] at hcv13M; clear hl_hcv13))
                  go_ret3
                  exact ⟨by first | rfl | (simp; done) | (simp [*]; done), by repeat (first | exact Drawn0.refl _ | apply Drawn0.step)⟩
                · rw [if_neg c11] at H
                  exact absurd H (by simp)
              · rw [if_neg c10] at H
                exact absurd H (by simp)
            · rw [if_neg c9] at H
              exact absurd H (by simp)
        · have H1 : (some ((⟨#[]⟩ : ByteArray), 0, some q186)) = some (r1, r2, r3) := by rw [if_neg (show ¬ (some q186).isNone = true by simp)] at H; exact H
          clear H
          have H := H1
          clear H1
          try simp only [errW_none, errW_some]
          simp only [Option.some.injEq, Prod.mk.injEq] at H
          obtain ⟨rfl, rfl, rfl⟩ := H
          go_wp2_with (first | ((with_reducible refine gate_callee (f := 32) rfl ?_); refine goesL_ (some 25) rfl rfl Try.func32 (by kernel_rfl) rfl #[.slice A0 l0.length c0, .int .i64 a1, .int .u64 (IntKind.u64.wrap (a2))] rfl (by (try simp only [List.map_toArray, List.map_cons, List.map_nil]); first | done | rfl | (simp only [List.length_drop, List.length_take]; rfl)) ?_; (with_reducible refine (wire_GetNum.calls kj3 _ _ l0 a1 (IntKind.u64.wrap (a2)) t183 t184 (some q186) _ ?side1 ?side2 A7.out).mono ?_); (case side1 => repeat (first | exact HR0.out | (with_reducible refine Kd.C_alloc ?_ _) | (with_reducible refine Kd.C_drewN ?_ _) | (with_reducible refine Kd.C_drew ?_))); (case side2 => exact HC0.out); rintro e w' ⟨rfl, ⟨nd, rfl⟩⟩; refine ⟨_, rfl, ?_⟩; (try simp only [errW_none, errW_some])))
          go_ret3
          exact ⟨by first | rfl | (simp; done) | (simp [*]; done), by repeat (first | exact Drawn0.refl _ | apply Drawn0.step)⟩

end Go.Proofs.Ytnjikdaicogdgaa.La
