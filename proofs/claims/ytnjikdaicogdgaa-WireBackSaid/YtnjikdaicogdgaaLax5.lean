-- Out of the translation, by a program of this session (wip/myprint.py, over the kit's printer). Lean checks it.
import Derived.Test.YtnjikdaicogdgaaLax0
import Derived.Test.YtnjikdaicogdgaaLax1
import Derived.Test.YtnjikdaicogdgaaLax2
import Derived.Test.YtnjikdaicogdgaaLax4
namespace Go.Proofs.Ytnjikdaicogdgaa.La
open Go.RowKit Go.Proofs.YtnjikdaicogdgaaW.PrintWords Go.Proofs.YtnjikdaicogdgaaW.PrintLast Go.Proofs.YtnjikdaicogdgaaW.PrintMore
attribute [local go_sem] max2_int min2_int max_two min_two max_three min_three max_four min_four   -- for this text's walks alone
set_option linter.unusedVariables false
set_option linter.unusedSimpArgs false

attribute [local go_sem] eqlErr neqErr eqlErrNil neqErrNil
/-! ### becketlaw01_WireBack: function 11 -/
mutual
def becketlaw01_WireBack.j0 : Nat → List Int → Int → ByteArray → List Int → Bool → Bool → Option (Bool)
  | 0, _, _, _, _, _, _ => none
  | k + 1, x0, x1, x2, x3, x9, x34 => if x34 = true then (some x9) else ((wire_Num.f k x0 x1).bind fun t189 => (if t189.length + x3.length < 140737488355328 then ((some (t189 ++ x3 : List Int)).bind fun y192 => ((wire_GetNum.f k y192 (x0.length : Int) 18446744073709551615).bind fun bt195 => ((wire_Text.f k x0 x2).bind fun t198 => (if t198.length + x3.length < 140737488355328 then ((some (t198 ++ x3 : List Int)).bind fun y201 => ((wire_GetText.f k y201 (x0.length : Int) 4096).bind fun bt204 => (if bt195.2.2.isNone = true then (if bt204.2.2.isNone = true then (if bt195.1 = x1 then (if bt204.1.toList = x2.toList then (if bt195.2.1 = (wrap64 ((y192.length : Int) - (x3.length : Int))) then (becketlaw01_WireBack.j1 k x3 x9 (bt204.2.1 != (wrap64 ((y201.length : Int) - (x3.length : Int))))) else (becketlaw01_WireBack.j1 k x3 x9 true)) else (becketlaw01_WireBack.j1 k x3 x9 true)) else (becketlaw01_WireBack.j1 k x3 x9 true)) else (becketlaw01_WireBack.j1 k x3 x9 true)) else (becketlaw01_WireBack.j1 k x3 x9 true)))) else (none))))) else (none)))
def becketlaw01_WireBack.j1 : Nat → List Int → Bool → Bool → Option (Bool)
  | 0, _, _, _ => none
  | k + 1, x3, x9, x95 => if x95 = true then (some false) else ((wire_GetNum.f k x3 0 18446744073709551615).bind fun bt209 => (if bt209.2.2.isNone = true then (if x9 = true then ((wire_Num.f k ([] : List Int) bt209.1).bind fun t213 => (if 0 ≤ bt209.2.1 then (if bt209.2.1 ≤ (x3.length : Int) then (some ((strOfNums t213).toList == (strOfNums (x3.take (bt209.2.1 : Int).toNat)).toList)) else (none)) else (none))) else (some false)) else (some x9)))
end
def becketlaw01_WireBack.f (k : Nat) (l0 : List Int) (a1 : Int) (a2 : ByteArray) (l3 : List Int) : Option (Bool) := (becketlaw01_up.f k).bind fun t188 => (if (l0.length : Int) > 10000 then (becketlaw01_WireBack.j0 k l0 a1 a2 l3 t188 true) else (if (a2.size : Int) > 4096 then (becketlaw01_WireBack.j0 k l0 a1 a2 l3 t188 true) else (becketlaw01_WireBack.j0 k l0 a1 a2 l3 t188 (decide ((l3.length : Int) > 10000)))))
theorem becketlaw01_WireBack.mono_l : ∀ k, (∀ y0 y1 y2 y3 y4 y5, LeO (becketlaw01_WireBack.j0 k y0 y1 y2 y3 y4 y5) (becketlaw01_WireBack.j0 (k + 1) y0 y1 y2 y3 y4 y5)) ∧ (∀ y0 y1 y2, LeO (becketlaw01_WireBack.j1 k y0 y1 y2) (becketlaw01_WireBack.j1 (k + 1) y0 y1 y2))
  | 0 => ⟨fun _ _ _ _ _ _ r h => by simp [becketlaw01_WireBack.j0] at h, fun _ _ _ r h => by simp [becketlaw01_WireBack.j1] at h⟩
  | k + 1 => by
    obtain ⟨ih0, ih1⟩ := becketlaw01_WireBack.mono_l k
    refine ⟨?_, ?_⟩
    · intro y0 y1 y2 y3 y4 y5
      unfold becketlaw01_WireBack.j0
      repeat' first
      | (with_reducible exact ih0 _ _ _ _ _ _)
      | (with_reducible exact ih1 _ _ _)
      | (with_reducible exact becketlaw01_up.mono _)
      | (with_reducible exact wire_GetNum.mono _ _ _ _)
      | (with_reducible exact wire_GetText.mono _ _ _ _)
      | (with_reducible exact wire_Num.mono _ _ _)
      | (with_reducible exact wire_Text.mono _ _ _)
      | (with_reducible exact LeO.refl _)
      | (with_reducible exact LeO.none _)
      | (with_reducible refine LeO.ite ?_ ?_)
      | (with_reducible refine LeO.bind ?_ (fun _ => ?_))
      | exact ih0 _ _ _ _ _ _
      | exact ih1 _ _ _
      | exact becketlaw01_up.mono _
      | exact wire_GetNum.mono _ _ _ _
      | exact wire_GetText.mono _ _ _ _
      | exact wire_Num.mono _ _ _
      | exact wire_Text.mono _ _ _
      | exact LeO.none _
      | refine LeO.ite ?_ ?_
      | refine LeO.bind ?_ (fun _ => ?_)
    · intro y0 y1 y2
      unfold becketlaw01_WireBack.j1
      repeat' first
      | (with_reducible exact ih0 _ _ _ _ _ _)
      | (with_reducible exact ih1 _ _ _)
      | (with_reducible exact becketlaw01_up.mono _)
      | (with_reducible exact wire_GetNum.mono _ _ _ _)
      | (with_reducible exact wire_GetText.mono _ _ _ _)
      | (with_reducible exact wire_Num.mono _ _ _)
      | (with_reducible exact wire_Text.mono _ _ _)
      | (with_reducible exact LeO.refl _)
      | (with_reducible exact LeO.none _)
      | (with_reducible refine LeO.ite ?_ ?_)
      | (with_reducible refine LeO.bind ?_ (fun _ => ?_))
      | exact ih0 _ _ _ _ _ _
      | exact ih1 _ _ _
      | exact becketlaw01_up.mono _
      | exact wire_GetNum.mono _ _ _ _
      | exact wire_GetText.mono _ _ _ _
      | exact wire_Num.mono _ _ _
      | exact wire_Text.mono _ _ _
      | exact LeO.none _
      | refine LeO.ite ?_ ?_
      | refine LeO.bind ?_ (fun _ => ?_)
theorem becketlaw01_WireBack.mono : ∀ a0 a1 a2 a3 k, LeO (becketlaw01_WireBack.f k a0 a1 a2 a3) (becketlaw01_WireBack.f (k + 1) a0 a1 a2 a3) := by
  intro a0 a1 a2 a3 k
  obtain ⟨ih0, ih1⟩ := becketlaw01_WireBack.mono_l k
  unfold becketlaw01_WireBack.f
  repeat' first
      | (with_reducible exact ih0 _ _ _ _ _ _)
      | (with_reducible exact ih1 _ _ _)
      | (with_reducible exact becketlaw01_up.mono _)
      | (with_reducible exact wire_GetNum.mono _ _ _ _)
      | (with_reducible exact wire_GetText.mono _ _ _ _)
      | (with_reducible exact wire_Num.mono _ _ _)
      | (with_reducible exact wire_Text.mono _ _ _)
      | (with_reducible exact LeO.refl _)
      | (with_reducible exact LeO.none _)
      | (with_reducible refine LeO.ite ?_ ?_)
      | (with_reducible refine LeO.bind ?_ (fun _ => ?_))
      | exact ih0 _ _ _ _ _ _
      | exact ih1 _ _ _
      | exact becketlaw01_up.mono _
      | exact wire_GetNum.mono _ _ _ _
      | exact wire_GetText.mono _ _ _ _
      | exact wire_Num.mono _ _ _
      | exact wire_Text.mono _ _ _
      | exact LeO.none _
      | refine LeO.ite ?_ ?_
      | refine LeO.bind ?_ (fun _ => ?_)
def becketlaw01_WireBack.T13 : Bool × List (List Nat × List Nat) := (true, [([], []), ([0], [0]), ([1], [1]), ([2, 1, 1], [1, 2]), ([3, 1], [1, 3]), ([1], [1]), ([1], [1]), ([5, 6, 1], [1, 5, 6]), ([7, 1], [1, 7]), ([4, 8, 1], [1, 4, 8]), ([1, 9], [1, 9]), ([10, 3, 0, 1, 2, 3, 4, 5, 6, 7, 8, 9, 10], [10])])
def becketlaw01_WireBack.B13 : List Nat := [0, 1, 3, 7, 15, 3, 3, 99, 227, 511, 1023, 2047]
theorem becketlaw01_WireBack.tab13 : rtab .any (opsOf Try.f11 13) = becketlaw01_WireBack.T13 := by kernel_rfl
theorem becketlaw01_WireBack.bits13 : waitsOk becketlaw01_WireBack.T13.2 becketlaw01_WireBack.B13 = true := by kernel_rfl
set_option maxHeartbeats 8000000 in
set_option maxRecDepth 100000 in
theorem becketlaw01_WireBack.calls (k : Nat) (A0 : Option Addr) (c0 : Nat) (l0 : List Int) (a1 : Int) (a2 : ByteArray) (A3 : Option Addr) (c3 : Nat) (l3 : List Int) (r : Bool) (w : World) (hr0 : Kd.C (Kd.int .u8) w A0 l0.length l0) (hc0 : l0.length ≤ c0) (hr3 : Kd.C (Kd.int .u8) w A3 l3.length l3) (hc3 : l3.length ≤ c3) (h : becketlaw01_WireBack.f k l0 a1 a2 l3 = some r) :
    Calls Try.prog 11 #[.slice A0 l0.length c0, .int .u64 a1, .string a2, .slice A3 l3.length c3] w fun e w' => e = .returned (.bool r) ∧ Below w.heap.size w w' := by
  have hu27 := Try.underlying27
  have hu30 := Try.underlying30
  have HR0 := Aside0.mk hr0
  have HC0 := Aside0.mk hc0
  clear hr0 hc0
  have HR3 := Aside0.mk hr3
  have HC3 := Aside0.mk hc3
  clear hr3 hc3
  have HB := Aside0.mk (Below.refl w.heap.size w)
  have H : ((becketlaw01_up.f k).bind fun t188 => (if (l0.length : Int) > 10000 then (becketlaw01_WireBack.j0 k l0 a1 a2 l3 t188 true) else (if (a2.size : Int) > 4096 then (becketlaw01_WireBack.j0 k l0 a1 a2 l3 t188 true) else (becketlaw01_WireBack.j0 k l0 a1 a2 l3 t188 (decide ((l3.length : Int) > 10000)))))) = some r := h
  clear h
  replace H := Option.bind_eq_some_iff.mp H
  obtain ⟨t188, A50, H⟩ := H
  replace H : (if (l0.length : Int) > 10000 then (becketlaw01_WireBack.j0 k l0 a1 a2 l3 t188 true) else (if (a2.size : Int) > 4096 then (becketlaw01_WireBack.j0 k l0 a1 a2 l3 t188 true) else (becketlaw01_WireBack.j0 k l0 a1 a2 l3 t188 (decide ((l3.length : Int) > 10000))))) = some r := H
  have A5 := Aside0.mk A50
  clear A50
  have HC6 := Aside0.mk H
  clear H
  go_enter Try.func11, Try.ntmps11
  go_upto_region 2 with (first | ((with_reducible refine gate_callee (f := 27) rfl ?_); refine goesL_ (some 21) rfl rfl Try.func27 (by kernel_rfl) rfl #[] rfl (by (try simp only [List.map_toArray, List.map_cons, List.map_nil]); first | done | rfl | (simp only [List.length_drop, List.length_take]; rfl)) ?_; (with_reducible refine (becketlaw01_up.calls k  t188 _ A5.out).mono ?_); rintro e w7 ⟨rfl, hb⟩; refine ⟨_, rfl, ?_⟩; have n0_ := Aside0.mk (below_step (by repeat (first | (with_reducible first | exact HB.out | apply below_alloc | apply pw_below_drewN | apply below_drew1) | exact HB.out)) hb); clear HB; have HB := n0_; clear n0_; (try clear hb); (try clear hb2); (try clear hk); (try clear hi)))
  (try simp only [Act.put, List.setIfInBounds_toArray, List.set_cons_zero, List.set_cons_succ])
  go_cut [34] (fun v34 wc => ∃ (kq : Nat) (x34_5 : Bool), v34 = .bool x34_5 ∧ Aside0 (becketlaw01_WireBack.j0 kq l0 a1 a2 l3 t188 x34_5 = some r) ∧ Aside0 (kq ≤ k) ∧ Aside0 (Below w.heap.size w wc))
  case first =>
    have H := HC6.out
    clear HC6
    by_cases c8 : (l0.length : Int) > 10000
    · rw [if_pos c8] at H
      have c8b0 : decide (10000 < (l0.length : Int)) = true := decide_eq_true c8
      have c8b1 : decide (10000 < l0.length) = true := decide_eq_true (by omega)
      clear c8
      (first | rw [c8b0] | (simp only [i64_w, i32_w]; rw [c8b0]) | skip)
      have H' := Aside0.mk H
      clear H
      go_wp2
      go_meet
      case rel => exact ⟨_, (true), (by first | rfl | (simp; done) | (simp [*]; done)), H', ⟨by first | omega | exact Nat.le_refl _⟩, ⟨by repeat (first | (with_reducible first | exact HB.out | apply below_alloc | apply pw_below_drewN | apply below_drew1) | exact HB.out)⟩⟩
    · rw [if_neg c8] at H
      have c8b0 : decide (10000 < (l0.length : Int)) = false := decide_eq_false c8
      have c8b1 : decide (10000 < l0.length) = false := decide_eq_false (by omega)
      clear c8
      (first | rw [c8b0] | (simp only [i64_w, i32_w]; rw [c8b0]) | skip)
      by_cases c9 : (a2.size : Int) > 4096
      · rw [if_pos c9] at H
        have c9b0 : decide (4096 < (a2.size : Int)) = true := decide_eq_true c9
        have c9b1 : decide (4096 < a2.size) = true := decide_eq_true (by omega)
        clear c9
        have H' := Aside0.mk H
        clear H
        go_wp2
        go_meet
        case rel => exact ⟨_, (true), (by first | rfl | (simp; done) | (simp [*]; done)), H', ⟨by first | omega | exact Nat.le_refl _⟩, ⟨by repeat (first | (with_reducible first | exact HB.out | apply below_alloc | apply pw_below_drewN | apply below_drew1) | exact HB.out)⟩⟩
      · rw [if_neg c9] at H
        have c9b0 : decide (4096 < (a2.size : Int)) = false := decide_eq_false c9
        have c9b1 : decide (4096 < a2.size) = false := decide_eq_false (by omega)
        clear c9
        have H' := Aside0.mk H
        clear H
        go_wp2
        go_meet
        case rel => exact ⟨_, (decide ((l3.length : Int) > 10000)), (by first | rfl | (simp; done) | (simp [*]; done)), H', ⟨by first | omega | exact Nat.le_refl _⟩, ⟨by repeat (first | (with_reducible first | exact HB.out | apply below_alloc | apply pw_below_drewN | apply below_drew1) | exact HB.out)⟩⟩
  case rest =>
    clear HC6
    try clear c1
    try clear c2
    try clear p2
    try clear c3
    try clear c8
    try clear c8b0
    try clear c8b1
    try clear c9
    try clear c9b0
    try clear c9b1
    obtain ⟨kq, x34_5, rfl, HA, HJ5, HB⟩ := hcut
    cases kq with
    | zero => exact absurd HA.out (by simp [becketlaw01_WireBack.j0])
    | succ kj5 =>
      have H := HA.out
      clear HA
      simp only [becketlaw01_WireBack.j0] at H
      by_cases c10 : x34_5 = true
      · subst c10
        have H1 : (some t188) = some r := by first | (rw [if_pos rfl] at H; with_reducible exact H) | exact (if_pos rfl).symm.trans H | (simp only [if_true, eq_self_iff_true] at H ⊢; exact H)
        clear H
        have H := H1
        clear H1
        obtain rfl := Option.some.inj H
        go_wp2
        go_ret
        exact ⟨by first | rfl | (simp [errW_none, errW_some] <;> rfl) | (simp [*, errW_none, errW_some] <;> rfl), by repeat (first | (with_reducible first | exact HB.out | apply below_alloc | apply pw_below_drewN | apply below_drew1) | exact HB.out)⟩
      · replace c10 := Bool.eq_false_iff.mpr c10
        subst c10
        have H1 : ((wire_Num.f kj5 l0 a1).bind fun t189 => (if t189.length + l3.length < 140737488355328 then ((some (t189 ++ l3 : List Int)).bind fun y192 => ((wire_GetNum.f kj5 y192 (l0.length : Int) 18446744073709551615).bind fun bt195 => ((wire_Text.f kj5 l0 a2).bind fun t198 => (if t198.length + l3.length < 140737488355328 then ((some (t198 ++ l3 : List Int)).bind fun y201 => ((wire_GetText.f kj5 y201 (l0.length : Int) 4096).bind fun bt204 => (if bt195.2.2.isNone = true then (if bt204.2.2.isNone = true then (if bt195.1 = a1 then (if bt204.1.toList = a2.toList then (if bt195.2.1 = (wrap64 ((y192.length : Int) - (l3.length : Int))) then (becketlaw01_WireBack.j1 kj5 l3 t188 (bt204.2.1 != (wrap64 ((y201.length : Int) - (l3.length : Int))))) else (becketlaw01_WireBack.j1 kj5 l3 t188 true)) else (becketlaw01_WireBack.j1 kj5 l3 t188 true)) else (becketlaw01_WireBack.j1 kj5 l3 t188 true)) else (becketlaw01_WireBack.j1 kj5 l3 t188 true)) else (becketlaw01_WireBack.j1 kj5 l3 t188 true)))) else (none))))) else (none))) = some r := by rw [if_neg (show ¬ (false = true) by decide)] at H; exact H
        clear H
        have H := H1
        clear H1
        replace H := Option.bind_eq_some_iff.mp H
        obtain ⟨t189, A110, H⟩ := H
        replace H : (if t189.length + l3.length < 140737488355328 then ((some (t189 ++ l3 : List Int)).bind fun y192 => ((wire_GetNum.f kj5 y192 (l0.length : Int) 18446744073709551615).bind fun bt195 => ((wire_Text.f kj5 l0 a2).bind fun t198 => (if t198.length + l3.length < 140737488355328 then ((some (t198 ++ l3 : List Int)).bind fun y201 => ((wire_GetText.f kj5 y201 (l0.length : Int) 4096).bind fun bt204 => (if bt195.2.2.isNone = true then (if bt204.2.2.isNone = true then (if bt195.1 = a1 then (if bt204.1.toList = a2.toList then (if bt195.2.1 = (wrap64 ((y192.length : Int) - (l3.length : Int))) then (becketlaw01_WireBack.j1 kj5 l3 t188 (bt204.2.1 != (wrap64 ((y201.length : Int) - (l3.length : Int))))) else (becketlaw01_WireBack.j1 kj5 l3 t188 true)) else (becketlaw01_WireBack.j1 kj5 l3 t188 true)) else (becketlaw01_WireBack.j1 kj5 l3 t188 true)) else (becketlaw01_WireBack.j1 kj5 l3 t188 true)) else (becketlaw01_WireBack.j1 kj5 l3 t188 true)))) else (none))))) else (none)) = some r := H
        have A11 := Aside0.mk A110
        clear A110
        by_cases c12 : t189.length + l3.length < 140737488355328
        · rw [if_pos c12] at H
          have LMc12 := Aside0.mk c12
          clear c12
          obtain ⟨y192, hy192⟩ : ∃ y_ : List Int, y_ = (t189 ++ l3) := ⟨_, rfl⟩
          replace H : ((wire_GetNum.f kj5 y192 (l0.length : Int) 18446744073709551615).bind fun bt195 => ((wire_Text.f kj5 l0 a2).bind fun t198 => (if t198.length + l3.length < 140737488355328 then ((some (t198 ++ l3 : List Int)).bind fun y201 => ((wire_GetText.f kj5 y201 (l0.length : Int) 4096).bind fun bt204 => (if bt195.2.2.isNone = true then (if bt204.2.2.isNone = true then (if bt195.1 = a1 then (if bt204.1.toList = a2.toList then (if bt195.2.1 = (wrap64 ((y192.length : Int) - (l3.length : Int))) then (becketlaw01_WireBack.j1 kj5 l3 t188 (bt204.2.1 != (wrap64 ((y201.length : Int) - (l3.length : Int))))) else (becketlaw01_WireBack.j1 kj5 l3 t188 true)) else (becketlaw01_WireBack.j1 kj5 l3 t188 true)) else (becketlaw01_WireBack.j1 kj5 l3 t188 true)) else (becketlaw01_WireBack.j1 kj5 l3 t188 true)) else (becketlaw01_WireBack.j1 kj5 l3 t188 true)))) else (none)))) = some r := by first | (rw [hy192]; with_reducible exact H) | (have H2_ := (Option.bind_some _ _).symm.trans H; rw [hy192]; with_reducible exact H2_) | (have H2_ := (Option.bind_some _ _).symm.trans H; with_reducible exact H2_) | with_reducible exact H | (rw [hy192]; exact H) | exact H
          have Ny192 := Aside0.mk hy192
          clear hy192
          replace H := Option.bind_eq_some_iff.mp H
          obtain ⟨⟨t195, t196, t197⟩, A130, H⟩ := H
          replace H : ((wire_Text.f kj5 l0 a2).bind fun t198 => (if t198.length + l3.length < 140737488355328 then ((some (t198 ++ l3 : List Int)).bind fun y201 => ((wire_GetText.f kj5 y201 (l0.length : Int) 4096).bind fun bt204 => (if t197.isNone = true then (if bt204.2.2.isNone = true then (if t195 = a1 then (if bt204.1.toList = a2.toList then (if t196 = (wrap64 ((y192.length : Int) - (l3.length : Int))) then (becketlaw01_WireBack.j1 kj5 l3 t188 (bt204.2.1 != (wrap64 ((y201.length : Int) - (l3.length : Int))))) else (becketlaw01_WireBack.j1 kj5 l3 t188 true)) else (becketlaw01_WireBack.j1 kj5 l3 t188 true)) else (becketlaw01_WireBack.j1 kj5 l3 t188 true)) else (becketlaw01_WireBack.j1 kj5 l3 t188 true)) else (becketlaw01_WireBack.j1 kj5 l3 t188 true)))) else (none))) = some r := H
          have A13 := Aside0.mk A130
          clear A130
          replace H := Option.bind_eq_some_iff.mp H
          obtain ⟨t198, A140, H⟩ := H
          replace H : (if t198.length + l3.length < 140737488355328 then ((some (t198 ++ l3 : List Int)).bind fun y201 => ((wire_GetText.f kj5 y201 (l0.length : Int) 4096).bind fun bt204 => (if t197.isNone = true then (if bt204.2.2.isNone = true then (if t195 = a1 then (if bt204.1.toList = a2.toList then (if t196 = (wrap64 ((y192.length : Int) - (l3.length : Int))) then (becketlaw01_WireBack.j1 kj5 l3 t188 (bt204.2.1 != (wrap64 ((y201.length : Int) - (l3.length : Int))))) else (becketlaw01_WireBack.j1 kj5 l3 t188 true)) else (becketlaw01_WireBack.j1 kj5 l3 t188 true)) else (becketlaw01_WireBack.j1 kj5 l3 t188 true)) else (becketlaw01_WireBack.j1 kj5 l3 t188 true)) else (becketlaw01_WireBack.j1 kj5 l3 t188 true)))) else (none)) = some r := H
          have A14 := Aside0.mk A140
          clear A140
          by_cases c15 : t198.length + l3.length < 140737488355328
          · rw [if_pos c15] at H
            have LMc15 := Aside0.mk c15
            clear c15
            obtain ⟨y201, hy201⟩ : ∃ y_ : List Int, y_ = (t198 ++ l3) := ⟨_, rfl⟩
            replace H : ((wire_GetText.f kj5 y201 (l0.length : Int) 4096).bind fun bt204 => (if t197.isNone = true then (if bt204.2.2.isNone = true then (if t195 = a1 then (if bt204.1.toList = a2.toList then (if t196 = (wrap64 ((y192.length : Int) - (l3.length : Int))) then (becketlaw01_WireBack.j1 kj5 l3 t188 (bt204.2.1 != (wrap64 ((y201.length : Int) - (l3.length : Int))))) else (becketlaw01_WireBack.j1 kj5 l3 t188 true)) else (becketlaw01_WireBack.j1 kj5 l3 t188 true)) else (becketlaw01_WireBack.j1 kj5 l3 t188 true)) else (becketlaw01_WireBack.j1 kj5 l3 t188 true)) else (becketlaw01_WireBack.j1 kj5 l3 t188 true))) = some r := by first | (rw [hy201]; with_reducible exact H) | (have H2_ := (Option.bind_some _ _).symm.trans H; rw [hy201]; with_reducible exact H2_) | (have H2_ := (Option.bind_some _ _).symm.trans H; with_reducible exact H2_) | with_reducible exact H | (rw [hy201]; exact H) | exact H
            have Ny201 := Aside0.mk hy201
            clear hy201
            replace H := Option.bind_eq_some_iff.mp H
            obtain ⟨⟨t204, t205, t206⟩, A160, H⟩ := H
            replace H : (if t197.isNone = true then (if t206.isNone = true then (if t195 = a1 then (if t204.toList = a2.toList then (if t196 = (wrap64 ((y192.length : Int) - (l3.length : Int))) then (becketlaw01_WireBack.j1 kj5 l3 t188 (t205 != (wrap64 ((y201.length : Int) - (l3.length : Int))))) else (becketlaw01_WireBack.j1 kj5 l3 t188 true)) else (becketlaw01_WireBack.j1 kj5 l3 t188 true)) else (becketlaw01_WireBack.j1 kj5 l3 t188 true)) else (becketlaw01_WireBack.j1 kj5 l3 t188 true)) else (becketlaw01_WireBack.j1 kj5 l3 t188 true)) = some r := H
            have A16 := Aside0.mk A160
            clear A160
            have HC17 := Aside0.mk H
            clear H
            go_upto_region 8 with (first | ((with_reducible refine gate_callee (f := 28) rfl ?_); refine goesL_ (some 38) rfl rfl Try.func28 (by kernel_rfl) rfl #[.slice A0 l0.length c0, .int .u64 a1] rfl (by (try simp only [List.map_toArray, List.map_cons, List.map_nil]); first | done | rfl | (simp only [List.length_drop, List.length_take]; rfl)) ?_; (with_reducible refine (wire_Num.calls kj5 _ _ l0 a1 t189 _ ?side1 ?side2 A11.out).mono ?_); (case side1 => repeat (first | exact (Kd.C_below HR0.out HB.out) | (with_reducible refine Kd.C_alloc ?_ _) | (with_reducible refine Kd.C_drewN ?_ _) | (with_reducible refine Kd.C_drew ?_))); (case side2 => exact HC0.out); rintro e w18 ⟨v190, rfl, ho0, hb⟩; refine ⟨_, rfl, ?_⟩; have n0_ := Aside0.mk (Kd.R_lower ho0 (below_size (by repeat (first | (with_reducible first | exact HB.out | apply below_alloc | apply pw_below_drewN | apply below_drew1) | exact HB.out)))); have n1_ := Aside0.mk (below_step (by repeat (first | (with_reducible first | exact HB.out | apply below_alloc | apply pw_below_drewN | apply below_drew1) | exact HB.out)) hb); clear HB; have HO191 := n0_; have HB := n1_; clear n0_ n1_; (try clear hb); (try clear hb2); (try clear hk); (try clear hi); (try clear ho0)) | ((with_reducible refine gate_builtin (b := .append) (xs := #[.tmp 38, .tmp 39]) rfl ?_); (try (refine gate_guard (by rfl) ?_; dsimp only)); at_builtin; refine Kd.R_append_rows (Kd.int .u8) (w0 := w) w.heap.size rfl (.tmp 38) (.tmp 39) 29 5 (.int .u8 0) 1 rfl Try.underlying29 info5 rfl (by decide) (by omega) v190 t189 l3 _ _ _ (fun _ => True) (fun _ => False) rfl rfl ?aO ?aR (fun _ _ h => h) (fun _ h => h.elim) ?aF ?aB ?aS ?aL ?_; (case aR => repeat (first | exact (Kd.C_below HR3.out HB.out) | (with_reducible refine Kd.C_alloc ?_ _) | (with_reducible refine Kd.C_drewN ?_ _) | (with_reducible refine Kd.C_drew ?_))); (case aB => exact (by repeat (first | (with_reducible first | exact HB.out | apply below_alloc | apply pw_below_drewN | apply below_drew1) | exact HB.out))); (case aF => exact (fun _ _ => trivial)); (case aO => exact (by (with_reducible repeat (first | apply Kd.R_alloc | apply Kd.R_drewN | apply Kd.R_drew)); exact HO191.out)); (case aS => exact (below_size (by repeat (first | (with_reducible first | exact HB.out | apply below_alloc | apply pw_below_drewN | apply below_drew1) | exact HB.out)))); (case aL => have := LMc12.out; omega); intro v193 w19 ho hb hg hat; rw [← Ny192.out] at ho; have n0_ := Aside0.mk (hb); have n1_ := Aside0.mk (ho); clear HB; clear HO191; have HB := n0_; have HO194 := n1_; clear n0_ n1_; clear ho hb hg hat; obtain ⟨Ao20, co20, eo20⟩ := Kd.R_slice HO194.out; subst eo20) | ((with_reducible refine gate_callee (f := 32) rfl ?_); refine goesL_ (some 45) rfl rfl Try.func32 (by kernel_rfl) rfl #[.slice Ao20 y192.length co20, .int .i64 (l0.length : Int), .int .u64 18446744073709551615] rfl (by (try simp only [List.map_toArray, List.map_cons, List.map_nil]); first | done | rfl | (simp only [List.length_drop, List.length_take]; rfl)) ?_; (with_reducible refine (wire_GetNum.calls kj5 _ _ y192 (l0.length : Int) 18446744073709551615 t195 t196 t197 _ ?side1 ?side2 A13.out).mono ?_); (case side1 => repeat (first | exact (Kd.R_reads' HO194.out).2.2 | (with_reducible refine Kd.C_alloc ?_ _) | (with_reducible refine Kd.C_drewN ?_ _) | (with_reducible refine Kd.C_drew ?_))); (case side2 => exact (Kd.R_reads' HO194.out).2.1); rintro e w' ⟨rfl, ⟨nd, rfl⟩⟩; refine ⟨_, rfl, ?_⟩; (try simp only [errW_none, errW_some])) | ((with_reducible refine gate_callee (f := 29) rfl ?_); refine goesL_ (some 51) rfl rfl Try.func29 (by kernel_rfl) rfl #[.slice A0 l0.length c0, .string a2] rfl (by (try simp only [List.map_toArray, List.map_cons, List.map_nil]); first | done | rfl | (simp only [List.length_drop, List.length_take]; rfl)) ?_; (with_reducible refine (wire_Text.calls kj5 _ _ l0 a2 t198 _ ?side1 ?side2 A14.out).mono ?_); (case side1 => repeat (first | exact (Kd.C_below HR0.out (by repeat (first | (with_reducible first | exact HB.out | apply below_alloc | apply pw_below_drewN | apply below_drew1) | exact HB.out))) | (with_reducible refine Kd.C_alloc ?_ _) | (with_reducible refine Kd.C_drewN ?_ _) | (with_reducible refine Kd.C_drew ?_))); (case side2 => exact HC0.out); rintro e w21 ⟨v199, rfl, ho0, hb⟩; refine ⟨_, rfl, ?_⟩; have n0_ := Aside0.mk (Kd.R_elder' (by (with_reducible repeat (first | apply Kd.R_alloc | apply Kd.R_drewN | apply Kd.R_drew)); exact HO194.out) (Kd.R_base ho0) hb); have n1_ := Aside0.mk (Kd.R_lower (Kd.R_new' ho0 (Kd.R_lt (by (with_reducible repeat (first | apply Kd.R_alloc | apply Kd.R_drewN | apply Kd.R_drew)); exact HO194.out))) (below_size (by repeat (first | (with_reducible first | exact HB.out | apply below_alloc | apply pw_below_drewN | apply below_drew1) | exact HB.out)))); have n2_ := Aside0.mk (below_step (by repeat (first | (with_reducible first | exact HB.out | apply below_alloc | apply pw_below_drewN | apply below_drew1) | exact HB.out)) hb); clear HO194; clear HB; have HO194 := n0_; have HO200 := n1_; have HB := n2_; clear n0_ n1_ n2_; (try clear hb); (try clear hb2); (try clear hk); (try clear hi); (try clear ho0)) | ((with_reducible refine gate_builtin (b := .append) (xs := #[.tmp 51, .tmp 52]) rfl ?_); (try (refine gate_guard (by rfl) ?_; dsimp only)); at_builtin; refine Kd.R_append_rows (Kd.int .u8) (w0 := w) w.heap.size rfl (.tmp 51) (.tmp 52) 29 5 (.int .u8 0) 1 rfl Try.underlying29 info5 rfl (by decide) (by omega) v199 t198 l3 _ _ _ (fun k_ => some k_ ≠ (.slice Ao20 y192.length co20 : Value).ownBlock) (fun _ => False) rfl rfl ?aO ?aR (fun _ _ h => h) (fun _ h => h.elim) ?aF ?aB ?aS ?aL ?_; (case aR => repeat (first | exact (Kd.C_below HR3.out HB.out) | (with_reducible refine Kd.C_alloc ?_ _) | (with_reducible refine Kd.C_drewN ?_ _) | (with_reducible refine Kd.C_drew ?_))); (case aB => exact (by repeat (first | (with_reducible first | exact HB.out | apply below_alloc | apply pw_below_drewN | apply below_drew1) | exact HB.out))); (case aF => exact (fun k_ hk => Kd.fresh' (Kd.R_lt (by (with_reducible repeat (first | apply Kd.R_alloc | apply Kd.R_drewN | apply Kd.R_drew)); exact HO194.out)) k_ hk)); (case aO => exact (by (with_reducible repeat (first | apply Kd.R_alloc | apply Kd.R_drewN | apply Kd.R_drew)); exact Kd.R_mono HO200.out (fun _ hk => hk.2))); (case aS => exact (below_size (by repeat (first | (with_reducible first | exact HB.out | apply below_alloc | apply pw_below_drewN | apply below_drew1) | exact HB.out)))); (case aL => have := LMc15.out; omega); intro v202 w22 ho hb hg hat; rw [← Ny201.out] at ho; have n0_ := Aside0.mk (Kd.R_after (ok := (fun _ => True)) (by (with_reducible repeat (first | apply Kd.R_alloc | apply Kd.R_drewN | apply Kd.R_drew)); exact HO194.out) hg hat); have n1_ := Aside0.mk (hb); have n2_ := Aside0.mk (ho); clear HO194; clear HB; clear HO200; have HO194 := n0_; have HB := n1_; have HO203 := n2_; clear n0_ n1_ n2_; clear ho hb hg hat; obtain ⟨Ao23, co23, eo23⟩ := Kd.R_slice HO203.out; subst eo23) | ((with_reducible refine gate_callee (f := 33) rfl ?_); refine goesL_ (some 58) rfl rfl Try.func33 (by kernel_rfl) rfl #[.slice Ao23 y201.length co23, .int .i64 (l0.length : Int), .int .i64 4096] rfl (by (try simp only [List.map_toArray, List.map_cons, List.map_nil]); first | done | rfl | (simp only [List.length_drop, List.length_take]; rfl)) ?_; (with_reducible refine (wire_GetText.calls kj5 _ _ y201 (l0.length : Int) 4096 t204 t205 t206 _ ?side1 ?side2 A16.out).mono ?_); (case side1 => repeat (first | exact (Kd.R_reads' HO203.out).2.2 | (with_reducible refine Kd.C_alloc ?_ _) | (with_reducible refine Kd.C_drewN ?_ _) | (with_reducible refine Kd.C_drew ?_))); (case side2 => exact (Kd.R_reads' HO203.out).2.1); rintro e w' ⟨rfl, ⟨nd, rfl⟩⟩; refine ⟨_, rfl, ?_⟩; (try simp only [errW_none, errW_some])))
            (try simp only [Act.put, List.setIfInBounds_toArray, List.set_cons_zero, List.set_cons_succ])
            go_cut [95] (fun v95 wc => ∃ (kq : Nat) (x95_16 : Bool), v95 = .bool x95_16 ∧ Aside0 (becketlaw01_WireBack.j1 kq l3 t188 x95_16 = some r) ∧ Aside0 (kq ≤ kj5) ∧ Aside0 (Below w.heap.size w wc))
            case first =>
              have H := HC17.out
              clear HC17
              rcases t197 with _ | q207
              · have H1 : (if t206.isNone = true then (if t195 = a1 then (if t204.toList = a2.toList then (if t196 = (wrap64 ((y192.length : Int) - (l3.length : Int))) then (becketlaw01_WireBack.j1 kj5 l3 t188 (t205 != (wrap64 ((y201.length : Int) - (l3.length : Int))))) else (becketlaw01_WireBack.j1 kj5 l3 t188 true)) else (becketlaw01_WireBack.j1 kj5 l3 t188 true)) else (becketlaw01_WireBack.j1 kj5 l3 t188 true)) else (becketlaw01_WireBack.j1 kj5 l3 t188 true)) = some r := by rw [if_pos (show (none : Option Int).isNone = true by rfl)] at H; exact H
                clear H
                have H := H1
                clear H1
                try simp only [errW_none, errW_some]
                rcases t206 with _ | q208
                · have H1 : (if t195 = a1 then (if t204.toList = a2.toList then (if t196 = (wrap64 ((y192.length : Int) - (l3.length : Int))) then (becketlaw01_WireBack.j1 kj5 l3 t188 (t205 != (wrap64 ((y201.length : Int) - (l3.length : Int))))) else (becketlaw01_WireBack.j1 kj5 l3 t188 true)) else (becketlaw01_WireBack.j1 kj5 l3 t188 true)) else (becketlaw01_WireBack.j1 kj5 l3 t188 true)) = some r := by rw [if_pos (show (none : Option Int).isNone = true by rfl)] at H; exact H
                  clear H
                  have H := H1
                  clear H1
                  try simp only [errW_none, errW_some]
                  by_cases c24 : t195 = a1
                  · rw [if_pos c24] at H
                    have c24b0 : (t195 == a1) = true := beq_iff_eq.mpr c24
                    have c24b1 : (t195 != a1) = false := bne_eq_false_iff_eq.mpr c24
                    clear c24
                    (first | rw [c24b0] | (simp only [i64_w, i32_w]; rw [c24b0]) | skip)
                    by_cases c25 : t204.toList = a2.toList
                    · rw [if_pos c25] at H
                      have c25b0 : (t204.toList == a2.toList) = true := beq_iff_eq.mpr c25
                      have c25b1 : (t204.toList != a2.toList) = false := bne_eq_false_iff_eq.mpr c25
                      clear c25
                      by_cases c26 : t196 = (wrap64 ((y192.length : Int) - (l3.length : Int)))
                      · rw [if_pos c26] at H
                        have c26b0 : (t196 == (wrap64 ((y192.length : Int) - (l3.length : Int)))) = true := beq_iff_eq.mpr c26
                        have c26b1 : (t196 != (wrap64 ((y192.length : Int) - (l3.length : Int)))) = false := bne_eq_false_iff_eq.mpr c26
                        clear c26
                        have H' := Aside0.mk H
                        clear H
                        go_wp2
                        go_meet
                        case rel => exact ⟨_, ((t205 != (wrap64 ((y201.length : Int) - (l3.length : Int))))), (by first | rfl | (simp; done) | (simp [*]; done)), H', ⟨by have := HJ5.out; first | omega | exact Nat.le_refl _⟩, ⟨by repeat (first | (with_reducible first | exact HB.out | apply below_alloc | apply pw_below_drewN | apply below_drew1) | exact HB.out)⟩⟩
                      · rw [if_neg c26] at H
                        have c26b0 : (t196 == (wrap64 ((y192.length : Int) - (l3.length : Int)))) = false := beq_eq_false_iff_ne.mpr c26
                        have c26b1 : (t196 != (wrap64 ((y192.length : Int) - (l3.length : Int)))) = true := bne_iff_ne.mpr c26
                        have H' := Aside0.mk H
                        clear H
                        go_wp2
                        go_meet
                        case rel => exact ⟨_, (true), (by first | rfl | (simp; done) | (simp [*]; done)), H', ⟨by have := HJ5.out; first | omega | exact Nat.le_refl _⟩, ⟨by repeat (first | (with_reducible first | exact HB.out | apply below_alloc | apply pw_below_drewN | apply below_drew1) | exact HB.out)⟩⟩
                    · rw [if_neg c25] at H
                      have c25b0 : (t204.toList == a2.toList) = false := beq_eq_false_iff_ne.mpr c25
                      have c25b1 : (t204.toList != a2.toList) = true := bne_iff_ne.mpr c25
                      have H' := Aside0.mk H
                      clear H
                      go_wp2
                      go_meet
                      case rel => exact ⟨_, (true), (by first | rfl | (simp; done) | (simp [*]; done)), H', ⟨by have := HJ5.out; first | omega | exact Nat.le_refl _⟩, ⟨by repeat (first | (with_reducible first | exact HB.out | apply below_alloc | apply pw_below_drewN | apply below_drew1) | exact HB.out)⟩⟩
                  · rw [if_neg c24] at H
                    have c24b0 : (t195 == a1) = false := beq_eq_false_iff_ne.mpr c24
                    have c24b1 : (t195 != a1) = true := bne_iff_ne.mpr c24
                    (first | rw [c24b0] | (simp only [i64_w, i32_w]; rw [c24b0]) | skip)
                    have H' := Aside0.mk H
                    clear H
                    go_wp2
                    go_meet
                    case rel => exact ⟨_, (true), (by first | rfl | (simp; done) | (simp [*]; done)), H', ⟨by have := HJ5.out; first | omega | exact Nat.le_refl _⟩, ⟨by repeat (first | (with_reducible first | exact HB.out | apply below_alloc | apply pw_below_drewN | apply below_drew1) | exact HB.out)⟩⟩
                · have H1 : (becketlaw01_WireBack.j1 kj5 l3 t188 true) = some r := by rw [if_neg (show ¬ (some q208).isNone = true by simp)] at H; exact H
                  clear H
                  have H := H1
                  clear H1
                  try simp only [errW_none, errW_some]
                  have H' := Aside0.mk H
                  clear H
                  go_wp2
                  go_meet
                  case rel => exact ⟨_, (true), (by first | rfl | (simp; done) | (simp [*]; done)), H', ⟨by have := HJ5.out; first | omega | exact Nat.le_refl _⟩, ⟨by repeat (first | (with_reducible first | exact HB.out | apply below_alloc | apply pw_below_drewN | apply below_drew1) | exact HB.out)⟩⟩
              · have H1 : (becketlaw01_WireBack.j1 kj5 l3 t188 true) = some r := by rw [if_neg (show ¬ (some q207).isNone = true by simp)] at H; exact H
                clear H
                have H := H1
                clear H1
                try simp only [errW_none, errW_some]
                have H' := Aside0.mk H
                clear H
                go_wp2
                go_meet
                case rel => exact ⟨_, (true), (by first | rfl | (simp; done) | (simp [*]; done)), H', ⟨by have := HJ5.out; first | omega | exact Nat.le_refl _⟩, ⟨by repeat (first | (with_reducible first | exact HB.out | apply below_alloc | apply pw_below_drewN | apply below_drew1) | exact HB.out)⟩⟩
            case rest =>
              clear HC17
              try clear c1
              try clear c2
              try clear p2
              try clear q2
              try clear c3
              try clear p6
              try clear c8
              try clear c8b0
              try clear c8b1
              try clear c9
              try clear c9b0
              try clear c9b1
              try clear c10
              try clear c11
              try clear c12
              try clear c15
              try clear q20
              try clear c24
              try clear c24b0
              try clear c24b1
              try clear c25
              try clear c25b0
              try clear c25b1
              try clear c26
              try clear c26b0
              try clear c26b1
              try clear p2
              try clear q207
              try clear q208
              obtain ⟨kq, x95_16, rfl, HA, HJ16, HB⟩ := hcut
              cases kq with
              | zero => exact absurd HA.out (by simp [becketlaw01_WireBack.j1])
              | succ kj16 =>
                have H := HA.out
                clear HA
                simp only [becketlaw01_WireBack.j1] at H
                by_cases c27 : x95_16 = true
                · subst c27
                  have H1 : (some false) = some r := by first | (rw [if_pos rfl] at H; with_reducible exact H) | exact (if_pos rfl).symm.trans H | (simp only [if_true, eq_self_iff_true] at H ⊢; exact H)
                  clear H
                  have H := H1
                  clear H1
                  obtain rfl := Option.some.inj H
                  go_wp2
                  go_ret
                  exact ⟨by first | rfl | (simp [errW_none, errW_some] <;> rfl) | (simp [*, errW_none, errW_some] <;> rfl), by repeat (first | (with_reducible first | exact HB.out | apply below_alloc | apply pw_below_drewN | apply below_drew1) | exact HB.out)⟩
                · replace c27 := Bool.eq_false_iff.mpr c27
                  subst c27
                  have H1 : ((wire_GetNum.f kj16 l3 0 18446744073709551615).bind fun bt209 => (if bt209.2.2.isNone = true then (if t188 = true then ((wire_Num.f kj16 ([] : List Int) bt209.1).bind fun t213 => (if 0 ≤ bt209.2.1 then (if bt209.2.1 ≤ (l3.length : Int) then (some ((strOfNums t213).toList == (strOfNums (l3.take (bt209.2.1 : Int).toNat)).toList)) else (none)) else (none))) else (some false)) else (some t188))) = some r := by rw [if_neg (show ¬ (false = true) by decide)] at H; exact H
                  clear H
                  have H := H1
                  clear H1
                  replace H := Option.bind_eq_some_iff.mp H
                  obtain ⟨⟨t209, t210, t211⟩, A280, H⟩ := H
                  replace H : (if t211.isNone = true then (if t188 = true then ((wire_Num.f kj16 ([] : List Int) t209).bind fun t213 => (if 0 ≤ t210 then (if t210 ≤ (l3.length : Int) then (some ((strOfNums t213).toList == (strOfNums (l3.take (t210 : Int).toNat)).toList)) else (none)) else (none))) else (some false)) else (some t188)) = some r := H
                  have A28 := Aside0.mk A280
                  clear A280
                  rcases t211 with _ | q212
                  · have H1 : (if t188 = true then ((wire_Num.f kj16 ([] : List Int) t209).bind fun t213 => (if 0 ≤ t210 then (if t210 ≤ (l3.length : Int) then (some ((strOfNums t213).toList == (strOfNums (l3.take (t210 : Int).toNat)).toList)) else (none)) else (none))) else (some false)) = some r := by rw [if_pos (show (none : Option Int).isNone = true by rfl)] at H; exact H
                    clear H
                    have H := H1
                    clear H1
                    try simp only [errW_none, errW_some]
                    by_cases c29 : t188 = true
                    · subst c29
                      have H1 : ((wire_Num.f kj16 ([] : List Int) t209).bind fun t213 => (if 0 ≤ t210 then (if t210 ≤ (l3.length : Int) then (some ((strOfNums t213).toList == (strOfNums (l3.take (t210 : Int).toNat)).toList)) else (none)) else (none))) = some r := by first | (rw [if_pos rfl] at H; with_reducible exact H) | exact (if_pos rfl).symm.trans H | (simp only [if_true, eq_self_iff_true] at H ⊢; exact H)
                      clear H
                      have H := H1
                      clear H1
                      replace H := Option.bind_eq_some_iff.mp H
                      obtain ⟨t213, A300, H⟩ := H
                      replace H : (if 0 ≤ t210 then (if t210 ≤ (l3.length : Int) then (some ((strOfNums t213).toList == (strOfNums (l3.take (t210 : Int).toNat)).toList)) else (none)) else (none)) = some r := H
                      have A30 := Aside0.mk A300
                      clear A300
                      by_cases c31 : 0 ≤ t210
                      · rw [if_pos c31] at H
                        have c31b0 := eq_true c31
                        have c31b1 : decide (0 ≤ t210) = true := decide_eq_true c31
                        clear c31
                        by_cases c32 : t210 ≤ (l3.length : Int)
                        · rw [if_pos c32] at H
                          have c32b0 := eq_true c32
                          have c32b1 : decide (t210 ≤ (l3.length : Int)) = true := decide_eq_true c32
                          clear c32
                          obtain rfl := Option.some.inj H
                          try go_wp2_with (first | ((with_reducible refine gate_callee (f := 32) rfl ?_); refine goesL_ (some 98) rfl rfl Try.func32 (by kernel_rfl) rfl #[.slice A3 l3.length c3, .int .i64 0, .int .u64 18446744073709551615] rfl (by (try simp only [List.map_toArray, List.map_cons, List.map_nil]); first | done | rfl | (simp only [List.length_drop, List.length_take]; rfl)) ?_; (with_reducible refine (wire_GetNum.calls kj16 _ _ l3 0 18446744073709551615 t209 t210 none _ ?side1 ?side2 A28.out).mono ?_); (case side1 => repeat (first | exact (Kd.C_below HR3.out HB.out) | (with_reducible refine Kd.C_alloc ?_ _) | (with_reducible refine Kd.C_drewN ?_ _) | (with_reducible refine Kd.C_drew ?_))); (case side2 => exact HC3.out); rintro e w' ⟨rfl, ⟨nd, rfl⟩⟩; refine ⟨_, rfl, ?_⟩; (try simp only [errW_none, errW_some])))
                          (try (rw [drewN_self wc]; generalize hq_ : World.drewN wc _ = wc; have n0_ : Aside0 (Below w.heap.size w wc) := ⟨by rw [← hq_]; exact (by repeat (first | (with_reducible first | exact HB.out | apply below_alloc | apply pw_below_drewN | apply below_drew1) | exact HB.out))⟩; clear HB hq_; have HB := n0_; clear n0_))
                          have n0_ := Aside0.mk (below_drew1 HB.out)
                          clear HB
                          have HB := n0_
                          clear n0_
                          obtain ⟨i034, hi034, _, hsz34, _⟩ := info_parts info5
                          obtain ⟨hcut34, hA34, hC34⟩ := print_take_of (P := Try.prog) (Value.int .u8) 0 29 5 .i64 Try.underlying29 hi034 hsz34 A3 c3 l3 t210 (of_decide_eq_true (by first | (with_reducible assumption) | assumption)) (of_decide_eq_true (by first | (with_reducible assumption) | assumption)) HC3.out
                          have HR216 := Aside0.mk (Kd.C_of_reads (h1 := fun _ => rfl) (hA34 _ (Kd.reads_of_C HR3.out)))
                          have HC216 := Aside0.mk hC34
                          clear hA34 hC34 hi034 hsz34
                          refine start_ (n := 12) (S := fun w' => (convert 29 9 (.slice A3 (t210 : Int).toNat c3)).run Try.prog w' = .ok (.string (strOfNums (l3.take (t210 : Int).toNat))) w') (ds := []) #[false, false, false, false, false, false, false, false, false, false, false, false] (by kernel_rfl) rfl rfl ((by have q_ := (Kd.C_string (P := Try.prog) (A := A3) (c := c3) Try.underlying29 Try.underlying5 Try.underlying9 (Kd.C_below HR216.out HB.out)); rw [List.length_take, Nat.min_eq_left (by have z_ := of_decide_eq_true (by assumption : decide (t210 ≤ (l3.length : Int)) = true); omega)] at q_; exact q_)) (fun hHeld => ?_); refine with_tabW becketlaw01_WireBack.tab13 becketlaw01_WireBack.bits13 (fun HT_ HW_ => ?_)
                          generalize wc.drew = w33 at HB HR216 hHeld ⊢
                          refine pure_ (i := 0) (N := some 105) (v := ?_) (a' := ?_) #[true, false, false, false, false, false, false, false, false, false, false, false] rfl rfl (any_of HT_.out (by kernel_rfl)) (fun _ _ _ h => h) (Or.inl ⟨by rfl, ?_⟩) ?_ ?_
                          rotate_left
                          · intro w'
                            go_simp
                            with_reducible rfl
                          rotate_left
                          · simp only [Act.put, List.setIfInBounds_toArray, List.set_cons_zero, List.set_cons_succ, i64_w, i32_w]
                            rfl
                          refine pure_ (i := 1) (N := some 106) (v := ?_) (a' := ?_) #[true, true, false, false, false, false, false, false, false, false, false, false] rfl rfl (any_of HT_.out (by kernel_rfl)) (fun _ _ _ h => h) (Or.inl ⟨by rfl, ?_⟩) ?_ ?_
                          rotate_left
                          · intro w'
                            go_simp
                            with_reducible rfl
                          rotate_left
                          · simp only [Act.put, List.setIfInBounds_toArray, List.set_cons_zero, List.set_cons_succ, i64_w, i32_w]
                            rfl
                          refine pure_ (i := 2) (N := some 107) (v := ?_) (a' := ?_) #[true, true, true, false, false, false, false, false, false, false, false, false] rfl rfl (any_of HT_.out (by kernel_rfl)) (fun _ _ _ h => h) (Or.inl ⟨by rfl, ?_⟩) ?_ ?_
                          rotate_left
                          · intro w'
                            go_simp
                            with_reducible rfl
                          rotate_left
                          · simp only [Act.put, List.setIfInBounds_toArray, List.set_cons_zero, List.set_cons_succ, i64_w, i32_w]
                            rfl
                          refine pure_ (i := 5) (N := some 110) (v := ?_) (a' := ?_) #[true, true, true, false, false, true, false, false, false, false, false, false] rfl rfl (any_of HT_.out (by kernel_rfl)) (fun _ _ _ h => h) (Or.inl ⟨by rfl, ?_⟩) ?_ ?_
                          rotate_left
                          · intro w'
                            go_simp
                            with_reducible rfl
                          rotate_left
                          · simp only [Act.put, List.setIfInBounds_toArray, List.set_cons_zero, List.set_cons_succ, i64_w, i32_w]
                            rfl
                          refine pure_ (i := 6) (N := some 111) (v := ?_) (a' := ?_) #[true, true, true, false, false, true, true, false, false, false, false, false] rfl rfl (any_of HT_.out (by kernel_rfl)) (fun _ _ _ h => h) (Or.inl ⟨by rfl, ?_⟩) ?_ ?_
                          rotate_left
                          · intro w'
                            go_simp
                            with_reducible rfl
                          rotate_left
                          · simp only [Act.put, List.setIfInBounds_toArray, List.set_cons_zero, List.set_cons_succ, i64_w, i32_w]
                            rfl
                          refine pure_ (i := 7) (N := some 112) (v := ?_) (a' := ?_) #[true, true, true, false, false, true, true, true, false, false, false, false] rfl rfl (any_of HT_.out (by kernel_rfl)) (fun _ _ _ h => h) (Or.inl ⟨by rfl, ?_⟩) ?_ ?_
                          rotate_left
                          · intro w'
                            go_simp
                            with_reducible rfl
                          rotate_left
                          · simp only [Act.put, List.setIfInBounds_toArray, List.set_cons_zero, List.set_cons_succ, i64_w, i32_w]
                            rfl
                          refine take_ (i := 8) (N := some 113) (v := ?_) (a' := ?_) #[true, true, true, false, false, true, true, true, true, false, false, false] rfl rfl (take_ofW HT_.out HW_.out (by kernel_rfl)) (fun _ _ _ h => h) (Or.inl ⟨by rfl, ?_⟩) hHeld ?_ ?_
                          rotate_left
                          · intro w' s0
                            go_simp
                            with_reducible rfl
                          rotate_left
                          · simp only [Act.put, List.setIfInBounds_toArray, List.set_cons_zero, List.set_cons_succ, i64_w, i32_w]
                            rfl
                          refine one_ (i := 3) (N := some 108) #[true, true, true, true, false, true, true, true, true, false, false, false] rfl rfl (one_of HT_.out (by kernel_rfl)) (by decide) (fun K hK => ?_)
                          refine goes_ Try.func28 (by kernel_rfl) rfl #[.slice none 0 0, .int .u64 t209] (by rfl) rfl rfl (by (try simp only [List.map_toArray, List.map_cons, List.map_nil]); first | done | rfl | (simp only [List.length_drop, List.length_take]; rfl)) ?_
                          refine (wire_Num.calls kj16 _ _ ([] : List Int) t209 t213 _ ?side1 ?side2 A30.out).mono ?_
                          (case side1 => exact Kd.C_nil _ _)
                          (case side2 => exact Nat.le_refl _)
                          rintro e w35 ⟨v214, rfl, ho0, hb⟩
                          refine ⟨_, rfl, ?_⟩
                          have n0_ := Aside0.mk (Kd.R_lower ho0 (below_size (by repeat (first | (with_reducible first | exact HB.out | apply below_alloc | apply pw_below_drewN | apply below_drew1) | exact HB.out))))
                          have n1_ := Aside0.mk (below_step (by repeat (first | (with_reducible first | exact HB.out | apply below_alloc | apply pw_below_drewN | apply below_drew1) | exact HB.out)) hb)
                          clear HB
                          have HO215 := n0_
                          have HB := n1_
                          clear n0_ n1_
                          (try clear hb)
                          (try clear hb2)
                          (try clear hk)
                          (try clear hi)
                          (try clear ho0)
                          refine hK.out _ _ ((by have q_ := (Kd.C_string (P := Try.prog) (A := A3) (c := c3) Try.underlying29 Try.underlying5 Try.underlying9 (Kd.C_below HR216.out HB.out)); rw [List.length_take, Nat.min_eq_left (by have z_ := of_decide_eq_true (by assumption : decide (t210 ≤ (l3.length : Int)) = true); omega)] at q_; exact q_)) (fun hHeld => ?_)
                          clear hK K
                          refine norm_ (a' := ?_) ?_ ?_
                          rotate_left
                          · show Act.put _ (some 108) _ = _
                            simp only [Act.put, List.setIfInBounds_toArray, List.set_cons_zero, List.set_cons_succ, i64_w, i32_w]
                            rfl
                          refine one_ (i := 4) (N := some 109) #[true, true, true, true, true, true, true, true, true, false, false, false] rfl rfl (one_of HT_.out (by kernel_rfl)) (by decide) (fun K hK => ?_)
                          have hcv36 := own_string (P := Try.prog) Try.underlying29 Try.underlying5 Try.underlying9 (Kd.own_of_R HO215.out)
                          refine value_ (w1 := ?_) (v := ?_) (by rfl) rfl ?_ ?_
                          rotate_left 2
                          · go_simp
                            constructor
                            · rfl
                            · rfl
                          clear hcv36
                          refine hK.out _ _ ((by have q_ := (Kd.C_string (P := Try.prog) (A := A3) (c := c3) Try.underlying29 Try.underlying5 Try.underlying9 (Kd.C_below HR216.out HB.out)); rw [List.length_take, Nat.min_eq_left (by have z_ := of_decide_eq_true (by assumption : decide (t210 ≤ (l3.length : Int)) = true); omega)] at q_; exact q_)) (fun hHeld => ?_)
                          clear hK K
                          refine norm_ (a' := ?_) ?_ ?_
                          rotate_left
                          · show Act.put _ (some 109) _ = _
                            simp only [Act.put, List.setIfInBounds_toArray, List.set_cons_zero, List.set_cons_succ, i64_w, i32_w]
                            rfl
                          refine pure_ (i := 9) (N := some 114) (v := ?_) (a' := ?_) #[true, true, true, true, true, true, true, true, true, true, false, false] rfl rfl (any_of HT_.out (by kernel_rfl)) (fun _ _ _ h => h) (Or.inl ⟨by rfl, ?_⟩) ?_ ?_
                          rotate_left
                          · intro w'
                            go_simp
                            with_reducible rfl
                          rotate_left
                          · simp only [Act.put, List.setIfInBounds_toArray, List.set_cons_zero, List.set_cons_succ, i64_w, i32_w]
                            rfl
                          refine pure_ (i := 10) (N := some 115) (v := ?_) (a' := ?_) #[true, true, true, true, true, true, true, true, true, true, true, false] rfl rfl (any_of HT_.out (by kernel_rfl)) (fun _ _ _ h => h) (Or.inl ⟨by rfl, ?_⟩) ?_ ?_
                          rotate_left
                          · intro w'
                            go_simp
                            with_reducible rfl
                          rotate_left
                          · simp only [Act.put, List.setIfInBounds_toArray, List.set_cons_zero, List.set_cons_succ, i64_w, i32_w]
                            rfl
                          refine pure_ (i := 11) (N := some 8) (v := ?_) (a' := ?_) #[true, true, true, true, true, true, true, true, true, true, true, true] rfl rfl (any_of HT_.out (by kernel_rfl)) (fun _ _ _ h => h) (Or.inl ⟨by rfl, ?_⟩) ?_ ?_
                          rotate_left
                          · intro w'
                            go_simp
                            with_reducible rfl
                          rotate_left
                          · simp only [Act.put, List.setIfInBounds_toArray, List.set_cons_zero, List.set_cons_succ, i64_w, i32_w]
                            rfl
                          refine done_ (done_of HT_.out (by kernel_rfl)) ?_
                          try go_wp2
                          go_ret
                          exact ⟨by first | rfl | (simp [errW_none, errW_some] <;> rfl) | (simp [*, errW_none, errW_some] <;> rfl), by repeat (first | (with_reducible first | exact HB.out | apply below_alloc | apply pw_below_drewN | apply below_drew1) | exact HB.out)⟩
                        · rw [if_neg c32] at H
                          exact absurd H (by simp)
                      · rw [if_neg c31] at H
                        exact absurd H (by simp)
                    · replace c29 := Bool.eq_false_iff.mpr c29
                      subst c29
                      have H1 : (some false) = some r := by rw [if_neg (show ¬ (false = true) by decide)] at H; exact H
                      clear H
                      have H := H1
                      clear H1
                      obtain rfl := Option.some.inj H
                      try go_wp2_with (first | ((with_reducible refine gate_callee (f := 32) rfl ?_); refine goesL_ (some 98) rfl rfl Try.func32 (by kernel_rfl) rfl #[.slice A3 l3.length c3, .int .i64 0, .int .u64 18446744073709551615] rfl (by (try simp only [List.map_toArray, List.map_cons, List.map_nil]); first | done | rfl | (simp only [List.length_drop, List.length_take]; rfl)) ?_; (with_reducible refine (wire_GetNum.calls kj16 _ _ l3 0 18446744073709551615 t209 t210 none _ ?side1 ?side2 A28.out).mono ?_); (case side1 => repeat (first | exact (Kd.C_below HR3.out HB.out) | (with_reducible refine Kd.C_alloc ?_ _) | (with_reducible refine Kd.C_drewN ?_ _) | (with_reducible refine Kd.C_drew ?_))); (case side2 => exact HC3.out); rintro e w' ⟨rfl, ⟨nd, rfl⟩⟩; refine ⟨_, rfl, ?_⟩; (try simp only [errW_none, errW_some])))
                      (try (rw [drewN_self wc]; generalize hq_ : World.drewN wc _ = wc; have n0_ : Aside0 (Below w.heap.size w wc) := ⟨by rw [← hq_]; exact (by repeat (first | (with_reducible first | exact HB.out | apply below_alloc | apply pw_below_drewN | apply below_drew1) | exact HB.out))⟩; clear HB hq_; have HB := n0_; clear n0_))
                      have n0_ := Aside0.mk (below_drew1 HB.out)
                      clear HB
                      have HB := n0_
                      clear n0_
                      refine start_ (n := 12) (S := fun w' => True) (ds := []) #[false, false, false, false, false, false, false, false, false, false, false, false] (by kernel_rfl) rfl rfl trivial (fun hHeld => ?_); refine with_tabW becketlaw01_WireBack.tab13 becketlaw01_WireBack.bits13 (fun HT_ HW_ => ?_)
                      generalize wc.drew = w38 at HB hHeld ⊢
                      refine pure_ (i := 0) (N := some 105) (v := ?_) (a' := ?_) #[true, false, false, false, false, false, false, false, false, false, false, false] rfl rfl (any_of HT_.out (by kernel_rfl)) (fun _ _ _ h => h) (Or.inl ⟨by rfl, ?_⟩) ?_ ?_
                      rotate_left
                      · intro w'
                        go_simp
                        with_reducible rfl
                      rotate_left
                      · simp only [Act.put, List.setIfInBounds_toArray, List.set_cons_zero, List.set_cons_succ, i64_w, i32_w]
                        rfl
                      refine pure_ (i := 1) (N := some 106) (v := ?_) (a' := ?_) #[true, true, false, false, false, false, false, false, false, false, false, false] rfl rfl (any_of HT_.out (by kernel_rfl)) (fun _ _ _ h => h) (Or.inl ⟨by rfl, ?_⟩) ?_ ?_
                      rotate_left
                      · intro w'
                        go_simp
                        with_reducible rfl
                      rotate_left
                      · simp only [Act.put, List.setIfInBounds_toArray, List.set_cons_zero, List.set_cons_succ, i64_w, i32_w]
                        rfl
                      refine pure_ (i := 2) (N := some 107) (v := undef) (a' := ?_) #[true, true, true, false, false, false, false, false, false, false, false, false] rfl rfl (any_of HT_.out (by kernel_rfl)) (fun _ _ _ h => h) (Or.inr ⟨by rfl, rfl⟩) ?_ ?_
                      rotate_left
                      · simp only [Act.put, List.setIfInBounds_toArray, List.set_cons_zero, List.set_cons_succ, i64_w, i32_w]
                        rfl
                      refine pure_ (i := 3) (N := some 108) (v := undef) (a' := ?_) #[true, true, true, true, false, false, false, false, false, false, false, false] rfl rfl (any_of HT_.out (by kernel_rfl)) (fun _ _ _ h => h) (Or.inr ⟨by rfl, rfl⟩) ?_ ?_
                      rotate_left
                      · simp only [Act.put, List.setIfInBounds_toArray, List.set_cons_zero, List.set_cons_succ, i64_w, i32_w]
                        rfl
                      refine pure_ (i := 4) (N := some 109) (v := undef) (a' := ?_) #[true, true, true, true, true, false, false, false, false, false, false, false] rfl rfl (any_of HT_.out (by kernel_rfl)) (fun _ _ _ h => h) (Or.inr ⟨by rfl, rfl⟩) ?_ ?_
                      rotate_left
                      · simp only [Act.put, List.setIfInBounds_toArray, List.set_cons_zero, List.set_cons_succ, i64_w, i32_w]
                        rfl
                      refine pure_ (i := 5) (N := some 110) (v := undef) (a' := ?_) #[true, true, true, true, true, true, false, false, false, false, false, false] rfl rfl (any_of HT_.out (by kernel_rfl)) (fun _ _ _ h => h) (Or.inr ⟨by rfl, rfl⟩) ?_ ?_
                      rotate_left
                      · simp only [Act.put, List.setIfInBounds_toArray, List.set_cons_zero, List.set_cons_succ, i64_w, i32_w]
                        rfl
                      refine pure_ (i := 6) (N := some 111) (v := undef) (a' := ?_) #[true, true, true, true, true, true, true, false, false, false, false, false] rfl rfl (any_of HT_.out (by kernel_rfl)) (fun _ _ _ h => h) (Or.inr ⟨by rfl, rfl⟩) ?_ ?_
                      rotate_left
                      · simp only [Act.put, List.setIfInBounds_toArray, List.set_cons_zero, List.set_cons_succ, i64_w, i32_w]
                        rfl
                      refine pure_ (i := 7) (N := some 112) (v := undef) (a' := ?_) #[true, true, true, true, true, true, true, true, false, false, false, false] rfl rfl (any_of HT_.out (by kernel_rfl)) (fun _ _ _ h => h) (Or.inr ⟨by rfl, rfl⟩) ?_ ?_
                      rotate_left
                      · simp only [Act.put, List.setIfInBounds_toArray, List.set_cons_zero, List.set_cons_succ, i64_w, i32_w]
                        rfl
                      refine pure_ (i := 8) (N := some 113) (v := undef) (a' := ?_) #[true, true, true, true, true, true, true, true, true, false, false, false] rfl rfl (any_of HT_.out (by kernel_rfl)) (fun _ _ _ h => h) (Or.inr ⟨by rfl, rfl⟩) ?_ ?_
                      rotate_left
                      · simp only [Act.put, List.setIfInBounds_toArray, List.set_cons_zero, List.set_cons_succ, i64_w, i32_w]
                        rfl
                      refine pure_ (i := 9) (N := some 114) (v := undef) (a' := ?_) #[true, true, true, true, true, true, true, true, true, true, false, false] rfl rfl (any_of HT_.out (by kernel_rfl)) (fun _ _ _ h => h) (Or.inr ⟨by rfl, rfl⟩) ?_ ?_
                      rotate_left
                      · simp only [Act.put, List.setIfInBounds_toArray, List.set_cons_zero, List.set_cons_succ, i64_w, i32_w]
                        rfl
                      refine pure_ (i := 10) (N := some 115) (v := ?_) (a' := ?_) #[true, true, true, true, true, true, true, true, true, true, true, false] rfl rfl (any_of HT_.out (by kernel_rfl)) (fun _ _ _ h => h) (Or.inl ⟨by rfl, ?_⟩) ?_ ?_
                      rotate_left
                      · intro w'
                        go_simp
                        with_reducible rfl
                      rotate_left
                      · simp only [Act.put, List.setIfInBounds_toArray, List.set_cons_zero, List.set_cons_succ, i64_w, i32_w]
                        rfl
                      refine pure_ (i := 11) (N := some 8) (v := ?_) (a' := ?_) #[true, true, true, true, true, true, true, true, true, true, true, true] rfl rfl (any_of HT_.out (by kernel_rfl)) (fun _ _ _ h => h) (Or.inl ⟨by rfl, ?_⟩) ?_ ?_
                      rotate_left
                      · intro w'
                        go_simp
                        with_reducible rfl
                      rotate_left
                      · simp only [Act.put, List.setIfInBounds_toArray, List.set_cons_zero, List.set_cons_succ, i64_w, i32_w]
                        rfl
                      refine done_ (done_of HT_.out (by kernel_rfl)) ?_
                      try go_wp2
                      go_ret
                      exact ⟨by first | rfl | (simp [errW_none, errW_some] <;> rfl) | (simp [*, errW_none, errW_some] <;> rfl), by repeat (first | (with_reducible first | exact HB.out | apply below_alloc | apply pw_below_drewN | apply below_drew1) | exact HB.out)⟩
                  · have H1 : (some t188) = some r := by rw [if_neg (show ¬ (some q212).isNone = true by simp)] at H; exact H
                    clear H
                    have H := H1
                    clear H1
                    try simp only [errW_none, errW_some]
                    obtain rfl := Option.some.inj H
                    go_wp2_with (first | ((with_reducible refine gate_callee (f := 32) rfl ?_); refine goesL_ (some 98) rfl rfl Try.func32 (by kernel_rfl) rfl #[.slice A3 l3.length c3, .int .i64 0, .int .u64 18446744073709551615] rfl (by (try simp only [List.map_toArray, List.map_cons, List.map_nil]); first | done | rfl | (simp only [List.length_drop, List.length_take]; rfl)) ?_; (with_reducible refine (wire_GetNum.calls kj16 _ _ l3 0 18446744073709551615 t209 t210 (some q212) _ ?side1 ?side2 A28.out).mono ?_); (case side1 => repeat (first | exact (Kd.C_below HR3.out HB.out) | (with_reducible refine Kd.C_alloc ?_ _) | (with_reducible refine Kd.C_drewN ?_ _) | (with_reducible refine Kd.C_drew ?_))); (case side2 => exact HC3.out); rintro e w' ⟨rfl, ⟨nd, rfl⟩⟩; refine ⟨_, rfl, ?_⟩; (try simp only [errW_none, errW_some])))
                    go_ret
                    exact ⟨by first | rfl | (simp [errW_none, errW_some] <;> rfl) | (simp [*, errW_none, errW_some] <;> rfl), by repeat (first | (with_reducible first | exact HB.out | apply below_alloc | apply pw_below_drewN | apply below_drew1) | exact HB.out)⟩
          · rw [if_neg c15] at H
            exact absurd H (by simp)
        · rw [if_neg c12] at H
          exact absurd H (by simp)

/-- THE ONE PURE STATEMENT of becketlaw01_WireBack: yours. -/
def becketlaw01_WireBack.Pure : Prop := ∀ (l0 : List Int) (a1 : Int) (a2 : ByteArray) (l3 : List Int), l0.length ≤ maxLen → l0.length * 1 ≤ 140737488351232 → (∀ x ∈ l0, (Lit.int .u8 x).wf = true) → (Lit.int .u64 a1).wf = true → a2.size ≤ 140737488351232 → l3.length ≤ maxLen → l3.length * 1 ≤ 140737488351232 → (∀ x ∈ l3, (Lit.int .u8 x).wf = true) → ∃ k, becketlaw01_WireBack.f k l0 a1 a2 l3 = some true
theorem becketlaw01_WireBack.walk (P : becketlaw01_WireBack.Pure) (a0 : Option Addr) (len0 cap0 : Nat) (z0 : List Int) (a1 : Int) (a2 : ByteArray) (a3 : Option Addr) (len3 cap3 : Nat) (z3 : List Int) (w : World) (w0 : (a0 = none ∧ len0 = 0 ∧ cap0 = 0 ∧ z0 = []) ∨ ∃ x, a0 = some x ∧ len0 ≤ cap0 ∧ cap0 ≤ maxLen ∧ z0.length = cap0 ∧ (∀ i, i < z0.length → w.cell? (x.add i) = some (.int .u8 (z0.getD i 0))) ∧ ∀ n ∈ z0, (Lit.int .u8 n).wf = true) (y0 : len0 * 1 ≤ 140737488351232) (w1 : (Lit.int .u64 a1).wf = true) (w2 : a2.size ≤ 140737488351232) (w3 : (a3 = none ∧ len3 = 0 ∧ cap3 = 0 ∧ z3 = []) ∨ ∃ x, a3 = some x ∧ len3 ≤ cap3 ∧ cap3 ≤ maxLen ∧ z3.length = cap3 ∧ (∀ i, i < z3.length → w.cell? (x.add i) = some (.int .u8 (z3.getD i 0))) ∧ ∀ n ∈ z3, (Lit.int .u8 n).wf = true) (y3 : len3 * 1 ≤ 140737488351232) :
    Calls Try.prog 11 #[.slice a0 len0 cap0, .int .u64 a1, .string a2, .slice a3 len3 cap3] w fun e w' => e = .returned (.bool true) ∧ Below w.heap.size w w' := by
  obtain ⟨l0, rfl, hr0, hm0, hw0, hc0⟩ := ReadsInt.ofRowC w0
  obtain ⟨l3, rfl, hr3, hm3, hw3, hc3⟩ := ReadsInt.ofRowC w3
  obtain ⟨k, h⟩ := P l0 a1 a2 l3 hm0 y0 hw0 w1 w2 hm3 y3 hw3
  refine (becketlaw01_WireBack.calls k _ _ l0 a1 a2 _ _ l3 true w (Kd.C_of_reads (d := (0 : Int)) (h1 := fun _ => rfl) hr0) hc0 (Kd.C_of_reads (d := (0 : Int)) (h1 := fun _ => rfl) hr3) hc3 h).mono ?_
  rintro e w' ⟨rfl, hd⟩
  exact ⟨rfl, hd⟩

end Go.Proofs.Ytnjikdaicogdgaa.La
