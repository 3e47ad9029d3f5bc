-- Out of the translation, by a program of this session (wip/myprint.py, over the kit's printer). Lean checks it.
import Derived.Test.YtfneogaclbammaaDoorRox0
import Derived.Test.YtfneogaclbammaaDoorRox1
import Derived.Test.YtfneogaclbammaaDoorRox4
import Derived.Test.YtfneogaclbammaaDoorRox5
namespace Go.Proofs.YtfneogaclbammaaDoor.Ro
open Go.RowKit Go.Proofs.YtfneogaclbammaaDoorW.PrintWords Go.Proofs.YtfneogaclbammaaDoorW.PrintLast Go.Proofs.YtfneogaclbammaaDoorW.PrintMore
attribute [local go_sem] max2_int min2_int max_two min_two max_three min_three max_four min_four   -- for this text's walks alone
set_option linter.unusedVariables false
set_option linter.unusedSimpArgs false

attribute [local go_sem] eqlErr neqErr eqlErrNil neqErrNil
/-! ### becketlaw02_RouteBack: function 6 -/
mutual
def becketlaw02_RouteBack.j0 : Nat → ByteArray → ByteArray → ByteArray → Bool → Bool → Option (Bool)
  | 0, _, _, _, _, _ => none
  | k + 1, x0, x1, x2, x7, x26 => if x26 = true then (some x7) else ((route_Parts.f x0).bind fun bt185 => (if bt185.2.isNone = true then ((route_Join.f bt185.1).bind fun bt190 => (if bt190.2.isNone = true then (becketlaw02_RouteBack.j1 k x0 x1 x2 x7 bt185.1 (bt190.1.toList != x0.toList)) else (becketlaw02_RouteBack.j1 k x0 x1 x2 x7 bt185.1 true))) else ((route_Under.f x0 x1).bind fun t202 => (if t202 = true then ((route_Under.f x1 x2).bind fun t203 => (if t203 = true then ((route_Under.f x0 x2).bind fun t204 => (becketlaw02_RouteBack.j4 k x0 x1 x7 (!t204))) else (becketlaw02_RouteBack.j4 k x0 x1 x7 false))) else (becketlaw02_RouteBack.j4 k x0 x1 x7 false)))))
def becketlaw02_RouteBack.j2 : Nat → ByteArray → ByteArray → ByteArray → Bool → Option (Bool)
  | 0, _, _, _, _ => none
  | k + 1, x0, x1, x2, x7 => (route_Under.f x0 x1).bind fun t195 => (if t195 = true then ((route_Under.f x1 x2).bind fun t196 => (if t196 = true then ((route_Under.f x0 x2).bind fun t197 => (becketlaw02_RouteBack.j3 k x0 x1 x7 (!t197))) else (becketlaw02_RouteBack.j3 k x0 x1 x7 false))) else (becketlaw02_RouteBack.j3 k x0 x1 x7 false))
def becketlaw02_RouteBack.j3 : Nat → ByteArray → ByteArray → Bool → Bool → Option (Bool)
  | 0, _, _, _, _ => none
  | k + 1, x0, x1, x7, x78 => if x78 = true then (some false) else (if x7 = true then ((route_Under.f x0 x1).bind fun t198 => (if t198 = true then ((route_Under.f x1 x0).bind fun t199 => (if t199 = true then (some false) else ((route_Under.f x0 x0).bind fun t200 => (some (!t200))))) else ((route_Under.f x0 x0).bind fun t201 => (some (!t201))))) else (some false))
def becketlaw02_RouteBack.j1 : Nat → ByteArray → ByteArray → ByteArray → Bool → List ByteArray → Bool → Option (Bool)
  | 0, _, _, _, _, _, _ => none
  | k + 1, x0, x1, x2, x7, x8, x46 => if x46 = true then (some false) else ((route_Parent.f k x0).bind fun t193 => (if ((t193.toList == ([] : List UInt8)) != ((x8.length : Int) == 1)) = true then (some false) else (if t193.toList = ([] : List UInt8) then (becketlaw02_RouteBack.j2 k x0 x1 x2 x7) else ((route_Under.f t193 x0).bind fun t194 => (if t194 = true then (becketlaw02_RouteBack.j2 k x0 x1 x2 x7) else (some false))))))
def becketlaw02_RouteBack.j4 : Nat → ByteArray → ByteArray → Bool → Bool → Option (Bool)
  | 0, _, _, _, _ => none
  | k + 1, x0, x1, x7, x78 => if x78 = true then (some false) else (if x7 = true then ((route_Under.f x0 x1).bind fun t205 => (if t205 = true then ((route_Under.f x1 x0).bind fun t206 => (if t206 = true then (some false) else ((route_Under.f x0 x0).bind fun t207 => (some (!t207))))) else ((route_Under.f x0 x0).bind fun t208 => (some (!t208))))) else (some false))
end
def becketlaw02_RouteBack.f (k : Nat) (a0 : ByteArray) (a1 : ByteArray) (a2 : ByteArray) : Option (Bool) := (becketlaw02_up.f).bind fun t184 => (if (a0.size : Int) > 2000 then (becketlaw02_RouteBack.j0 k a0 a1 a2 t184 true) else (if (a1.size : Int) > 2000 then (becketlaw02_RouteBack.j0 k a0 a1 a2 t184 true) else (becketlaw02_RouteBack.j0 k a0 a1 a2 t184 (decide ((a2.size : Int) > 2000)))))
theorem becketlaw02_RouteBack.mono_l : ∀ k, (∀ y0 y1 y2 y3 y4, LeO (becketlaw02_RouteBack.j0 k y0 y1 y2 y3 y4) (becketlaw02_RouteBack.j0 (k + 1) y0 y1 y2 y3 y4)) ∧ (∀ y0 y1 y2 y3, LeO (becketlaw02_RouteBack.j2 k y0 y1 y2 y3) (becketlaw02_RouteBack.j2 (k + 1) y0 y1 y2 y3)) ∧ (∀ y0 y1 y2 y3, LeO (becketlaw02_RouteBack.j3 k y0 y1 y2 y3) (becketlaw02_RouteBack.j3 (k + 1) y0 y1 y2 y3)) ∧ (∀ y0 y1 y2 y3 y4 y5, LeO (becketlaw02_RouteBack.j1 k y0 y1 y2 y3 y4 y5) (becketlaw02_RouteBack.j1 (k + 1) y0 y1 y2 y3 y4 y5)) ∧ (∀ y0 y1 y2 y3, LeO (becketlaw02_RouteBack.j4 k y0 y1 y2 y3) (becketlaw02_RouteBack.j4 (k + 1) y0 y1 y2 y3))
  | 0 => ⟨fun _ _ _ _ _ r h => by simp [becketlaw02_RouteBack.j0] at h, fun _ _ _ _ r h => by simp [becketlaw02_RouteBack.j2] at h, fun _ _ _ _ r h => by simp [becketlaw02_RouteBack.j3] at h, fun _ _ _ _ _ _ r h => by simp [becketlaw02_RouteBack.j1] at h, fun _ _ _ _ r h => by simp [becketlaw02_RouteBack.j4] at h⟩
  | k + 1 => by
    obtain ⟨ih0, ih1, ih2, ih3, ih4⟩ := becketlaw02_RouteBack.mono_l k
    refine ⟨?_, ?_, ?_, ?_, ?_⟩
    · intro y0 y1 y2 y3 y4
      unfold becketlaw02_RouteBack.j0
      repeat' first
      | (with_reducible exact ih0 _ _ _ _ _)
      | (with_reducible exact ih1 _ _ _ _)
      | (with_reducible exact ih2 _ _ _ _)
      | (with_reducible exact ih3 _ _ _ _ _ _)
      | (with_reducible exact ih4 _ _ _ _)
      | (with_reducible exact route_Parent.mono _ _)
      | (with_reducible exact LeO.refl _)
      | (with_reducible exact LeO.none _)
      | (with_reducible refine LeO.ite ?_ ?_)
      | (with_reducible refine LeO.bind ?_ (fun _ => ?_))
      | exact ih0 _ _ _ _ _
      | exact ih1 _ _ _ _
      | exact ih2 _ _ _ _
      | exact ih3 _ _ _ _ _ _
      | exact ih4 _ _ _ _
      | exact route_Parent.mono _ _
      | exact LeO.none _
      | refine LeO.ite ?_ ?_
      | refine LeO.bind ?_ (fun _ => ?_)
    · intro y0 y1 y2 y3
      unfold becketlaw02_RouteBack.j2
      repeat' first
      | (with_reducible exact ih0 _ _ _ _ _)
      | (with_reducible exact ih1 _ _ _ _)
      | (with_reducible exact ih2 _ _ _ _)
      | (with_reducible exact ih3 _ _ _ _ _ _)
      | (with_reducible exact ih4 _ _ _ _)
      | (with_reducible exact route_Parent.mono _ _)
      | (with_reducible exact LeO.refl _)
      | (with_reducible exact LeO.none _)
      | (with_reducible refine LeO.ite ?_ ?_)
      | (with_reducible refine LeO.bind ?_ (fun _ => ?_))
      | exact ih0 _ _ _ _ _
      | exact ih1 _ _ _ _
      | exact ih2 _ _ _ _
      | exact ih3 _ _ _ _ _ _
      | exact ih4 _ _ _ _
      | exact route_Parent.mono _ _
      | exact LeO.none _
      | refine LeO.ite ?_ ?_
      | refine LeO.bind ?_ (fun _ => ?_)
    · intro y0 y1 y2 y3
      unfold becketlaw02_RouteBack.j3
      repeat' first
      | (with_reducible exact ih0 _ _ _ _ _)
      | (with_reducible exact ih1 _ _ _ _)
      | (with_reducible exact ih2 _ _ _ _)
      | (with_reducible exact ih3 _ _ _ _ _ _)
      | (with_reducible exact ih4 _ _ _ _)
      | (with_reducible exact route_Parent.mono _ _)
      | (with_reducible exact LeO.refl _)
      | (with_reducible exact LeO.none _)
      | (with_reducible refine LeO.ite ?_ ?_)
      | (with_reducible refine LeO.bind ?_ (fun _ => ?_))
      | exact ih0 _ _ _ _ _
      | exact ih1 _ _ _ _
      | exact ih2 _ _ _ _
      | exact ih3 _ _ _ _ _ _
      | exact ih4 _ _ _ _
      | exact route_Parent.mono _ _
      | exact LeO.none _
      | refine LeO.ite ?_ ?_
      | refine LeO.bind ?_ (fun _ => ?_)
    · intro y0 y1 y2 y3 y4 y5
      unfold becketlaw02_RouteBack.j1
      repeat' first
      | (with_reducible exact ih0 _ _ _ _ _)
      | (with_reducible exact ih1 _ _ _ _)
      | (with_reducible exact ih2 _ _ _ _)
      | (with_reducible exact ih3 _ _ _ _ _ _)
      | (with_reducible exact ih4 _ _ _ _)
      | (with_reducible exact route_Parent.mono _ _)
      | (with_reducible exact LeO.refl _)
      | (with_reducible exact LeO.none _)
      | (with_reducible refine LeO.ite ?_ ?_)
      | (with_reducible refine LeO.bind ?_ (fun _ => ?_))
      | exact ih0 _ _ _ _ _
      | exact ih1 _ _ _ _
      | exact ih2 _ _ _ _
      | exact ih3 _ _ _ _ _ _
      | exact ih4 _ _ _ _
      | exact route_Parent.mono _ _
      | exact LeO.none _
      | refine LeO.ite ?_ ?_
      | refine LeO.bind ?_ (fun _ => ?_)
    · intro y0 y1 y2 y3
      unfold becketlaw02_RouteBack.j4
      repeat' first
      | (with_reducible exact ih0 _ _ _ _ _)
      | (with_reducible exact ih1 _ _ _ _)
      | (with_reducible exact ih2 _ _ _ _)
      | (with_reducible exact ih3 _ _ _ _ _ _)
      | (with_reducible exact ih4 _ _ _ _)
      | (with_reducible exact route_Parent.mono _ _)
      | (with_reducible exact LeO.refl _)
      | (with_reducible exact LeO.none _)
      | (with_reducible refine LeO.ite ?_ ?_)
      | (with_reducible refine LeO.bind ?_ (fun _ => ?_))
      | exact ih0 _ _ _ _ _
      | exact ih1 _ _ _ _
      | exact ih2 _ _ _ _
      | exact ih3 _ _ _ _ _ _
      | exact ih4 _ _ _ _
      | exact route_Parent.mono _ _
      | exact LeO.none _
      | refine LeO.ite ?_ ?_
      | refine LeO.bind ?_ (fun _ => ?_)
theorem becketlaw02_RouteBack.mono : ∀ a0 a1 a2 k, LeO (becketlaw02_RouteBack.f k a0 a1 a2) (becketlaw02_RouteBack.f (k + 1) a0 a1 a2) := by
  intro a0 a1 a2 k
  obtain ⟨ih0, ih1, ih2, ih3, ih4⟩ := becketlaw02_RouteBack.mono_l k
  unfold becketlaw02_RouteBack.f
  repeat' first
      | (with_reducible exact ih0 _ _ _ _ _)
      | (with_reducible exact ih1 _ _ _ _)
      | (with_reducible exact ih2 _ _ _ _)
      | (with_reducible exact ih3 _ _ _ _ _ _)
      | (with_reducible exact ih4 _ _ _ _)
      | (with_reducible exact route_Parent.mono _ _)
      | (with_reducible exact LeO.refl _)
      | (with_reducible exact LeO.none _)
      | (with_reducible refine LeO.ite ?_ ?_)
      | (with_reducible refine LeO.bind ?_ (fun _ => ?_))
      | exact ih0 _ _ _ _ _
      | exact ih1 _ _ _ _
      | exact ih2 _ _ _ _
      | exact ih3 _ _ _ _ _ _
      | exact ih4 _ _ _ _
      | exact route_Parent.mono _ _
      | exact LeO.none _
      | refine LeO.ite ?_ ?_
      | refine LeO.bind ?_ (fun _ => ?_)
set_option maxHeartbeats 8000000 in
set_option maxRecDepth 100000 in
theorem becketlaw02_RouteBack.calls (k : Nat) (a0 : ByteArray) (a1 : ByteArray) (a2 : ByteArray) (r : Bool) (w : World) (h : becketlaw02_RouteBack.f k a0 a1 a2 = some r) :
    Calls Tryd.prog 6 #[.string a0, .string a1, .string a2] w fun e w' => e = .returned (.bool r) ∧ Below w.heap.size w w' := by
  have hu25 := Tryd.underlying25
  have hu31 := Tryd.underlying31
  have HB := Aside0.mk (Below.refl w.heap.size w)
  have H : ((becketlaw02_up.f).bind fun t184 => (if (a0.size : Int) > 2000 then (becketlaw02_RouteBack.j0 k a0 a1 a2 t184 true) else (if (a1.size : Int) > 2000 then (becketlaw02_RouteBack.j0 k a0 a1 a2 t184 true) else (becketlaw02_RouteBack.j0 k a0 a1 a2 t184 (decide ((a2.size : Int) > 2000)))))) = some r := h
  clear h
  replace H := Option.bind_eq_some_iff.mp H
  obtain ⟨t184, A40, H⟩ := H
  replace H : (if (a0.size : Int) > 2000 then (becketlaw02_RouteBack.j0 k a0 a1 a2 t184 true) else (if (a1.size : Int) > 2000 then (becketlaw02_RouteBack.j0 k a0 a1 a2 t184 true) else (becketlaw02_RouteBack.j0 k a0 a1 a2 t184 (decide ((a2.size : Int) > 2000))))) = some r := H
  have A4 := Aside0.mk A40
  clear A40
  have HC5 := Aside0.mk H
  clear H
  go_enter Tryd.func6, Tryd.ntmps6
  go_upto_region 2 with (first | ((with_reducible refine gate_callee (f := 7) rfl ?_); refine goesL_ (some 13) rfl rfl Tryd.func7 (by kernel_rfl) rfl #[] rfl (by (try simp only [List.map_toArray, List.map_cons, List.map_nil]); first | done | rfl | (simp only [List.length_drop, List.length_take]; rfl)) ?_; (with_reducible refine (becketlaw02_up.calls  t184 _ A4.out).mono ?_); rintro e w6 ⟨rfl, hb⟩; refine ⟨_, rfl, ?_⟩; have n0_ := Aside0.mk (below_step (by repeat (first | (with_reducible first | exact HB.out | apply below_alloc | apply pw_below_drewN | apply below_drew1) | exact HB.out)) hb); clear HB; have HB := n0_; clear n0_; (try clear hb); (try clear hb2); (try clear hk); (try clear hi)))
  (try simp only [Act.put, List.setIfInBounds_toArray, List.set_cons_zero, List.set_cons_succ])
  go_cut [26] (fun v26 wc => ∃ (kq : Nat) (x26_4 : Bool), v26 = .bool x26_4 ∧ Aside0 (becketlaw02_RouteBack.j0 kq a0 a1 a2 t184 x26_4 = some r) ∧ Aside0 (kq ≤ k) ∧ Aside0 (Below w.heap.size w wc))
  case first =>
    have H := HC5.out
    clear HC5
    by_cases c7 : (a0.size : Int) > 2000
    · rw [if_pos c7] at H
      have c7b0 : decide (2000 < (a0.size : Int)) = true := decide_eq_true c7
      have c7b1 : decide (2000 < a0.size) = true := decide_eq_true (by omega)
      clear c7
      (first | rw [c7b0] | (simp only [i64_w, i32_w]; rw [c7b0]) | skip)
      have H' := Aside0.mk H
      clear H
      go_wp2
      go_meet
      case rel => exact ⟨_, (true), (by first | rfl | (simp; done) | (simp [*]; done)), H', ⟨by first | omega | exact Nat.le_refl _⟩, ⟨by repeat (first | (with_reducible first | exact HB.out | apply below_alloc | apply pw_below_drewN | apply below_drew1) | exact HB.out)⟩⟩
    · rw [if_neg c7] at H
      have c7b0 : decide (2000 < (a0.size : Int)) = false := decide_eq_false c7
      have c7b1 : decide (2000 < a0.size) = false := decide_eq_false (by omega)
      clear c7
      (first | rw [c7b0] | (simp only [i64_w, i32_w]; rw [c7b0]) | skip)
      by_cases c8 : (a1.size : Int) > 2000
      · rw [if_pos c8] at H
        have c8b0 : decide (2000 < (a1.size : Int)) = true := decide_eq_true c8
        have c8b1 : decide (2000 < a1.size) = true := decide_eq_true (by omega)
        clear c8
        have H' := Aside0.mk H
        clear H
        go_wp2
        go_meet
        case rel => exact ⟨_, (true), (by first | rfl | (simp; done) | (simp [*]; done)), H', ⟨by first | omega | exact Nat.le_refl _⟩, ⟨by repeat (first | (with_reducible first | exact HB.out | apply below_alloc | apply pw_below_drewN | apply below_drew1) | exact HB.out)⟩⟩
      · rw [if_neg c8] at H
        have c8b0 : decide (2000 < (a1.size : Int)) = false := decide_eq_false c8
        have c8b1 : decide (2000 < a1.size) = false := decide_eq_false (by omega)
        clear c8
        have H' := Aside0.mk H
        clear H
        go_wp2
        go_meet
        case rel => exact ⟨_, (decide ((a2.size : Int) > 2000)), (by first | rfl | (simp; done) | (simp [*]; done)), H', ⟨by first | omega | exact Nat.le_refl _⟩, ⟨by repeat (first | (with_reducible first | exact HB.out | apply below_alloc | apply pw_below_drewN | apply below_drew1) | exact HB.out)⟩⟩
  case rest =>
    clear HC5
    try clear p2
    try clear c6
    try clear c7
    try clear c7b0
    try clear c7b1
    try clear c8
    try clear c8b0
    try clear c8b1
    obtain ⟨kq, x26_4, rfl, HA, HJ4, HB⟩ := hcut
    cases kq with
    | zero => exact absurd HA.out (by simp [becketlaw02_RouteBack.j0])
    | succ kj4 =>
      have H := HA.out
      clear HA
      simp only [becketlaw02_RouteBack.j0] at H
      by_cases c9 : x26_4 = true
      · subst c9
        have H1 : (some t184) = some r := by first | (rw [if_pos rfl] at H; with_reducible exact H) | exact (if_pos rfl).symm.trans H | (simp only [if_true, eq_self_iff_true] at H ⊢; exact H)
        clear H
        have H := H1
        clear H1
        obtain rfl := Option.some.inj H
        go_wp2
        go_ret
        exact ⟨by first | rfl | (simp [errW_none, errW_some] <;> rfl) | (simp [*, errW_none, errW_some] <;> rfl), by repeat (first | (with_reducible first | exact HB.out | apply below_alloc | apply pw_below_drewN | apply below_drew1) | exact HB.out)⟩
      · replace c9 := Bool.eq_false_iff.mpr c9
        subst c9
        have H1 : ((route_Parts.f a0).bind fun bt185 => (if bt185.2.isNone = true then ((route_Join.f bt185.1).bind fun bt190 => (if bt190.2.isNone = true then (becketlaw02_RouteBack.j1 kj4 a0 a1 a2 t184 bt185.1 (bt190.1.toList != a0.toList)) else (becketlaw02_RouteBack.j1 kj4 a0 a1 a2 t184 bt185.1 true))) else ((route_Under.f a0 a1).bind fun t202 => (if t202 = true then ((route_Under.f a1 a2).bind fun t203 => (if t203 = true then ((route_Under.f a0 a2).bind fun t204 => (becketlaw02_RouteBack.j4 kj4 a0 a1 t184 (!t204))) else (becketlaw02_RouteBack.j4 kj4 a0 a1 t184 false))) else (becketlaw02_RouteBack.j4 kj4 a0 a1 t184 false))))) = some r := by rw [if_neg (show ¬ (false = true) by decide)] at H; exact H
        clear H
        have H := H1
        clear H1
        replace H := Option.bind_eq_some_iff.mp H
        obtain ⟨⟨t185, t186⟩, A100, H⟩ := H
        replace H : (if t186.isNone = true then ((route_Join.f t185).bind fun bt190 => (if bt190.2.isNone = true then (becketlaw02_RouteBack.j1 kj4 a0 a1 a2 t184 t185 (bt190.1.toList != a0.toList)) else (becketlaw02_RouteBack.j1 kj4 a0 a1 a2 t184 t185 true))) else ((route_Under.f a0 a1).bind fun t202 => (if t202 = true then ((route_Under.f a1 a2).bind fun t203 => (if t203 = true then ((route_Under.f a0 a2).bind fun t204 => (becketlaw02_RouteBack.j4 kj4 a0 a1 t184 (!t204))) else (becketlaw02_RouteBack.j4 kj4 a0 a1 t184 false))) else (becketlaw02_RouteBack.j4 kj4 a0 a1 t184 false)))) = some r := H
        have A10 := Aside0.mk A100
        clear A100
        rcases t186 with _ | q189
        · have H1 : ((route_Join.f t185).bind fun bt190 => (if bt190.2.isNone = true then (becketlaw02_RouteBack.j1 kj4 a0 a1 a2 t184 t185 (bt190.1.toList != a0.toList)) else (becketlaw02_RouteBack.j1 kj4 a0 a1 a2 t184 t185 true))) = some r := by rw [if_pos (show (none : Option Int).isNone = true by rfl)] at H; exact H
          clear H
          have H := H1
          clear H1
          try simp only [errW_none, errW_some]
          have HC11 := Aside0.mk H
          clear H
          go_upto_if 34 with (first | ((with_reducible refine gate_callee (f := 11) rfl ?_); refine goesL_ (some 30) rfl rfl Tryd.func11 (by kernel_rfl) rfl #[.string a0] rfl (by (try simp only [List.map_toArray, List.map_cons, List.map_nil]); first | done | rfl | (simp only [List.length_drop, List.length_take]; rfl)) ?_; (with_reducible refine (route_Parts.calls a0 t185 none _ A10.out).mono ?_); rintro e w12 ⟨v187, rfl, ho0, hb⟩; refine ⟨_, rfl, ?_⟩; have n0_ := Aside0.mk (Kd.R_lower ho0 (below_size (by repeat (first | (with_reducible first | exact HB.out | apply below_alloc | apply pw_below_drewN | apply below_drew1) | exact HB.out)))); have n1_ := Aside0.mk (below_step (by repeat (first | (with_reducible first | exact HB.out | apply below_alloc | apply pw_below_drewN | apply below_drew1) | exact HB.out)) hb); clear HB; have HO188 := n0_; have HB := n1_; clear n0_ n1_; (try clear hb); (try clear hb2); (try clear hk); (try clear hi); (try clear ho0); (try simp only [errW_none, errW_some])))
          (try simp only [Act.put, List.setIfInBounds_toArray, List.set_cons_zero, List.set_cons_succ])
          go_cut [] (fun wc => ∃ (kq : Nat), Aside0 (becketlaw02_RouteBack.j2 kq a0 a1 a2 t184 = some r) ∧ Aside0 (kq ≤ kj4) ∧ Aside0 (Below w.heap.size w wc))
          case first =>
            have H := HC11.out
            clear HC11
            replace H := Option.bind_eq_some_iff.mp H
            obtain ⟨⟨t190, t191⟩, A130, H⟩ := H
            replace H : (if t191.isNone = true then (becketlaw02_RouteBack.j1 kj4 a0 a1 a2 t184 t185 (t190.toList != a0.toList)) else (becketlaw02_RouteBack.j1 kj4 a0 a1 a2 t184 t185 true)) = some r := H
            have A13 := Aside0.mk A130
            clear A130
            have HC14 := Aside0.mk H
            clear H
            obtain ⟨Ao15, co15, eo15⟩ := Kd.R_slice HO188.out
            subst eo15
            go_upto_region 7 with (first | ((with_reducible refine gate_callee (f := 16) rfl ?_); refine goesL_ (some 37) rfl rfl Tryd.func16 (by kernel_rfl) rfl #[.slice Ao15 t185.length co15] rfl (by (try simp only [List.map_toArray, List.map_cons, List.map_nil]); first | done | rfl | (simp only [List.length_drop, List.length_take]; rfl)) ?_; (with_reducible refine (route_Join.calls _ _ t185 t190 t191 _ ?side1 ?side2 A13.out).mono ?_); (case side1 => repeat (first | exact (Kd.R_reads' HO188.out).2.2 | (with_reducible refine Kd.C_alloc ?_ _) | (with_reducible refine Kd.C_drewN ?_ _) | (with_reducible refine Kd.C_drew ?_))); (case side2 => exact (Kd.R_reads' HO188.out).2.1); rintro e w16 ⟨rfl, hb⟩; refine ⟨_, rfl, ?_⟩; have n0_ := Aside0.mk (Kd.R_below (by (with_reducible repeat (first | apply Kd.R_alloc | apply Kd.R_drewN | apply Kd.R_drew)); exact HO188.out) hb); have n1_ := Aside0.mk (below_step (by repeat (first | (with_reducible first | exact HB.out | apply below_alloc | apply pw_below_drewN | apply below_drew1) | exact HB.out)) hb); clear HO188; clear HB; have HO188 := n0_; have HB := n1_; clear n0_ n1_; (try clear hb); (try clear hb2); (try clear hk); (try clear hi); (try simp only [errW_none, errW_some])))
            (try simp only [Act.put, List.setIfInBounds_toArray, List.set_cons_zero, List.set_cons_succ])
            go_cut [46] (fun v46 wc => ∃ (kq : Nat) (x46_13 : Bool), v46 = .bool x46_13 ∧ Aside0 (becketlaw02_RouteBack.j1 kq a0 a1 a2 t184 t185 x46_13 = some r) ∧ Aside0 (kq ≤ kj4) ∧ Aside0 (Kd.R Kd.string 9 wc w.heap.size (fun _ => True) (.slice Ao15 t185.length co15) t185) ∧ Aside0 (Below w.heap.size w wc))
            case first =>
              have H := HC14.out
              clear HC14
              rcases t191 with _ | q192
              · have H1 : (becketlaw02_RouteBack.j1 kj4 a0 a1 a2 t184 t185 (t190.toList != a0.toList)) = some r := by rw [if_pos (show (none : Option Int).isNone = true by rfl)] at H; exact H
                clear H
                have H := H1
                clear H1
                try simp only [errW_none, errW_some]
                have H' := Aside0.mk H
                clear H
                go_wp2
                go_meet
                case rel => exact ⟨_, ((t190.toList != a0.toList)), (by first | rfl | (simp; done) | (simp [*]; done)), H', ⟨by have := HJ4.out; first | omega | exact Nat.le_refl _⟩, ⟨by (with_reducible repeat (first | apply Kd.R_alloc | apply Kd.R_drewN | apply Kd.R_drew)); exact HO188.out⟩, ⟨by repeat (first | (with_reducible first | exact HB.out | apply below_alloc | apply pw_below_drewN | apply below_drew1) | exact HB.out)⟩⟩
              · have H1 : (becketlaw02_RouteBack.j1 kj4 a0 a1 a2 t184 t185 true) = some r := by rw [if_neg (show ¬ (some q192).isNone = true by simp)] at H; exact H
                clear H
                have H := H1
                clear H1
                try simp only [errW_none, errW_some]
                have H' := Aside0.mk H
                clear H
                go_wp2
                go_meet
                case rel => exact ⟨_, (true), (by first | rfl | (simp; done) | (simp [*]; done)), H', ⟨by have := HJ4.out; first | omega | exact Nat.le_refl _⟩, ⟨by (with_reducible repeat (first | apply Kd.R_alloc | apply Kd.R_drewN | apply Kd.R_drew)); exact HO188.out⟩, ⟨by repeat (first | (with_reducible first | exact HB.out | apply below_alloc | apply pw_below_drewN | apply below_drew1) | exact HB.out)⟩⟩
            case rest =>
              clear HC14
              try clear c1
              try clear q1
              try clear p2
              try clear c6
              try clear c7
              try clear c7b0
              try clear c7b1
              try clear c8
              try clear c8b0
              try clear c8b1
              try clear c9
              try clear c11
              try clear c16
              try clear p2
              try clear q189
              try clear q192
              obtain ⟨kq, x46_13, rfl, HA, HJ13, HO_8, HB⟩ := hcut
              cases kq with
              | zero => exact absurd HA.out (by simp [becketlaw02_RouteBack.j1])
              | succ kj13 =>
                have H := HA.out
                clear HA
                simp only [becketlaw02_RouteBack.j1] at H
                by_cases c17 : x46_13 = true
                · subst c17
                  have H1 : (some false) = some r := by first | (rw [if_pos rfl] at H; with_reducible exact H) | exact (if_pos rfl).symm.trans H | (simp only [if_true, eq_self_iff_true] at H ⊢; exact H)
                  clear H
                  have H := H1
                  clear H1
                  obtain rfl := Option.some.inj H
                  go_wp2
                  go_ret
                  exact ⟨by first | rfl | (simp [errW_none, errW_some] <;> rfl) | (simp [*, errW_none, errW_some] <;> rfl), by repeat (first | (with_reducible first | exact HB.out | apply below_alloc | apply pw_below_drewN | apply below_drew1) | exact HB.out)⟩
                · replace c17 := Bool.eq_false_iff.mpr c17
                  subst c17
                  have H1 : ((route_Parent.f kj13 a0).bind fun t193 => (if ((t193.toList == ([] : List UInt8)) != ((t185.length : Int) == 1)) = true then (some false) else (if t193.toList = ([] : List UInt8) then (becketlaw02_RouteBack.j2 kj13 a0 a1 a2 t184) else ((route_Under.f t193 a0).bind fun t194 => (if t194 = true then (becketlaw02_RouteBack.j2 kj13 a0 a1 a2 t184) else (some false)))))) = some r := by rw [if_neg (show ¬ (false = true) by decide)] at H; exact H
                  clear H
                  have H := H1
                  clear H1
                  replace H := Option.bind_eq_some_iff.mp H
                  obtain ⟨t193, A180, H⟩ := H
                  replace H : (if ((t193.toList == ([] : List UInt8)) != ((t185.length : Int) == 1)) = true then (some false) else (if t193.toList = ([] : List UInt8) then (becketlaw02_RouteBack.j2 kj13 a0 a1 a2 t184) else ((route_Under.f t193 a0).bind fun t194 => (if t194 = true then (becketlaw02_RouteBack.j2 kj13 a0 a1 a2 t184) else (some false))))) = some r := H
                  have A18 := Aside0.mk A180
                  clear A180
                  by_cases c19 : ((t193.toList == ([] : List UInt8)) != ((t185.length : Int) == 1)) = true
                  · rw [if_pos c19] at H
                    have c19b0 : ((t193.toList == ([] : List UInt8)) != ((t185.length : Int) == 1)) = true := c19
                    (try (have c19b1 : decide ((t193.toList == ([] : List UInt8)) = ((t185.length : Int) == 1)) = false := by first | (simp; done) | (have q_ := c19; simp at q_; done) | (have q_ := c19; simp at q_ ⊢; exact q_) | (have q_ := c19; simp at q_; exact q_) | exact c19))
                    (try (have c19b2 : ((t193.toList == ([] : List UInt8)) == ((t185.length : Int) == 1)) = false := by first | (simp; done) | (have q_ := c19; simp at q_; done) | (have q_ := c19; simp at q_ ⊢; exact q_) | (have q_ := c19; simp at q_; exact q_) | exact c19))
                    (try (have c19b3 : ¬ ((t193.toList == ([] : List UInt8)) = ((t185.length : Int) == 1)) := by first | (simp; done) | (have q_ := c19; simp at q_; done) | (have q_ := c19; simp at q_ ⊢; exact q_) | (have q_ := c19; simp at q_; exact q_) | exact c19))
                    rcases Bool.eq_false_or_eq_true (t193.toList == ([] : List UInt8)) with c19x | c19x <;> rcases Bool.eq_false_or_eq_true ((t185.length : Int) == 1) with c19y | c19y
                    all_goals (first | (exfalso; rw [c19x, c19y] at c19; revert c19; decide; done) | skip)
                    all_goals clear c19
                    all_goals
                      obtain rfl := Option.some.inj H
                      go_wp2_with (first | ((with_reducible refine gate_callee (f := 13) rfl ?_); refine goesL_ (some 48) rfl rfl Tryd.func13 (by kernel_rfl) rfl #[.string a0] rfl (by (try simp only [List.map_toArray, List.map_cons, List.map_nil]); first | done | rfl | (simp only [List.length_drop, List.length_take]; rfl)) ?_; (with_reducible refine (route_Parent.calls kj13 a0 t193 _ A18.out).mono ?_); rintro e w20 ⟨rfl, hb⟩; refine ⟨_, rfl, ?_⟩; have n0_ := Aside0.mk (Kd.R_below (by (with_reducible repeat (first | apply Kd.R_alloc | apply Kd.R_drewN | apply Kd.R_drew)); exact HO_8.out) hb); have n1_ := Aside0.mk (below_step (by repeat (first | (with_reducible first | exact HB.out | apply below_alloc | apply pw_below_drewN | apply below_drew1) | exact HB.out)) hb); clear HO_8; clear HB; have HO_8 := n0_; have HB := n1_; clear n0_ n1_; (try clear hb); (try clear hb2); (try clear hk); (try clear hi)))
                      go_ret
                      exact ⟨by first | rfl | (simp [errW_none, errW_some] <;> rfl) | (simp [*, errW_none, errW_some] <;> rfl), by repeat (first | (with_reducible first | exact HB.out | apply below_alloc | apply pw_below_drewN | apply below_drew1) | exact HB.out)⟩
                  · rw [if_neg c19] at H
                    have c19b0 : ((t193.toList == ([] : List UInt8)) != ((t185.length : Int) == 1)) = false := by first | (simp; done) | (have q_ := c19; simp at q_; done) | (have q_ := c19; simp at q_ ⊢; exact q_) | (have q_ := c19; simp at q_; exact q_) | exact c19
                    (try (have c19b1 : decide ((t193.toList == ([] : List UInt8)) = ((t185.length : Int) == 1)) = true := by first | (simp; done) | (have q_ := c19; simp at q_; done) | (have q_ := c19; simp at q_ ⊢; exact q_) | (have q_ := c19; simp at q_; exact q_) | exact c19))
                    (try (have c19b2 : ((t193.toList == ([] : List UInt8)) == ((t185.length : Int) == 1)) = true := by first | (simp; done) | (have q_ := c19; simp at q_; done) | (have q_ := c19; simp at q_ ⊢; exact q_) | (have q_ := c19; simp at q_; exact q_) | exact c19))
                    rcases Bool.eq_false_or_eq_true (t193.toList == ([] : List UInt8)) with c19x | c19x <;> rcases Bool.eq_false_or_eq_true ((t185.length : Int) == 1) with c19y | c19y
                    all_goals (first | (exfalso; rw [c19x, c19y] at c19; revert c19; decide; done) | skip)
                    all_goals clear c19
                    all_goals
                      by_cases c21 : t193.toList = ([] : List UInt8)
                      · rw [if_pos c21] at H
                        have c21b0 : (t193.toList == ([] : List UInt8)) = true := beq_iff_eq.mpr c21
                        first
                          | exact absurd (c19x.symm.trans c21b0) (by decide)
                          | (
                              skip
                              have c21b1 : (t193.toList != ([] : List UInt8)) = false := bne_eq_false_iff_eq.mpr c21
                              clear c21
                              have H' := Aside0.mk H
                              clear H
                              go_wp2_with (first | ((with_reducible refine gate_callee (f := 13) rfl ?_); refine goesL_ (some 48) rfl rfl Tryd.func13 (by kernel_rfl) rfl #[.string a0] rfl (by (try simp only [List.map_toArray, List.map_cons, List.map_nil]); first | done | rfl | (simp only [List.length_drop, List.length_take]; rfl)) ?_; (with_reducible refine (route_Parent.calls kj13 a0 t193 _ A18.out).mono ?_); rintro e w22 ⟨rfl, hb⟩; refine ⟨_, rfl, ?_⟩; have n0_ := Aside0.mk (Kd.R_below (by (with_reducible repeat (first | apply Kd.R_alloc | apply Kd.R_drewN | apply Kd.R_drew)); exact HO_8.out) hb); have n1_ := Aside0.mk (below_step (by repeat (first | (with_reducible first | exact HB.out | apply below_alloc | apply pw_below_drewN | apply below_drew1) | exact HB.out)) hb); clear HO_8; clear HB; have HO_8 := n0_; have HB := n1_; clear n0_ n1_; (try clear hb); (try clear hb2); (try clear hk); (try clear hi)))
                              go_meet
                              case rel => exact ⟨_, H', ⟨by have := HJ4.out; have := HJ13.out; first | omega | exact Nat.le_refl _⟩, ⟨by repeat (first | (with_reducible first | exact HB.out | apply below_alloc | apply pw_below_drewN | apply below_drew1) | exact HB.out)⟩⟩
                            )
                      · rw [if_neg c21] at H
                        have c21b0 : (t193.toList == ([] : List UInt8)) = false := beq_eq_false_iff_ne.mpr c21
                        first
                          | exact absurd (c19x.symm.trans c21b0) (by decide)
                          | (
                              skip
                              have c21b1 : (t193.toList != ([] : List UInt8)) = true := bne_iff_ne.mpr c21
                              replace H := Option.bind_eq_some_iff.mp H
                              obtain ⟨t194, A230, H⟩ := H
                              replace H : (if t194 = true then (becketlaw02_RouteBack.j2 kj13 a0 a1 a2 t184) else (some false)) = some r := H
                              have A23 := Aside0.mk A230
                              clear A230
                              by_cases c24 : t194 = true
                              · subst c24
                                have H1 : (becketlaw02_RouteBack.j2 kj13 a0 a1 a2 t184) = some r := by first | (rw [if_pos rfl] at H; with_reducible exact H) | exact (if_pos rfl).symm.trans H | (simp only [if_true, eq_self_iff_true] at H ⊢; exact H)
                                clear H
                                have H := H1
                                clear H1
                                have H' := Aside0.mk H
                                clear H
                                go_wp2_with (first | ((with_reducible refine gate_callee (f := 13) rfl ?_); refine goesL_ (some 48) rfl rfl Tryd.func13 (by kernel_rfl) rfl #[.string a0] rfl (by (try simp only [List.map_toArray, List.map_cons, List.map_nil]); first | done | rfl | (simp only [List.length_drop, List.length_take]; rfl)) ?_; (with_reducible refine (route_Parent.calls kj13 a0 t193 _ A18.out).mono ?_); rintro e w25 ⟨rfl, hb⟩; refine ⟨_, rfl, ?_⟩; have n0_ := Aside0.mk (Kd.R_below (by (with_reducible repeat (first | apply Kd.R_alloc | apply Kd.R_drewN | apply Kd.R_drew)); exact HO_8.out) hb); have n1_ := Aside0.mk (below_step (by repeat (first | (with_reducible first | exact HB.out | apply below_alloc | apply pw_below_drewN | apply below_drew1) | exact HB.out)) hb); clear HO_8; clear HB; have HO_8 := n0_; have HB := n1_; clear n0_ n1_; (try clear hb); (try clear hb2); (try clear hk); (try clear hi)) | (go_at_call 8; (with_reducible refine (route_Under.calls t193 a0 true _ A23.out).mono ?_); rintro e w26 ⟨rfl, hb⟩; have n0_ := Aside0.mk (Kd.R_below (by (with_reducible repeat (first | apply Kd.R_alloc | apply Kd.R_drewN | apply Kd.R_drew)); exact HO_8.out) hb); have n1_ := Aside0.mk (below_step (by repeat (first | (with_reducible first | exact HB.out | apply below_alloc | apply pw_below_drewN | apply below_drew1) | exact HB.out)) hb); clear HO_8; clear HB; have HO_8 := n0_; have HB := n1_; clear n0_ n1_; (try clear hb); (try clear hb2); (try clear hk); (try clear hi)))
                                go_meet
                                case rel => exact ⟨_, H', ⟨by have := HJ4.out; have := HJ13.out; first | omega | exact Nat.le_refl _⟩, ⟨by repeat (first | (with_reducible first | exact HB.out | apply below_alloc | apply pw_below_drewN | apply below_drew1) | exact HB.out)⟩⟩
                              · replace c24 := Bool.eq_false_iff.mpr c24
                                subst c24
                                have H1 : (some false) = some r := by rw [if_neg (show ¬ (false = true) by decide)] at H; exact H
                                clear H
                                have H := H1
                                clear H1
                                obtain rfl := Option.some.inj H
                                go_wp2_with (first | ((with_reducible refine gate_callee (f := 13) rfl ?_); refine goesL_ (some 48) rfl rfl Tryd.func13 (by kernel_rfl) rfl #[.string a0] rfl (by (try simp only [List.map_toArray, List.map_cons, List.map_nil]); first | done | rfl | (simp only [List.length_drop, List.length_take]; rfl)) ?_; (with_reducible refine (route_Parent.calls kj13 a0 t193 _ A18.out).mono ?_); rintro e w27 ⟨rfl, hb⟩; refine ⟨_, rfl, ?_⟩; have n0_ := Aside0.mk (Kd.R_below (by (with_reducible repeat (first | apply Kd.R_alloc | apply Kd.R_drewN | apply Kd.R_drew)); exact HO_8.out) hb); have n1_ := Aside0.mk (below_step (by repeat (first | (with_reducible first | exact HB.out | apply below_alloc | apply pw_below_drewN | apply below_drew1) | exact HB.out)) hb); clear HO_8; clear HB; have HO_8 := n0_; have HB := n1_; clear n0_ n1_; (try clear hb); (try clear hb2); (try clear hk); (try clear hi)) | (go_at_call 8; (with_reducible refine (route_Under.calls t193 a0 false _ A23.out).mono ?_); rintro e w28 ⟨rfl, hb⟩; have n0_ := Aside0.mk (Kd.R_below (by (with_reducible repeat (first | apply Kd.R_alloc | apply Kd.R_drewN | apply Kd.R_drew)); exact HO_8.out) hb); have n1_ := Aside0.mk (below_step (by repeat (first | (with_reducible first | exact HB.out | apply below_alloc | apply pw_below_drewN | apply below_drew1) | exact HB.out)) hb); clear HO_8; clear HB; have HO_8 := n0_; have HB := n1_; clear n0_ n1_; (try clear hb); (try clear hb2); (try clear hk); (try clear hi)))
                                go_ret
                                exact ⟨by first | rfl | (simp [errW_none, errW_some] <;> rfl) | (simp [*, errW_none, errW_some] <;> rfl), by repeat (first | (with_reducible first | exact HB.out | apply below_alloc | apply pw_below_drewN | apply below_drew1) | exact HB.out)⟩
                            )
          case rest =>
            clear HC11
            try clear c1
            try clear q1
            try clear c2
            try clear p2
            try clear c6
            try clear c7
            try clear c7b0
            try clear c7b1
            try clear c8
            try clear c8b0
            try clear c8b1
            try clear c9
            try clear c11
            try clear c13
            try clear c16
            try clear c17
            try clear q18
            try clear c19
            try clear c19b0
            try clear c19b1
            try clear c19b2
            try clear q19
            try clear c21
            try clear c21b0
            try clear c21b1
            try clear c24
            try clear p2
            try clear q1
            try clear q189
            try clear q192
            obtain ⟨kq, HA, HJ10, HB⟩ := hcut
            cases kq with
            | zero => exact absurd HA.out (by simp [becketlaw02_RouteBack.j2])
            | succ kj10 =>
              have H := HA.out
              clear HA
              simp only [becketlaw02_RouteBack.j2] at H
              have HC29 := Aside0.mk H
              clear H
              go_upto_region 12 with (fail)
              go_cut [78] (fun v78 wc => ∃ (kq : Nat) (x78_28 : Bool), v78 = .bool x78_28 ∧ Aside0 (becketlaw02_RouteBack.j3 kq a0 a1 t184 x78_28 = some r) ∧ Aside0 (kq ≤ kj10) ∧ Aside0 (Below w.heap.size w wc))
              case first =>
                have H := HC29.out
                clear HC29
                replace H := Option.bind_eq_some_iff.mp H
                obtain ⟨t195, A300, H⟩ := H
                replace H : (if t195 = true then ((route_Under.f a1 a2).bind fun t196 => (if t196 = true then ((route_Under.f a0 a2).bind fun t197 => (becketlaw02_RouteBack.j3 kj10 a0 a1 t184 (!t197))) else (becketlaw02_RouteBack.j3 kj10 a0 a1 t184 false))) else (becketlaw02_RouteBack.j3 kj10 a0 a1 t184 false)) = some r := H
                have A30 := Aside0.mk A300
                clear A300
                by_cases c31 : t195 = true
                · subst c31
                  have H1 : ((route_Under.f a1 a2).bind fun t196 => (if t196 = true then ((route_Under.f a0 a2).bind fun t197 => (becketlaw02_RouteBack.j3 kj10 a0 a1 t184 (!t197))) else (becketlaw02_RouteBack.j3 kj10 a0 a1 t184 false))) = some r := by first | (rw [if_pos rfl] at H; with_reducible exact H) | exact (if_pos rfl).symm.trans H | (simp only [if_true, eq_self_iff_true] at H ⊢; exact H)
                  clear H
                  have H := H1
                  clear H1
                  replace H := Option.bind_eq_some_iff.mp H
                  obtain ⟨t196, A320, H⟩ := H
                  replace H : (if t196 = true then ((route_Under.f a0 a2).bind fun t197 => (becketlaw02_RouteBack.j3 kj10 a0 a1 t184 (!t197))) else (becketlaw02_RouteBack.j3 kj10 a0 a1 t184 false)) = some r := H
                  have A32 := Aside0.mk A320
                  clear A320
                  by_cases c33 : t196 = true
                  · subst c33
                    have H1 : ((route_Under.f a0 a2).bind fun t197 => (becketlaw02_RouteBack.j3 kj10 a0 a1 t184 (!t197))) = some r := by first | (rw [if_pos rfl] at H; with_reducible exact H) | exact (if_pos rfl).symm.trans H | (simp only [if_true, eq_self_iff_true] at H ⊢; exact H)
                    clear H
                    have H := H1
                    clear H1
                    replace H := Option.bind_eq_some_iff.mp H
                    obtain ⟨t197, A340, H⟩ := H
                    replace H : (becketlaw02_RouteBack.j3 kj10 a0 a1 t184 (!t197)) = some r := H
                    have A34 := Aside0.mk A340
                    clear A340
                    have H' := Aside0.mk H
                    clear H
                    go_wp2_with (first | ((with_reducible refine gate_callee (f := 8) rfl ?_); refine goesL_ (some 67) rfl rfl Tryd.func8 (by kernel_rfl) rfl #[.string a0, .string a1] rfl (by (try simp only [List.map_toArray, List.map_cons, List.map_nil]); first | done | rfl | (simp only [List.length_drop, List.length_take]; rfl)) ?_; (with_reducible refine (route_Under.calls a0 a1 true _ A30.out).mono ?_); rintro e w35 ⟨rfl, hb⟩; refine ⟨_, rfl, ?_⟩; have n0_ := Aside0.mk (below_step (by repeat (first | (with_reducible first | exact HB.out | apply below_alloc | apply pw_below_drewN | apply below_drew1) | exact HB.out)) hb); clear HB; have HB := n0_; clear n0_; (try clear hb); (try clear hb2); (try clear hk); (try clear hi)) | (go_at_call 8; (with_reducible refine (route_Under.calls a1 a2 true _ A32.out).mono ?_); rintro e w36 ⟨rfl, hb⟩; have n0_ := Aside0.mk (below_step (by repeat (first | (with_reducible first | exact HB.out | apply below_alloc | apply pw_below_drewN | apply below_drew1) | exact HB.out)) hb); clear HB; have HB := n0_; clear n0_; (try clear hb); (try clear hb2); (try clear hk); (try clear hi)) | (go_at_call 8; (with_reducible refine (route_Under.calls a0 a2 t197 _ A34.out).mono ?_); rintro e w37 ⟨rfl, hb⟩; have n0_ := Aside0.mk (below_step (by repeat (first | (with_reducible first | exact HB.out | apply below_alloc | apply pw_below_drewN | apply below_drew1) | exact HB.out)) hb); clear HB; have HB := n0_; clear n0_; (try clear hb); (try clear hb2); (try clear hk); (try clear hi)))
                    go_meet
                    case rel => exact ⟨_, (!t197), (by first | rfl | (simp; done) | (simp [*]; done)), H', ⟨by have := HJ4.out; have := HJ10.out; first | omega | exact Nat.le_refl _⟩, ⟨by repeat (first | (with_reducible first | exact HB.out | apply below_alloc | apply pw_below_drewN | apply below_drew1) | exact HB.out)⟩⟩
                  · replace c33 := Bool.eq_false_iff.mpr c33
                    subst c33
                    have H1 : (becketlaw02_RouteBack.j3 kj10 a0 a1 t184 false) = some r := by rw [if_neg (show ¬ (false = true) by decide)] at H; exact H
                    clear H
                    have H := H1
                    clear H1
                    have H' := Aside0.mk H
                    clear H
                    go_wp2_with (first | ((with_reducible refine gate_callee (f := 8) rfl ?_); refine goesL_ (some 67) rfl rfl Tryd.func8 (by kernel_rfl) rfl #[.string a0, .string a1] rfl (by (try simp only [List.map_toArray, List.map_cons, List.map_nil]); first | done | rfl | (simp only [List.length_drop, List.length_take]; rfl)) ?_; (with_reducible refine (route_Under.calls a0 a1 true _ A30.out).mono ?_); rintro e w38 ⟨rfl, hb⟩; refine ⟨_, rfl, ?_⟩; have n0_ := Aside0.mk (below_step (by repeat (first | (with_reducible first | exact HB.out | apply below_alloc | apply pw_below_drewN | apply below_drew1) | exact HB.out)) hb); clear HB; have HB := n0_; clear n0_; (try clear hb); (try clear hb2); (try clear hk); (try clear hi)) | (go_at_call 8; (with_reducible refine (route_Under.calls a1 a2 false _ A32.out).mono ?_); rintro e w39 ⟨rfl, hb⟩; have n0_ := Aside0.mk (below_step (by repeat (first | (with_reducible first | exact HB.out | apply below_alloc | apply pw_below_drewN | apply below_drew1) | exact HB.out)) hb); clear HB; have HB := n0_; clear n0_; (try clear hb); (try clear hb2); (try clear hk); (try clear hi)))
                    go_meet
                    case rel => exact ⟨_, (false), (by first | rfl | (simp; done) | (simp [*]; done)), H', ⟨by have := HJ4.out; have := HJ10.out; first | omega | exact Nat.le_refl _⟩, ⟨by repeat (first | (with_reducible first | exact HB.out | apply below_alloc | apply pw_below_drewN | apply below_drew1) | exact HB.out)⟩⟩
                · replace c31 := Bool.eq_false_iff.mpr c31
                  subst c31
                  have H1 : (becketlaw02_RouteBack.j3 kj10 a0 a1 t184 false) = some r := by rw [if_neg (show ¬ (false = true) by decide)] at H; exact H
                  clear H
                  have H := H1
                  clear H1
                  have H' := Aside0.mk H
                  clear H
                  go_wp2_with (first | ((with_reducible refine gate_callee (f := 8) rfl ?_); refine goesL_ (some 67) rfl rfl Tryd.func8 (by kernel_rfl) rfl #[.string a0, .string a1] rfl (by (try simp only [List.map_toArray, List.map_cons, List.map_nil]); first | done | rfl | (simp only [List.length_drop, List.length_take]; rfl)) ?_; (with_reducible refine (route_Under.calls a0 a1 false _ A30.out).mono ?_); rintro e w40 ⟨rfl, hb⟩; refine ⟨_, rfl, ?_⟩; have n0_ := Aside0.mk (below_step (by repeat (first | (with_reducible first | exact HB.out | apply below_alloc | apply pw_below_drewN | apply below_drew1) | exact HB.out)) hb); clear HB; have HB := n0_; clear n0_; (try clear hb); (try clear hb2); (try clear hk); (try clear hi)))
                  go_meet
                  case rel => exact ⟨_, (false), (by first | rfl | (simp; done) | (simp [*]; done)), H', ⟨by have := HJ4.out; have := HJ10.out; first | omega | exact Nat.le_refl _⟩, ⟨by repeat (first | (with_reducible first | exact HB.out | apply below_alloc | apply pw_below_drewN | apply below_drew1) | exact HB.out)⟩⟩
              case rest =>
                clear HC29
                try clear c1
                try clear q1
                try clear c2
                try clear p2
                try clear c3
                try clear c6
                try clear c7
                try clear c7b0
                try clear c7b1
                try clear c8
                try clear c8b0
                try clear c8b1
                try clear c9
                try clear c11
                try clear c13
                try clear c16
                try clear c17
                try clear q18
                try clear c19
                try clear c19b0
                try clear c19b1
                try clear c19b2
                try clear q19
                try clear c21
                try clear c21b0
                try clear c21b1
                try clear c24
                try clear c31
                try clear c33
                try clear p2
                try clear q1
                try clear q18
                try clear q189
                try clear q19
                try clear q192
                obtain ⟨kq, x78_28, rfl, HA, HJ28, HB⟩ := hcut
                cases kq with
                | zero => exact absurd HA.out (by simp [becketlaw02_RouteBack.j3])
                | succ kj28 =>
                  have H := HA.out
                  clear HA
                  simp only [becketlaw02_RouteBack.j3] at H
                  by_cases c41 : x78_28 = true
                  · subst c41
                    have H1 : (some false) = some r := by first | (rw [if_pos rfl] at H; with_reducible exact H) | exact (if_pos rfl).symm.trans H | (simp only [if_true, eq_self_iff_true] at H ⊢; exact H)
                    clear H
                    have H := H1
                    clear H1
                    obtain rfl := Option.some.inj H
                    go_wp2
                    go_ret
                    exact ⟨by first | rfl | (simp [errW_none, errW_some] <;> rfl) | (simp [*, errW_none, errW_some] <;> rfl), by repeat (first | (with_reducible first | exact HB.out | apply below_alloc | apply pw_below_drewN | apply below_drew1) | exact HB.out)⟩
                  · replace c41 := Bool.eq_false_iff.mpr c41
                    subst c41
                    have H1 : (if t184 = true then ((route_Under.f a0 a1).bind fun t198 => (if t198 = true then ((route_Under.f a1 a0).bind fun t199 => (if t199 = true then (some false) else ((route_Under.f a0 a0).bind fun t200 => (some (!t200))))) else ((route_Under.f a0 a0).bind fun t201 => (some (!t201))))) else (some false)) = some r := by rw [if_neg (show ¬ (false = true) by decide)] at H; exact H
                    clear H
                    have H := H1
                    clear H1
                    by_cases c42 : t184 = true
                    · subst c42
                      have H1 : ((route_Under.f a0 a1).bind fun t198 => (if t198 = true then ((route_Under.f a1 a0).bind fun t199 => (if t199 = true then (some false) else ((route_Under.f a0 a0).bind fun t200 => (some (!t200))))) else ((route_Under.f a0 a0).bind fun t201 => (some (!t201))))) = some r := by first | (rw [if_pos rfl] at H; with_reducible exact H) | exact (if_pos rfl).symm.trans H | (simp only [if_true, eq_self_iff_true] at H ⊢; exact H)
                      clear H
                      have H := H1
                      clear H1
                      replace H := Option.bind_eq_some_iff.mp H
                      obtain ⟨t198, A430, H⟩ := H
                      replace H : (if t198 = true then ((route_Under.f a1 a0).bind fun t199 => (if t199 = true then (some false) else ((route_Under.f a0 a0).bind fun t200 => (some (!t200))))) else ((route_Under.f a0 a0).bind fun t201 => (some (!t201)))) = some r := H
                      have A43 := Aside0.mk A430
                      clear A430
                      by_cases c44 : t198 = true
                      · subst c44
                        have H1 : ((route_Under.f a1 a0).bind fun t199 => (if t199 = true then (some false) else ((route_Under.f a0 a0).bind fun t200 => (some (!t200))))) = some r := by first | (rw [if_pos rfl] at H; with_reducible exact H) | exact (if_pos rfl).symm.trans H | (simp only [if_true, eq_self_iff_true] at H ⊢; exact H)
                        clear H
                        have H := H1
                        clear H1
                        replace H := Option.bind_eq_some_iff.mp H
                        obtain ⟨t199, A450, H⟩ := H
                        replace H : (if t199 = true then (some false) else ((route_Under.f a0 a0).bind fun t200 => (some (!t200)))) = some r := H
                        have A45 := Aside0.mk A450
                        clear A450
                        by_cases c46 : t199 = true
                        · subst c46
                          have H1 : (some false) = some r := by first | (rw [if_pos rfl] at H; with_reducible exact H) | exact (if_pos rfl).symm.trans H | (simp only [if_true, eq_self_iff_true] at H ⊢; exact H)
                          clear H
                          have H := H1
                          clear H1
                          obtain rfl := Option.some.inj H
                          go_wp2_with (first | (go_at_call 8; (with_reducible refine (route_Under.calls a0 a1 true _ A43.out).mono ?_); rintro e w47 ⟨rfl, hb⟩; have n0_ := Aside0.mk (below_step (by repeat (first | (with_reducible first | exact HB.out | apply below_alloc | apply pw_below_drewN | apply below_drew1) | exact HB.out)) hb); clear HB; have HB := n0_; clear n0_; (try clear hb); (try clear hb2); (try clear hk); (try clear hi)) | (go_at_call 8; (with_reducible refine (route_Under.calls a1 a0 true _ A45.out).mono ?_); rintro e w48 ⟨rfl, hb⟩; have n0_ := Aside0.mk (below_step (by repeat (first | (with_reducible first | exact HB.out | apply below_alloc | apply pw_below_drewN | apply below_drew1) | exact HB.out)) hb); clear HB; have HB := n0_; clear n0_; (try clear hb); (try clear hb2); (try clear hk); (try clear hi)))
                          go_ret
                          exact ⟨by first | rfl | (simp [errW_none, errW_some] <;> rfl) | (simp [*, errW_none, errW_some] <;> rfl), by repeat (first | (with_reducible first | exact HB.out | apply below_alloc | apply pw_below_drewN | apply below_drew1) | exact HB.out)⟩
                        · replace c46 := Bool.eq_false_iff.mpr c46
                          subst c46
                          have H1 : ((route_Under.f a0 a0).bind fun t200 => (some (!t200))) = some r := by rw [if_neg (show ¬ (false = true) by decide)] at H; exact H
                          clear H
                          have H := H1
                          clear H1
                          replace H := Option.bind_eq_some_iff.mp H
                          obtain ⟨t200, A490, H⟩ := H
                          replace H : (some (!t200)) = some r := H
                          have A49 := Aside0.mk A490
                          clear A490
                          obtain rfl := Option.some.inj H
                          go_wp2_with (first | (go_at_call 8; (with_reducible refine (route_Under.calls a0 a1 true _ A43.out).mono ?_); rintro e w50 ⟨rfl, hb⟩; have n0_ := Aside0.mk (below_step (by repeat (first | (with_reducible first | exact HB.out | apply below_alloc | apply pw_below_drewN | apply below_drew1) | exact HB.out)) hb); clear HB; have HB := n0_; clear n0_; (try clear hb); (try clear hb2); (try clear hk); (try clear hi)) | (go_at_call 8; (with_reducible refine (route_Under.calls a1 a0 false _ A45.out).mono ?_); rintro e w51 ⟨rfl, hb⟩; have n0_ := Aside0.mk (below_step (by repeat (first | (with_reducible first | exact HB.out | apply below_alloc | apply pw_below_drewN | apply below_drew1) | exact HB.out)) hb); clear HB; have HB := n0_; clear n0_; (try clear hb); (try clear hb2); (try clear hk); (try clear hi)) | (go_at_call 8; (with_reducible refine (route_Under.calls a0 a0 t200 _ A49.out).mono ?_); rintro e w52 ⟨rfl, hb⟩; have n0_ := Aside0.mk (below_step (by repeat (first | (with_reducible first | exact HB.out | apply below_alloc | apply pw_below_drewN | apply below_drew1) | exact HB.out)) hb); clear HB; have HB := n0_; clear n0_; (try clear hb); (try clear hb2); (try clear hk); (try clear hi)))
                          go_ret
                          exact ⟨by first | rfl | (simp [errW_none, errW_some] <;> rfl) | (simp [*, errW_none, errW_some] <;> rfl), by repeat (first | (with_reducible first | exact HB.out | apply below_alloc | apply pw_below_drewN | apply below_drew1) | exact HB.out)⟩
                      · replace c44 := Bool.eq_false_iff.mpr c44
                        subst c44
                        have H1 : ((route_Under.f a0 a0).bind fun t201 => (some (!t201))) = some r := by rw [if_neg (show ¬ (false = true) by decide)] at H; exact H
                        clear H
                        have H := H1
                        clear H1
                        replace H := Option.bind_eq_some_iff.mp H
                        obtain ⟨t201, A530, H⟩ := H
                        replace H : (some (!t201)) = some r := H
                        have A53 := Aside0.mk A530
                        clear A530
                        obtain rfl := Option.some.inj H
                        go_wp2_with (first | (go_at_call 8; (with_reducible refine (route_Under.calls a0 a1 false _ A43.out).mono ?_); rintro e w54 ⟨rfl, hb⟩; have n0_ := Aside0.mk (below_step (by repeat (first | (with_reducible first | exact HB.out | apply below_alloc | apply pw_below_drewN | apply below_drew1) | exact HB.out)) hb); clear HB; have HB := n0_; clear n0_; (try clear hb); (try clear hb2); (try clear hk); (try clear hi)) | (go_at_call 8; (with_reducible refine (route_Under.calls a0 a0 t201 _ A53.out).mono ?_); rintro e w55 ⟨rfl, hb⟩; have n0_ := Aside0.mk (below_step (by repeat (first | (with_reducible first | exact HB.out | apply below_alloc | apply pw_below_drewN | apply below_drew1) | exact HB.out)) hb); clear HB; have HB := n0_; clear n0_; (try clear hb); (try clear hb2); (try clear hk); (try clear hi)))
                        go_ret
                        exact ⟨by first | rfl | (simp [errW_none, errW_some] <;> rfl) | (simp [*, errW_none, errW_some] <;> rfl), by repeat (first | (with_reducible first | exact HB.out | apply below_alloc | apply pw_below_drewN | apply below_drew1) | exact HB.out)⟩
                    · replace c42 := Bool.eq_false_iff.mpr c42
                      subst c42
                      have H1 : (some false) = some r := by rw [if_neg (show ¬ (false = true) by decide)] at H; exact H
                      clear H
                      have H := H1
                      clear H1
                      obtain rfl := Option.some.inj H
                      go_wp2
                      go_ret
                      exact ⟨by first | rfl | (simp [errW_none, errW_some] <;> rfl) | (simp [*, errW_none, errW_some] <;> rfl), by repeat (first | (with_reducible first | exact HB.out | apply below_alloc | apply pw_below_drewN | apply below_drew1) | exact HB.out)⟩
        · have H1 : ((route_Under.f a0 a1).bind fun t202 => (if t202 = true then ((route_Under.f a1 a2).bind fun t203 => (if t203 = true then ((route_Under.f a0 a2).bind fun t204 => (becketlaw02_RouteBack.j4 kj4 a0 a1 t184 (!t204))) else (becketlaw02_RouteBack.j4 kj4 a0 a1 t184 false))) else (becketlaw02_RouteBack.j4 kj4 a0 a1 t184 false))) = some r := by rw [if_neg (show ¬ (some q189).isNone = true by simp)] at H; exact H
          clear H
          have H := H1
          clear H1
          try simp only [errW_none, errW_some]
          have HC56 := Aside0.mk H
          clear H
          go_upto_region 12 with (first | ((with_reducible refine gate_callee (f := 11) rfl ?_); refine goesL_ (some 30) rfl rfl Tryd.func11 (by kernel_rfl) rfl #[.string a0] rfl (by (try simp only [List.map_toArray, List.map_cons, List.map_nil]); first | done | rfl | (simp only [List.length_drop, List.length_take]; rfl)) ?_; (with_reducible refine (route_Parts.calls a0 t185 (some q189) _ A10.out).mono ?_); rintro e w57 ⟨v187, rfl, ho0, hb⟩; refine ⟨_, rfl, ?_⟩; have n0_ := Aside0.mk (Kd.R_lower ho0 (below_size (by repeat (first | (with_reducible first | exact HB.out | apply below_alloc | apply pw_below_drewN | apply below_drew1) | exact HB.out)))); have n1_ := Aside0.mk (below_step (by repeat (first | (with_reducible first | exact HB.out | apply below_alloc | apply pw_below_drewN | apply below_drew1) | exact HB.out)) hb); clear HB; have HO188 := n0_; have HB := n1_; clear n0_ n1_; (try clear hb); (try clear hb2); (try clear hk); (try clear hi); (try clear ho0); (try simp only [errW_none, errW_some])))
          (try simp only [Act.put, List.setIfInBounds_toArray, List.set_cons_zero, List.set_cons_succ])
          go_cut [78] (fun v78 wc => ∃ (kq : Nat) (x78_55 : Bool), v78 = .bool x78_55 ∧ Aside0 (becketlaw02_RouteBack.j4 kq a0 a1 t184 x78_55 = some r) ∧ Aside0 (kq ≤ kj4) ∧ Aside0 (Below w.heap.size w wc))
          case first =>
            have H := HC56.out
            clear HC56
            replace H := Option.bind_eq_some_iff.mp H
            obtain ⟨t202, A580, H⟩ := H
            replace H : (if t202 = true then ((route_Under.f a1 a2).bind fun t203 => (if t203 = true then ((route_Under.f a0 a2).bind fun t204 => (becketlaw02_RouteBack.j4 kj4 a0 a1 t184 (!t204))) else (becketlaw02_RouteBack.j4 kj4 a0 a1 t184 false))) else (becketlaw02_RouteBack.j4 kj4 a0 a1 t184 false)) = some r := H
            have A58 := Aside0.mk A580
            clear A580
            by_cases c59 : t202 = true
            · subst c59
              have H1 : ((route_Under.f a1 a2).bind fun t203 => (if t203 = true then ((route_Under.f a0 a2).bind fun t204 => (becketlaw02_RouteBack.j4 kj4 a0 a1 t184 (!t204))) else (becketlaw02_RouteBack.j4 kj4 a0 a1 t184 false))) = some r := by first | (rw [if_pos rfl] at H; with_reducible exact H) | exact (if_pos rfl).symm.trans H | (simp only [if_true, eq_self_iff_true] at H ⊢; exact H)
              clear H
              have H := H1
              clear H1
              replace H := Option.bind_eq_some_iff.mp H
              obtain ⟨t203, A600, H⟩ := H
              replace H : (if t203 = true then ((route_Under.f a0 a2).bind fun t204 => (becketlaw02_RouteBack.j4 kj4 a0 a1 t184 (!t204))) else (becketlaw02_RouteBack.j4 kj4 a0 a1 t184 false)) = some r := H
              have A60 := Aside0.mk A600
              clear A600
              by_cases c61 : t203 = true
              · subst c61
                have H1 : ((route_Under.f a0 a2).bind fun t204 => (becketlaw02_RouteBack.j4 kj4 a0 a1 t184 (!t204))) = some r := by first | (rw [if_pos rfl] at H; with_reducible exact H) | exact (if_pos rfl).symm.trans H | (simp only [if_true, eq_self_iff_true] at H ⊢; exact H)
                clear H
                have H := H1
                clear H1
                replace H := Option.bind_eq_some_iff.mp H
                obtain ⟨t204, A620, H⟩ := H
                replace H : (becketlaw02_RouteBack.j4 kj4 a0 a1 t184 (!t204)) = some r := H
                have A62 := Aside0.mk A620
                clear A620
                have H' := Aside0.mk H
                clear H
                go_wp2_with (first | ((with_reducible refine gate_callee (f := 8) rfl ?_); refine goesL_ (some 67) rfl rfl Tryd.func8 (by kernel_rfl) rfl #[.string a0, .string a1] rfl (by (try simp only [List.map_toArray, List.map_cons, List.map_nil]); first | done | rfl | (simp only [List.length_drop, List.length_take]; rfl)) ?_; (with_reducible refine (route_Under.calls a0 a1 true _ A58.out).mono ?_); rintro e w63 ⟨rfl, hb⟩; refine ⟨_, rfl, ?_⟩; have n0_ := Aside0.mk (Kd.R_below (by (with_reducible repeat (first | apply Kd.R_alloc | apply Kd.R_drewN | apply Kd.R_drew)); exact HO188.out) hb); have n1_ := Aside0.mk (below_step (by repeat (first | (with_reducible first | exact HB.out | apply below_alloc | apply pw_below_drewN | apply below_drew1) | exact HB.out)) hb); clear HO188; clear HB; have HO188 := n0_; have HB := n1_; clear n0_ n1_; (try clear hb); (try clear hb2); (try clear hk); (try clear hi)) | (go_at_call 8; (with_reducible refine (route_Under.calls a1 a2 true _ A60.out).mono ?_); rintro e w64 ⟨rfl, hb⟩; have n0_ := Aside0.mk (Kd.R_below (by (with_reducible repeat (first | apply Kd.R_alloc | apply Kd.R_drewN | apply Kd.R_drew)); exact HO188.out) hb); have n1_ := Aside0.mk (below_step (by repeat (first | (with_reducible first | exact HB.out | apply below_alloc | apply pw_below_drewN | apply below_drew1) | exact HB.out)) hb); clear HO188; clear HB; have HO188 := n0_; have HB := n1_; clear n0_ n1_; (try clear hb); (try clear hb2); (try clear hk); (try clear hi)) | (go_at_call 8; (with_reducible refine (route_Under.calls a0 a2 t204 _ A62.out).mono ?_); rintro e w65 ⟨rfl, hb⟩; have n0_ := Aside0.mk (Kd.R_below (by (with_reducible repeat (first | apply Kd.R_alloc | apply Kd.R_drewN | apply Kd.R_drew)); exact HO188.out) hb); have n1_ := Aside0.mk (below_step (by repeat (first | (with_reducible first | exact HB.out | apply below_alloc | apply pw_below_drewN | apply below_drew1) | exact HB.out)) hb); clear HO188; clear HB; have HO188 := n0_; have HB := n1_; clear n0_ n1_; (try clear hb); (try clear hb2); (try clear hk); (try clear hi)))
                go_meet
                case rel => exact ⟨_, (!t204), (by first | rfl | (simp; done) | (simp [*]; done)), H', ⟨by have := HJ4.out; first | omega | exact Nat.le_refl _⟩, ⟨by repeat (first | (with_reducible first | exact HB.out | apply below_alloc | apply pw_below_drewN | apply below_drew1) | exact HB.out)⟩⟩
              · replace c61 := Bool.eq_false_iff.mpr c61
                subst c61
                have H1 : (becketlaw02_RouteBack.j4 kj4 a0 a1 t184 false) = some r := by rw [if_neg (show ¬ (false = true) by decide)] at H; exact H
                clear H
                have H := H1
                clear H1
                have H' := Aside0.mk H
                clear H
                go_wp2_with (first | ((with_reducible refine gate_callee (f := 8) rfl ?_); refine goesL_ (some 67) rfl rfl Tryd.func8 (by kernel_rfl) rfl #[.string a0, .string a1] rfl (by (try simp only [List.map_toArray, List.map_cons, List.map_nil]); first | done | rfl | (simp only [List.length_drop, List.length_take]; rfl)) ?_; (with_reducible refine (route_Under.calls a0 a1 true _ A58.out).mono ?_); rintro e w66 ⟨rfl, hb⟩; refine ⟨_, rfl, ?_⟩; have n0_ := Aside0.mk (Kd.R_below (by (with_reducible repeat (first | apply Kd.R_alloc | apply Kd.R_drewN | apply Kd.R_drew)); exact HO188.out) hb); have n1_ := Aside0.mk (below_step (by repeat (first | (with_reducible first | exact HB.out | apply below_alloc | apply pw_below_drewN | apply below_drew1) | exact HB.out)) hb); clear HO188; clear HB; have HO188 := n0_; have HB := n1_; clear n0_ n1_; (try clear hb); (try clear hb2); (try clear hk); (try clear hi)) | (go_at_call 8; (with_reducible refine (route_Under.calls a1 a2 false _ A60.out).mono ?_); rintro e w67 ⟨rfl, hb⟩; have n0_ := Aside0.mk (Kd.R_below (by (with_reducible repeat (first | apply Kd.R_alloc | apply Kd.R_drewN | apply Kd.R_drew)); exact HO188.out) hb); have n1_ := Aside0.mk (below_step (by repeat (first | (with_reducible first | exact HB.out | apply below_alloc | apply pw_below_drewN | apply below_drew1) | exact HB.out)) hb); clear HO188; clear HB; have HO188 := n0_; have HB := n1_; clear n0_ n1_; (try clear hb); (try clear hb2); (try clear hk); (try clear hi)))
                go_meet
                case rel => exact ⟨_, (false), (by first | rfl | (simp; done) | (simp [*]; done)), H', ⟨by have := HJ4.out; first | omega | exact Nat.le_refl _⟩, ⟨by repeat (first | (with_reducible first | exact HB.out | apply below_alloc | apply pw_below_drewN | apply below_drew1) | exact HB.out)⟩⟩
            · replace c59 := Bool.eq_false_iff.mpr c59
              subst c59
              have H1 : (becketlaw02_RouteBack.j4 kj4 a0 a1 t184 false) = some r := by rw [if_neg (show ¬ (false = true) by decide)] at H; exact H
              clear H
              have H := H1
              clear H1
              have H' := Aside0.mk H
              clear H
              go_wp2_with (first | ((with_reducible refine gate_callee (f := 8) rfl ?_); refine goesL_ (some 67) rfl rfl Tryd.func8 (by kernel_rfl) rfl #[.string a0, .string a1] rfl (by (try simp only [List.map_toArray, List.map_cons, List.map_nil]); first | done | rfl | (simp only [List.length_drop, List.length_take]; rfl)) ?_; (with_reducible refine (route_Under.calls a0 a1 false _ A58.out).mono ?_); rintro e w68 ⟨rfl, hb⟩; refine ⟨_, rfl, ?_⟩; have n0_ := Aside0.mk (Kd.R_below (by (with_reducible repeat (first | apply Kd.R_alloc | apply Kd.R_drewN | apply Kd.R_drew)); exact HO188.out) hb); have n1_ := Aside0.mk (below_step (by repeat (first | (with_reducible first | exact HB.out | apply below_alloc | apply pw_below_drewN | apply below_drew1) | exact HB.out)) hb); clear HO188; clear HB; have HO188 := n0_; have HB := n1_; clear n0_ n1_; (try clear hb); (try clear hb2); (try clear hk); (try clear hi)))
              go_meet
              case rel => exact ⟨_, (false), (by first | rfl | (simp; done) | (simp [*]; done)), H', ⟨by have := HJ4.out; first | omega | exact Nat.le_refl _⟩, ⟨by repeat (first | (with_reducible first | exact HB.out | apply below_alloc | apply pw_below_drewN | apply below_drew1) | exact HB.out)⟩⟩
          case rest =>
            clear HC56
            try clear c1
            try clear q1
            try clear c2
            try clear p2
            try clear c3
            try clear c4
            try clear c5
            try clear c6
            try clear c7
            try clear c7b0
            try clear c7b1
            try clear c8
            try clear c8b0
            try clear c8b1
            try clear c9
            try clear c11
            try clear c13
            try clear c16
            try clear c17
            try clear q18
            try clear c19
            try clear c19b0
            try clear c19b1
            try clear c19b2
            try clear q19
            try clear c21
            try clear c21b0
            try clear c21b1
            try clear c24
            try clear c31
            try clear c33
            try clear c41
            try clear c42
            try clear c44
            try clear c46
            try clear c59
            try clear c61
            try clear p2
            try clear q1
            try clear q18
            try clear q189
            try clear q19
            try clear q192
            obtain ⟨kq, x78_55, rfl, HA, HJ55, HB⟩ := hcut
            cases kq with
            | zero => exact absurd HA.out (by simp [becketlaw02_RouteBack.j4])
            | succ kj55 =>
              have H := HA.out
              clear HA
              simp only [becketlaw02_RouteBack.j4] at H
              by_cases c69 : x78_55 = true
              · subst c69
                have H1 : (some false) = some r := by first | (rw [if_pos rfl] at H; with_reducible exact H) | exact (if_pos rfl).symm.trans H | (simp only [if_true, eq_self_iff_true] at H ⊢; exact H)
                clear H
                have H := H1
                clear H1
                obtain rfl := Option.some.inj H
                go_wp2
                go_ret
                exact ⟨by first | rfl | (simp [errW_none, errW_some] <;> rfl) | (simp [*, errW_none, errW_some] <;> rfl), by repeat (first | (with_reducible first | exact HB.out | apply below_alloc | apply pw_below_drewN | apply below_drew1) | exact HB.out)⟩
              · replace c69 := Bool.eq_false_iff.mpr c69
                subst c69
                have H1 : (if t184 = true then ((route_Under.f a0 a1).bind fun t205 => (if t205 = true then ((route_Under.f a1 a0).bind fun t206 => (if t206 = true then (some false) else ((route_Under.f a0 a0).bind fun t207 => (some (!t207))))) else ((route_Under.f a0 a0).bind fun t208 => (some (!t208))))) else (some false)) = some r := by rw [if_neg (show ¬ (false = true) by decide)] at H; exact H
                clear H
                have H := H1
                clear H1
                by_cases c70 : t184 = true
                · subst c70
                  have H1 : ((route_Under.f a0 a1).bind fun t205 => (if t205 = true then ((route_Under.f a1 a0).bind fun t206 => (if t206 = true then (some false) else ((route_Under.f a0 a0).bind fun t207 => (some (!t207))))) else ((route_Under.f a0 a0).bind fun t208 => (some (!t208))))) = some r := by first | (rw [if_pos rfl] at H; with_reducible exact H) | exact (if_pos rfl).symm.trans H | (simp only [if_true, eq_self_iff_true] at H ⊢; exact H)
                  clear H
                  have H := H1
                  clear H1
                  replace H := Option.bind_eq_some_iff.mp H
                  obtain ⟨t205, A710, H⟩ := H
                  replace H : (if t205 = true then ((route_Under.f a1 a0).bind fun t206 => (if t206 = true then (some false) else ((route_Under.f a0 a0).bind fun t207 => (some (!t207))))) else ((route_Under.f a0 a0).bind fun t208 => (some (!t208)))) = some r := H
                  have A71 := Aside0.mk A710
                  clear A710
                  by_cases c72 : t205 = true
                  · subst c72
                    have H1 : ((route_Under.f a1 a0).bind fun t206 => (if t206 = true then (some false) else ((route_Under.f a0 a0).bind fun t207 => (some (!t207))))) = some r := by first | (rw [if_pos rfl] at H; with_reducible exact H) | exact (if_pos rfl).symm.trans H | (simp only [if_true, eq_self_iff_true] at H ⊢; exact H)
                    clear H
                    have H := H1
                    clear H1
                    replace H := Option.bind_eq_some_iff.mp H
                    obtain ⟨t206, A730, H⟩ := H
                    replace H : (if t206 = true then (some false) else ((route_Under.f a0 a0).bind fun t207 => (some (!t207)))) = some r := H
                    have A73 := Aside0.mk A730
                    clear A730
                    by_cases c74 : t206 = true
                    · subst c74
                      have H1 : (some false) = some r := by first | (rw [if_pos rfl] at H; with_reducible exact H) | exact (if_pos rfl).symm.trans H | (simp only [if_true, eq_self_iff_true] at H ⊢; exact H)
                      clear H
                      have H := H1
                      clear H1
                      obtain rfl := Option.some.inj H
                      go_wp2_with (first | (go_at_call 8; (with_reducible refine (route_Under.calls a0 a1 true _ A71.out).mono ?_); rintro e w75 ⟨rfl, hb⟩; have n0_ := Aside0.mk (below_step (by repeat (first | (with_reducible first | exact HB.out | apply below_alloc | apply pw_below_drewN | apply below_drew1) | exact HB.out)) hb); clear HB; have HB := n0_; clear n0_; (try clear hb); (try clear hb2); (try clear hk); (try clear hi)) | (go_at_call 8; (with_reducible refine (route_Under.calls a1 a0 true _ A73.out).mono ?_); rintro e w76 ⟨rfl, hb⟩; have n0_ := Aside0.mk (below_step (by repeat (first | (with_reducible first | exact HB.out | apply below_alloc | apply pw_below_drewN | apply below_drew1) | exact HB.out)) hb); clear HB; have HB := n0_; clear n0_; (try clear hb); (try clear hb2); (try clear hk); (try clear hi)))
                      go_ret
                      exact ⟨by first | rfl | (simp [errW_none, errW_some] <;> rfl) | (simp [*, errW_none, errW_some] <;> rfl), by repeat (first | (with_reducible first | exact HB.out | apply below_alloc | apply pw_below_drewN | apply below_drew1) | exact HB.out)⟩
                    · replace c74 := Bool.eq_false_iff.mpr c74
                      subst c74
                      have H1 : ((route_Under.f a0 a0).bind fun t207 => (some (!t207))) = some r := by rw [if_neg (show ¬ (false = true) by decide)] at H; exact H
                      clear H
                      have H := H1
                      clear H1
                      replace H := Option.bind_eq_some_iff.mp H
                      obtain ⟨t207, A770, H⟩ := H
                      replace H : (some (!t207)) = some r := H
                      have A77 := Aside0.mk A770
                      clear A770
                      obtain rfl := Option.some.inj H
                      go_wp2_with (first | (go_at_call 8; (with_reducible refine (route_Under.calls a0 a1 true _ A71.out).mono ?_); rintro e w78 ⟨rfl, hb⟩; have n0_ := Aside0.mk (below_step (by repeat (first | (with_reducible first | exact HB.out | apply below_alloc | apply pw_below_drewN | apply below_drew1) | exact HB.out)) hb); clear HB; have HB := n0_; clear n0_; (try clear hb); (try clear hb2); (try clear hk); (try clear hi)) | (go_at_call 8; (with_reducible refine (route_Under.calls a1 a0 false _ A73.out).mono ?_); rintro e w79 ⟨rfl, hb⟩; have n0_ := Aside0.mk (below_step (by repeat (first | (with_reducible first | exact HB.out | apply below_alloc | apply pw_below_drewN | apply below_drew1) | exact HB.out)) hb); clear HB; have HB := n0_; clear n0_; (try clear hb); (try clear hb2); (try clear hk); (try clear hi)) | (go_at_call 8; (with_reducible refine (route_Under.calls a0 a0 t207 _ A77.out).mono ?_); rintro e w80 ⟨rfl, hb⟩; have n0_ := Aside0.mk (below_step (by repeat (first | (with_reducible first | exact HB.out | apply below_alloc | apply pw_below_drewN | apply below_drew1) | exact HB.out)) hb); clear HB; have HB := n0_; clear n0_; (try clear hb); (try clear hb2); (try clear hk); (try clear hi)))
                      go_ret
                      exact ⟨by first | rfl | (simp [errW_none, errW_some] <;> rfl) | (simp [*, errW_none, errW_some] <;> rfl), by repeat (first | (with_reducible first | exact HB.out | apply below_alloc | apply pw_below_drewN | apply below_drew1) | exact HB.out)⟩
                  · replace c72 := Bool.eq_false_iff.mpr c72
                    subst c72
                    have H1 : ((route_Under.f a0 a0).bind fun t208 => (some (!t208))) = some r := by rw [if_neg (show ¬ (false = true) by decide)] at H; exact H
                    clear H
                    have H := H1
                    clear H1
                    replace H := Option.bind_eq_some_iff.mp H
                    obtain ⟨t208, A810, H⟩ := H
                    replace H : (some (!t208)) = some r := H
                    have A81 := Aside0.mk A810
                    clear A810
                    obtain rfl := Option.some.inj H
                    go_wp2_with (first | (go_at_call 8; (with_reducible refine (route_Under.calls a0 a1 false _ A71.out).mono ?_); rintro e w82 ⟨rfl, hb⟩; have n0_ := Aside0.mk (below_step (by repeat (first | (with_reducible first | exact HB.out | apply below_alloc | apply pw_below_drewN | apply below_drew1) | exact HB.out)) hb); clear HB; have HB := n0_; clear n0_; (try clear hb); (try clear hb2); (try clear hk); (try clear hi)) | (go_at_call 8; (with_reducible refine (route_Under.calls a0 a0 t208 _ A81.out).mono ?_); rintro e w83 ⟨rfl, hb⟩; have n0_ := Aside0.mk (below_step (by repeat (first | (with_reducible first | exact HB.out | apply below_alloc | apply pw_below_drewN | apply below_drew1) | exact HB.out)) hb); clear HB; have HB := n0_; clear n0_; (try clear hb); (try clear hb2); (try clear hk); (try clear hi)))
                    go_ret
                    exact ⟨by first | rfl | (simp [errW_none, errW_some] <;> rfl) | (simp [*, errW_none, errW_some] <;> rfl), by repeat (first | (with_reducible first | exact HB.out | apply below_alloc | apply pw_below_drewN | apply below_drew1) | exact HB.out)⟩
                · replace c70 := Bool.eq_false_iff.mpr c70
                  subst c70
                  have H1 : (some false) = some r := by rw [if_neg (show ¬ (false = true) by decide)] at H; exact H
                  clear H
                  have H := H1
                  clear H1
                  obtain rfl := Option.some.inj H
                  go_wp2
                  go_ret
                  exact ⟨by first | rfl | (simp [errW_none, errW_some] <;> rfl) | (simp [*, errW_none, errW_some] <;> rfl), by repeat (first | (with_reducible first | exact HB.out | apply below_alloc | apply pw_below_drewN | apply below_drew1) | exact HB.out)⟩

/-- THE ONE PURE STATEMENT of becketlaw02_RouteBack: yours. -/
def becketlaw02_RouteBack.Pure : Prop := ∀ (a0 : ByteArray) (a1 : ByteArray) (a2 : ByteArray), a0.size ≤ 140737488351232 → a1.size ≤ 140737488351232 → a2.size ≤ 140737488351232 → ∃ k, becketlaw02_RouteBack.f k a0 a1 a2 = some true
theorem becketlaw02_RouteBack.walk (P : becketlaw02_RouteBack.Pure) (a0 : ByteArray) (a1 : ByteArray) (a2 : ByteArray) (w : World) (w0 : a0.size ≤ 140737488351232) (w1 : a1.size ≤ 140737488351232) (w2 : a2.size ≤ 140737488351232) :
    Calls Tryd.prog 6 #[.string a0, .string a1, .string a2] w fun e w' => e = .returned (.bool true) ∧ Below w.heap.size w w' := by
  obtain ⟨k, h⟩ := P a0 a1 a2 w0 w1 w2
  refine (becketlaw02_RouteBack.calls k a0 a1 a2 true w h).mono ?_
  rintro e w' ⟨rfl, hd⟩
  exact ⟨rfl, hd⟩

end Go.Proofs.YtfneogaclbammaaDoor.Ro
