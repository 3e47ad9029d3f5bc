-- Cut by a program of this session (wip/shake.py) out of a text of this seat: what this claim doesn't reach is struck out. Lean checks it.
import Derived.Test.YtpbbgbikebcnbaaMsx0Cs
namespace Go.Proofs.Ytpbbgbikebcnbaa.Ms
open Go.RowKit Go.Proofs.YtpbbgbikebcnbaaW.PrintWords Go.Proofs.YtpbbgbikebcnbaaW.PrintLast Go.Proofs.YtpbbgbikebcnbaaW.PrintMore
attribute [local go_sem] max2_int min2_int max_two min_two max_three min_three max_four min_four   -- for this text's walks alone
set_option linter.unusedVariables false
set_option linter.unusedSimpArgs false
attribute [local go_sem] eqlErr neqErr eqlErrNil neqErrNil
open Go.Proofs.Ytpbbgbikebcnbaa.Mw
def becketref12_ints.l0 : Nat → List Int → List Int → Int → Option (Bool)
  | 0, _, _, _ => none
  | k + 1, x0, x1, x5 => if x5 < (x0.length : Int) then (if 0 ≤ x5 then (if x5 < (x1.length : Int) then (if (rd x0 x5) = (rd x1 x5) then (becketref12_ints.l0 k x0 x1 (wrap64 (x5 + 1))) else (some false)) else (none)) else (none)) else (some true)
def becketref12_ints.f (k : Nat) (l0 : List Int) (l1 : List Int) : Option (Bool) := if (l0.length : Int) = (l1.length : Int) then (becketref12_ints.l0 k l0 l1 0) else (some false)
set_option maxHeartbeats 8000000 in
set_option maxRecDepth 100000 in
theorem becketref12_ints.calls (k : Nat) (A0 : Option Addr) (c0 : Nat) (l0 : List Int) (A1 : Option Addr) (c1 : Nat) (l1 : List Int) (r : Bool) (w : World) (hr0 : Kd.C (Kd.int .i64) w A0 l0.length l0) (hc0 : l0.length ≤ c0) (hr1 : Kd.C (Kd.int .i64) w A1 l1.length l1) (hc1 : l1.length ≤ c1) (h : becketref12_ints.f k l0 l1 = some r) :
    Calls Try.prog 67 #[.slice A0 l0.length c0, .slice A1 l1.length c1] w fun e w' => e = .returned (.bool r) ∧ Drawn0 w w' := by
  have HR0 := Aside0.mk hr0
  have HC0 := Aside0.mk hc0
  clear hr0 hc0
  have HR1 := Aside0.mk hr1
  have HC1 := Aside0.mk hc1
  clear hr1 hc1
  have H : (if (l0.length : Int) = (l1.length : Int) then (becketref12_ints.l0 k l0 l1 0) else (some false)) = some r := h
  clear h
  by_cases c3 : (l0.length : Int) = (l1.length : Int)
  · rw [if_pos c3] at H
    have c3b0 : ((l0.length : Int) == (l1.length : Int)) = true := beq_iff_eq.mpr c3
    have c3b1 : ((l0.length : Int) != (l1.length : Int)) = false := bne_eq_false_iff_eq.mpr c3
    have c3b2 : (l0.length == l1.length) = true := by first | simpa using c3 | (simp at c3 ⊢; omega)
    clear c3
    have H' := Aside0.mk H
    clear H
    go_enter Try.func67, Try.ntmps67
    go_wp2
    repeat (go_quiet (fail); try go_wp2)
    go_loopg [5] k (fun kq v5 w' => ∃ (x5_1 : Int), v5 = .int .i64 x5_1 ∧ Aside0 (becketref12_ints.l0 kq l0 l1 x5_1 = some r) ∧ Aside0 (kq ≤ k) ∧ Drawn0 w w')
    case atStart => exact ⟨(0), (by first | rfl | (simp; done) | (simp [*]; done)), H', ⟨Nat.le_refl _⟩, by repeat (first | exact Drawn0.refl _ | apply Drawn0.step)⟩
    case round =>
      clear H'
      try clear c1
      try clear p2
      try clear c3
      try clear c3b0
      try clear c3b1
      try clear c3b2
      obtain ⟨x5_1, rfl, HA, HK1, ⟨m1, rfl⟩⟩ := hrel
      cases gk with
      | zero => exact absurd HA.out (by simp [becketref12_ints.l0])
      | succ k1 =>
        have H := HA.out
        clear HA
        simp only [becketref12_ints.l0] at H
        by_cases c4 : x5_1 < (l0.length : Int)
        · rw [if_pos c4] at H
          have c4b0 : decide (x5_1 < (l0.length : Int)) = true := decide_eq_true c4
          clear c4
          by_cases c5 : 0 ≤ x5_1
          · rw [if_pos c5] at H
            have c5b0 : decide (0 ≤ x5_1) = true := decide_eq_true c5
            clear c5
            by_cases c6 : x5_1 < (l1.length : Int)
            · rw [if_pos c6] at H
              have c6b0 : decide (x5_1 < (l1.length : Int)) = true := decide_eq_true c6
              clear c6
              by_cases c7 : (rd l0 x5_1) = (rd l1 x5_1)
              · rw [if_pos c7] at H
                have c7b0 : ((rd l0 x5_1) == (rd l1 x5_1)) = true := beq_iff_eq.mpr c7
                have c7b1 : ((rd l0 x5_1) != (rd l1 x5_1)) = false := bne_eq_false_iff_eq.mpr c7
                clear c7
                have H' := Aside0.mk H
                clear H
                have p453 : 0 ≤ (x5_1 : Int) := of_decide_eq_true (by first | (with_reducible assumption) | assumption)
                have q453 : x5_1 < (l0.length : Int) := of_decide_eq_true (by first | (with_reducible assumption) | assumption)
                obtain ⟨ad453, e453, hx453_0⟩ := Kd.at_int HR0.out x5_1 p453 q453
                cases e453
                replace p453 := eq_true p453
                replace q453 := eq_true q453
                have p454 : 0 ≤ (x5_1 : Int) := of_decide_eq_true (by first | (with_reducible assumption) | assumption)
                have q454 : x5_1 < (l1.length : Int) := of_decide_eq_true (by first | (with_reducible assumption) | assumption)
                obtain ⟨ad454, e454, hx454_0⟩ := Kd.at_int HR1.out x5_1 p454 q454
                cases e454
                replace p454 := eq_true p454
                replace q454 := eq_true q454
                go_wp2
                repeat (go_quiet (fail); try go_wp2)
                go_roundg k1
                case measure => have := HK1.out; omega
                case rel => exact ⟨(wrap64 (x5_1 + 1)), (by first | rfl | (simp; done) | (simp [*]; done)), H', ⟨by have := HK1.out; omega⟩, by repeat (first | exact Drawn0.refl _ | apply Drawn0.step)⟩
              · rw [if_neg c7] at H
                have c7b0 : ((rd l0 x5_1) == (rd l1 x5_1)) = false := beq_eq_false_iff_ne.mpr c7
                have c7b1 : ((rd l0 x5_1) != (rd l1 x5_1)) = true := bne_iff_ne.mpr c7
                obtain rfl := Option.some.inj H
                have p453 : 0 ≤ (x5_1 : Int) := of_decide_eq_true (by first | (with_reducible assumption) | assumption)
                have q453 : x5_1 < (l0.length : Int) := of_decide_eq_true (by first | (with_reducible assumption) | assumption)
                obtain ⟨ad453, e453, hx453_0⟩ := Kd.at_int HR0.out x5_1 p453 q453
                cases e453
                replace p453 := eq_true p453
                replace q453 := eq_true q453
                have p454 : 0 ≤ (x5_1 : Int) := of_decide_eq_true (by first | (with_reducible assumption) | assumption)
                have q454 : x5_1 < (l1.length : Int) := of_decide_eq_true (by first | (with_reducible assumption) | assumption)
                obtain ⟨ad454, e454, hx454_0⟩ := Kd.at_int HR1.out x5_1 p454 q454
                cases e454
                replace p454 := eq_true p454
                replace q454 := eq_true q454
                go_wp2
                repeat (go_quiet (fail); try go_wp2)
                go_ret
                exact ⟨by first | rfl | (simp; done) | (simp [*]; done), by repeat (first | exact Drawn0.refl _ | apply Drawn0.step)⟩
            · rw [if_neg c6] at H
              exact absurd H (by simp)
          · rw [if_neg c5] at H
            exact absurd H (by simp)
        · rw [if_neg c4] at H
          have c4b0 : decide (x5_1 < (l0.length : Int)) = false := decide_eq_false c4
          clear c4
          obtain rfl := Option.some.inj H
          go_wp2
          repeat (go_quiet (fail); try go_wp2)
          go_ret
          exact ⟨by first | rfl | (simp; done) | (simp [*]; done), by repeat (first | exact Drawn0.refl _ | apply Drawn0.step)⟩
  · rw [if_neg c3] at H
    have c3b0 : ((l0.length : Int) == (l1.length : Int)) = false := beq_eq_false_iff_ne.mpr c3
    have c3b1 : ((l0.length : Int) != (l1.length : Int)) = true := bne_iff_ne.mpr c3
    have c3b2 : (l0.length == l1.length) = false := by first | simpa using c3 | (simp at c3 ⊢; omega)
    obtain rfl := Option.some.inj H
    go_enter Try.func67, Try.ntmps67
    go_wp2
    repeat (go_quiet (fail); try go_wp2)
    go_ret
    exact ⟨by first | rfl | (simp; done) | (simp [*]; done), by repeat (first | exact Drawn0.refl _ | apply Drawn0.step)⟩
theorem ints_l (l m : List Int) (hl : l.length = m.length) (hb : l.length ≤ 9223372036854775807) : ∀ (d i k : Nat), l.length - i = d → i ≤ l.length → d + 1 ≤ k → (∀ j, j < i → l.getD j 0 = m.getD j 0) → becketref12_ints.l0 k l m (i : Int) = some (decide (l = m)) := by
  intro d
  induction d with
  | zero =>
    intro i k hd hi hk hj
    obtain ⟨k, rfl⟩ : ∃ q, k = q + 1 := ⟨k - 1, by omega⟩
    have e : l = m := by
      apply List.ext_getElem hl
      intro j h1 h2
      have := hj j (by omega)
      simpa [List.getD, h1, h2] using this
    simp only [becketref12_ints.l0]
    rw [if_neg (by omega), decide_eq_true e]
  | succ d ih =>
    intro i k hd hi hk hj
    obtain ⟨k, rfl⟩ : ∃ q, k = q + 1 := ⟨k - 1, by omega⟩
    simp only [becketref12_ints.l0]
    rw [if_pos (by omega), if_pos (by omega), if_pos (by omega)]
    by_cases he : rd l (i : Int) = rd m (i : Int)
    · rw [if_pos he, show wrap64 ((i : Int) + 1) = ((i + 1 : Nat) : Int) from by unfold wrap64; omega]
      exact ih (i + 1) k (by omega) (by omega) (by omega) (fun j hj2 => by
        by_cases e : j = i
        · subst e; exact he
        · exact hj j (by omega))
    · rw [if_neg he]
      have e : l ≠ m := fun e => he (by rw [e])
      rw [decide_eq_false e]
theorem ints_f (l m : List Int) (hb : l.length ≤ 9223372036854775807) : becketref12_ints.f (l.length + 1) l m = some (decide (l = m)) := by
  unfold becketref12_ints.f
  by_cases hl : l.length = m.length
  · rw [if_pos (by omega)]
    exact ints_l l m hl hb l.length 0 _ (by omega) (by omega) (by omega) (fun j hj => by omega)
  · rw [if_neg (by omega), decide_eq_false (fun e => hl (by rw [e]))]
def sameP (x y : S95) : Bool := (x.f0 == y.f0) && ((x.f1 == y.f1) && ((x.f2.toList == y.f2.toList) && decide (x.f3 = y.f3)))
theorem str_eq {a b : ByteArray} (h : a.toList = b.toList) : a = b := by
  rw [Go.ByteArray.toList_eq, Go.ByteArray.toList_eq] at h
  cases a; cases b
  simpa using h
theorem sameP_iff (x y : S95) : sameP x y = true ↔ x = y := by
  obtain ⟨a, b, c, d⟩ := x
  obtain ⟨a', b', c', d'⟩ := y
  unfold sameP
  simp only [Bool.and_eq_true, beq_iff_eq, decide_eq_true_eq, S95.mk.injEq]
  constructor
  · rintro ⟨h1, h2, h3, h4⟩
    exact ⟨h1, h2, str_eq h3, h4⟩
  · rintro ⟨h1, h2, h3, h4⟩
    exact ⟨h1, h2, by rw [h3], h4⟩
def samePs : List S95 → List S95 → Bool
  | [], [] => true
  | x :: xs, y :: ys => sameP x y && samePs xs ys
  | [], _ :: _ => false
  | _ :: _, [] => false
theorem samePs_iff : ∀ l m, samePs l m = true ↔ l = m
  | [], [] => by simp [samePs]
  | x :: xs, y :: ys => by simp [samePs, sameP_iff, samePs_iff xs ys]
  | [], _ :: _ => by simp [samePs]
  | _ :: _, [] => by simp [samePs]
theorem samePs_no {l m : List S95} {j : Nat} {x y} (h1 : l[j]? = some x) (h2 : m[j]? = some y) (h : sameP x y = false) : samePs l m = false := by
  rw [← Bool.not_eq_true]
  intro hc
  have := (samePs_iff l m).1 hc
  rw [this, h2] at h1
  cases h1
  rw [(sameP_iff x x).2 rfl] at h
  cases h
theorem samePs_yes {l m : List S95} (hl : l.length = m.length) (h : ∀ (j : Nat) (x y : S95), l[j]? = some x → m[j]? = some y → sameP x y = true) : samePs l m = true := by
  rw [samePs_iff]
  apply List.ext_getElem hl
  intro j h1 h2
  exact (sameP_iff _ _).1 (h j _ _ (List.getElem?_eq_getElem h1) (List.getElem?_eq_getElem h2))
theorem samePs_len {l m : List S95} (hl : l.length ≠ m.length) : samePs l m = false := by
  rw [← Bool.not_eq_true, samePs_iff]
  exact fun e => hl (by rw [e])
theorem proof_at {w : World} {A : Option Addr} {l : List S95} (hC : Kd.C k95 w A l.length l) (hpos : 0 < l.length) : ∃ b off, A = some ⟨b, off, none⟩ ∧ ∀ j x, l[j]? = some x → ∃ A3 c3,
    w.cell? ⟨b, off + j * 4, none⟩ = some (.int .i64 x.f0) ∧ w.cell? ⟨b, off + j * 4 + 1, none⟩ = some (.int .i64 x.f1) ∧ w.cell? ⟨b, off + j * 4 + 2, none⟩ = some (.string x.f2) ∧ w.cell? ⟨b, off + j * 4 + 3, none⟩ = some (.slice A3 x.f3.length c3) ∧ x.f3.length ≤ c3 ∧ Kd.C (Kd.int .i64) w A3 x.f3.length x.f3 := by
  obtain ⟨b, off, e, _, h⟩ := Go.Proofs.Ytpbbgbikebcnbaa.MsgC.row_at (d := k95) (by decide) hC hpos
  refine ⟨b, off, e, fun j x hj => ?_⟩
  obtain ⟨cs, h1, h2, h3⟩ := h j x hj
  obtain ⟨A3, c3, rfl, h5, h6⟩ := k95_open h2
  exact ⟨A3, c3, h3 0 _ rfl, h3 1 _ rfl, h3 2 _ rfl, h3 3 _ rfl, h5, h6⟩
theorem quietD {P : Program} {f : FuncId} {args : Array Value} {w : World} {n : Nat} {v : Value} (h : Calls P f args (w.drewN n) fun e w' => e = .returned v ∧ Drawn0 (w.drewN n) w') : Calls P f args (w.drewN n) fun e w' => e = .returned v ∧ ∃ m, w' = w.drewN m := Calls.quiet_of (h.mono fun _ _ ⟨a, ⟨b⟩⟩ => ⟨a, b⟩)
theorem drawn_C {α : Type} {d : Kd α} {w W : World} {A : Option Addr} {n : Nat} {xs : List α} (h : Drawn0 w W) (hC : d.C w A n xs) : d.C W A n xs := by
  obtain ⟨m, rfl⟩ := h
  exact Kd.C_drewN hC m
theorem drawn_step {w W : World} (h : Drawn0 w W) (m : Nat) : Drawn0 w (W.drewN m) := by
  obtain ⟨n, rfl⟩ := h
  exact ⟨⟨n + m, World.drewN_drewN _ _ _⟩⟩
def becketref12_SameProofs.f (l0 l1 : List S95) : Option Bool := some (samePs l0 l1)
set_option maxHeartbeats 8000000 in
set_option maxRecDepth 100000 in
theorem becketref12_SameProofs.calls (A0 : Option Addr) (c0 : Nat) (l0 : List S95) (A1 : Option Addr) (c1 : Nat) (l1 : List S95) (r : Bool) (w : World) (hr0 : Kd.C k95 w A0 l0.length l0) (hc0 : l0.length ≤ c0) (hr1 : Kd.C k95 w A1 l1.length l1) (hc1 : l1.length ≤ c1) (h : becketref12_SameProofs.f l0 l1 = some r) :
    Calls Try.prog 45 #[.slice A0 l0.length c0, .slice A1 l1.length c1] w fun e w' => e = .returned (.bool r) ∧ Drawn0 w w' := by
  obtain rfl := Option.some.inj h
  clear h
  by_cases hl : l0.length = l1.length
  rotate_left
  · have d1 : (((l0.length : Nat) : Int) == ((l1.length : Nat) : Int)) = false := beq_eq_false_iff_ne.2 (by omega)
    have d2 : (((l0.length : Nat) : Int) != ((l1.length : Nat) : Int)) = true := bne_iff_ne.2 (by omega)
    rw [samePs_len hl]
    clear hl hr0 hr1
    go_enter Try.func45, Try.ntmps45
    go_wp2
    go_ret
    exact ⟨rfl, ⟨0, rfl⟩⟩
  have hbig := hr0.2.1
  have hp0 := fun W (hW : Drawn0 w W) h => proof_at (drawn_C hW hr0) h
  have hp1 := fun W (hW : Drawn0 w W) h => proof_at (drawn_C hW hr1) h
  have HL := Lib.hid hl
  have HBig := Lib.hid hbig
  have HP0 := Lib.hid hp0
  have HP1 := Lib.hid hp1
  have he : ∃ n, n = l0.length := ⟨_, rfl⟩
  obtain ⟨n, hn⟩ := he
  rw [← hl, ← hn] at HP1
  rw [← hn] at HP0
  rw [← hl, ← hn]
  have HN := Lib.hid hn
  rw [← hn] at hbig
  clear hn hl hr0 hr1 hc0 hc1 hp0 hp1
  go_enter Try.func45, Try.ntmps45
  go_wp2
  go_loopg [5] n (fun gg s5 wr => ∃ kk : Nat, kk ≤ n ∧ n - kk ≤ gg ∧ s5 = .int .i64 kk ∧ Hid (Drawn0 w wr) ∧ Hid (∀ j x y, j < kk → l0[j]? = some x → l1[j]? = some y → sameP x y = true))
  case atStart => exact ⟨0, Nat.zero_le _, by omega, rfl, Lib.hid ⟨0, rfl⟩, Lib.hid (fun j x y hj => absurd hj (Nat.not_lt_zero _))⟩
  case round =>
    obtain ⟨kk, hkk, hg, rfl, BW, AL⟩ := hrel
    by_cases hlt : kk < n
    · have hltz : (kk : Int) < (n : Int) := by omega
      obtain ⟨b0, o0, rfl, hx0⟩ := HP0.out wr BW.out (by omega)
      obtain ⟨b1, o1, rfl, hx1⟩ := HP1.out wr BW.out (by omega)
      have hk0 : kk < l0.length := by rw [← HN.out]; exact hlt
      have hk1 : kk < l1.length := by rw [← HL.out]; exact hk0
      obtain ⟨x, hx⟩ : ∃ x, l0[kk]? = some x := ⟨_, List.getElem?_eq_getElem hk0⟩
      obtain ⟨y, hy⟩ : ∃ y, l1[kk]? = some y := ⟨_, List.getElem?_eq_getElem hk1⟩
      obtain ⟨A3, c3, f0, f1, f2, f3, f4, f5⟩ := hx0 kk x hx
      obtain ⟨A4, c4, g0, g1, g2, g3, g4, g5⟩ := hx1 kk y hy
      have hi := fun W hC0 hC1 => becketref12_ints.calls (x.f3.length + 1) A3 c3 x.f3 A4 c4 y.f3 (decide (x.f3 = y.f3)) W hC0 f4 hC1 g4 (ints_f _ _ f5.2.1)
      have HI : Hid (∀ m, Calls Try.prog 67 #[.slice A3 x.f3.length c3, .slice A4 y.f3.length c4] (wr.drewN m) fun e w' => e = .returned (.bool (decide (x.f3 = y.f3))) ∧ Drawn0 (wr.drewN m) w') := Lib.hid (fun m => hi _ (Kd.C_drewN f5 m) (Kd.C_drewN g5 m))
      have HX := Lib.hid hx
      have HY := Lib.hid hy
      have HS : Hid (sameP x y = ((x.f0 == y.f0) && ((x.f1 == y.f1) && ((x.f2.toList == y.f2.toList) && decide (x.f3 = y.f3))))) := Lib.hid rfl
      clear hi f4 f5 g4 g5 hx hy hx0 hx1 hk0 hk1
      obtain ⟨v0, v1, v2, v3⟩ := x
      obtain ⟨u0, u1, u2, u3⟩ := y
      dsimp only at *
      generalize hq : decide (v3 = u3) = q at *
      clear hq
      by_cases e0 : v0 = u0
      rotate_left
      · have d0 : (v0 == u0) = false := beq_eq_false_iff_ne.2 e0
        have d0' : (v0 != u0) = true := bne_iff_ne.2 e0
        have HE : Hid ((v0 == u0) = false) := Lib.hid d0
        clear e0
        go_wp2_with fail
        repeat (go_quiet (fail); try go_wp2)
        go_ret
        refine ⟨?_, drawn_step BW.out _⟩
        rw [samePs_no HX.out HY.out (by rw [HS.out]; simp only [HE.out, Bool.false_and, Bool.and_false])]
        rfl
      have d0 : (v0 == u0) = true := beq_iff_eq.2 e0
      have d0' : (v0 != u0) = false := bne_eq_false_iff_eq.2 e0
      have HE0 := Lib.hid d0
      clear e0
      by_cases e1 : v1 = u1
      rotate_left
      · have d1 : (v1 == u1) = false := beq_eq_false_iff_ne.2 e1
        have d1' : (v1 != u1) = true := bne_iff_ne.2 e1
        have HE : Hid ((v1 == u1) = false) := Lib.hid d1
        clear e1
        go_wp2_with fail
        repeat (go_quiet (fail); try go_wp2)
        go_ret
        refine ⟨?_, drawn_step BW.out _⟩
        rw [samePs_no HX.out HY.out (by rw [HS.out]; simp only [HE.out, Bool.false_and, Bool.and_false])]
        rfl
      have d1 : (v1 == u1) = true := beq_iff_eq.2 e1
      have d1' : (v1 != u1) = false := bne_eq_false_iff_eq.2 e1
      have HE1 := Lib.hid d1
      clear e1
      by_cases e2 : v2.toList = u2.toList
      rotate_left
      · have d2 : (v2.toList == u2.toList) = false := beq_eq_false_iff_ne.2 e2
        have d2' : (v2.toList != u2.toList) = true := bne_iff_ne.2 e2
        have HE : Hid ((v2.toList == u2.toList) = false) := Lib.hid d2
        clear e2
        go_wp2_with fail
        repeat (go_quiet (fail); try go_wp2)
        go_ret
        refine ⟨?_, drawn_step BW.out _⟩
        rw [samePs_no HX.out HY.out (by rw [HS.out]; simp only [HE.out, Bool.false_and, Bool.and_false])]
        rfl
      have d2 : (v2.toList == u2.toList) = true := beq_iff_eq.2 e2
      have d2' : (v2.toList != u2.toList) = false := bne_eq_false_iff_eq.2 e2
      have HE2 := Lib.hid d2
      clear e2
      cases q with
      | false =>
        go_wp2_with fail
        repeat (go_quiet ((go_at_call 67; exact quietD (HI.out _))); try go_wp2)
        go_ret
        refine ⟨?_, drawn_step BW.out _⟩
        rw [samePs_no HX.out HY.out (by rw [HS.out]; simp only [Bool.false_and, Bool.and_false])]
        rfl
      | true =>
        go_wp2_with fail
        repeat (go_quiet ((go_at_call 67; exact quietD (HI.out _))); try go_wp2)
        go_roundg (n - (kk + 1))
        case measure => omega
        case rel =>
          refine ⟨kk + 1, by omega, by omega, by go_num, Lib.hid (drawn_step BW.out _), Lib.hid (fun j x y hj hx hy => ?_)⟩
          by_cases e : j = kk
          · subst e
            rw [HX.out] at hx
            rw [HY.out] at hy
            cases hx
            cases hy
            rw [HS.out, HE0.out, HE1.out, HE2.out]
            rfl
          · exact AL.out j x y (by omega) hx hy
    · have hltz : ¬ (kk : Int) < (n : Int) := by omega
      have : kk = n := by omega
      subst this
      go_wp2
      go_ret
      refine ⟨?_, BW.out⟩
      rw [samePs_yes HL.out (fun j x y hx hy => AL.out j x y (by rw [HN.out]; exact (List.getElem?_eq_some_iff.1 hx).1) hx hy)]
      rfl
end Go.Proofs.Ytpbbgbikebcnbaa.Ms
