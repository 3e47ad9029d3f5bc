-- Cut by a program of this session (wip/shake.py) out of a text of this seat: what this claim doesn't reach is struck out. Lean checks it.
import Derived.Test.YtkaoojcafefjjaaMsx0Cp
namespace Go.Proofs.Ytkaoojcafefjjaa.Ms
open Go.RowKit Go.Proofs.YtkaoojcafefjjaaW.PrintWords Go.Proofs.YtkaoojcafefjjaaW.PrintLast Go.Proofs.YtkaoojcafefjjaaW.PrintMore
attribute [local go_sem] max2_int min2_int max_two min_two max_three min_three max_four min_four   -- for this text's walks alone
set_option linter.unusedVariables false
set_option linter.unusedSimpArgs false
attribute [local go_sem] eqlErr neqErr eqlErrNil neqErrNil
open Go.Proofs.Ytkaoojcafefjjaa.Mw
def msg_within.f (a0 : Int) (a1 : Int) : Option (Bool) := if a0 ≥ 0 then (some (decide (a0 ≤ a1))) else (some false)
set_option maxHeartbeats 8000000 in
set_option maxRecDepth 100000 in
theorem msg_within.calls (a0 : Int) (a1 : Int) (r : Bool) (w : World) (h : msg_within.f a0 a1 = some r) :
    Calls Try.prog 33 #[.int .i64 a0, .int .i64 a1] w fun e w' => e = .returned (.bool r) ∧ Drawn0 w w' := by
  have H : (if a0 ≥ 0 then (some (decide (a0 ≤ a1))) else (some false)) = some r := h
  clear h
  by_cases c3 : a0 ≥ 0
  · rw [if_pos c3] at H
    have c3b0 : decide (0 ≤ a0) = true := decide_eq_true c3
    clear c3
    obtain rfl := Option.some.inj H
    go_enter Try.func33, Try.ntmps33
    go_wp2
    go_ret
    exact ⟨by first | rfl | (simp; done) | (simp [*]; done), by repeat (first | exact Drawn0.refl _ | apply Drawn0.step)⟩
  · rw [if_neg c3] at H
    have c3b0 : decide (0 ≤ a0) = false := decide_eq_false c3
    clear c3
    obtain rfl := Option.some.inj H
    go_enter Try.func33, Try.ntmps33
    go_wp2
    go_ret
    exact ⟨by first | rfl | (simp; done) | (simp [*]; done), by repeat (first | exact Drawn0.refl _ | apply Drawn0.step)⟩
def msg_node.f (a0 : Int) : Option (Bool) := (msg_within.f a0 12).bind fun t101 => (some t101)
set_option maxHeartbeats 8000000 in
set_option maxRecDepth 100000 in
theorem msg_node.calls (a0 : Int) (r : Bool) (w : World) (h : msg_node.f a0 = some r) :
    Calls Try.prog 32 #[.int .i64 a0] w fun e w' => e = .returned (.bool r) ∧ Drawn0 w w' := by
  have H : ((msg_within.f a0 12).bind fun t101 => (some t101)) = some r := h
  clear h
  replace H := Option.bind_eq_some_iff.mp H
  obtain ⟨t101, A20, H⟩ := H
  replace H : (some t101) = some r := H
  have A2 := Aside0.mk A20
  clear A20
  obtain rfl := Option.some.inj H
  go_enter Try.func32, Try.ntmps32
  go_wp2_with (first | ((with_reducible refine gate_callee (f := 33) rfl ?_); refine goesL_ (some 4) rfl rfl Try.func33 (by kernel_rfl) rfl #[.int .i64 a0, .int .i64 12] rfl (by (try simp only [List.map_toArray, List.map_cons, List.map_nil]); first | done | rfl | (simp only [List.length_drop, List.length_take]; rfl)) ?_; (with_reducible refine (msg_within.calls a0 12 t101 _ A2.out).mono ?_); rintro e w' ⟨rfl, ⟨nd, rfl⟩⟩; refine ⟨_, rfl, ?_⟩))
  go_ret
  exact ⟨by first | rfl | (simp; done) | (simp [*]; done), by repeat (first | exact Drawn0.refl _ | apply Drawn0.step)⟩
def nodeB (n : Int) : Bool := decide (0 ≤ n) && decide (n ≤ 12)
def inB (n most : Int) : Bool := decide (0 ≤ n) && decide (n ≤ most)
def proofB (x : S68) : Bool := inB x.f0 64 && (inB x.f1 64 && (decide (x.f2.size ≤ 4096) && (decide (x.f3.length ≤ 13) && !(x.f3.any fun n => !nodeB n))))
def proofsB (l : List S68) : Bool := decide (l.length ≤ 64) && !(l.any fun p => !proofB p)
theorem within_f (n m : Int) : msg_within.f n m = some (inB n m) := by
  unfold msg_within.f inB
  by_cases h : n ≥ 0
  · rw [if_pos h, decide_eq_true (show 0 ≤ n from h)]; rfl
  · rw [if_neg h, decide_eq_false (show ¬ 0 ≤ n from h)]; rfl
theorem node_f (n : Int) : msg_node.f n = some (nodeB n) := by
  unfold msg_node.f
  rw [within_f]; rfl
theorem proof1_calls (n : Int) (w : World) : Calls Try.prog 45 #[.int .i64 n] w fun e w' => e = .returned (.bool (!nodeB n)) ∧ Below w.heap.size w w' := by
  go_enter Try.func45, Try.ntmps45
  go_wp2_with fail
  refine (msg_node.calls n (nodeB n) _ (node_f n)).mono ?_
  rintro e w1 ⟨rfl, ⟨m, rfl⟩⟩
  go_wp2
  go_ret
  exact ⟨rfl, pw_below_drewN (Below.refl _ _) _⟩
set_option maxHeartbeats 4000000 in
theorem proof_calls (x : S68) (A : Option Addr) (c : Nat) (w : World) (hC : Kd.C (Kd.int .i64) w A x.f3.length x.f3) (hc : x.f3.length ≤ c) :
    Calls Try.prog 40 #[.agg #[.int .i64 x.f0, .int .i64 x.f1, .string x.f2, .slice A x.f3.length c]] w fun e w' => e = .returned (.bool (proofB x)) ∧ Below w.heap.size w w' := by
  obtain ⟨v, s, b, l⟩ := x
  dsimp only at hC hc ⊢
  have hin := fun (n m : Int) (W : World) => msg_within.calls n m (inB n m) W (within_f n m)
  have HI := Lib.hid hin
  have hh : ∀ W : World, Below w.heap.size w W → Calls Try.prog 46 #[.slice A l.length c, .func (.func 45) #[] #[]] W fun e w' => e = .returned (.bool (l.any fun n => !nodeB n)) ∧ Below W.heap.size W w' := fun W hW =>
    Go.Proofs.Ytkaoojcafefjjaa.MsgC.has_int (Kd.int .i64) rfl (fun n => !nodeB n) 45 (enters_of Try.func45 (by kernel_rfl) rfl) A c l W (Kd.C_below hC hW) (fun W2 x u _ hk => by
      obtain rfl : u = .int .i64 x := List.head_eq_of_cons_eq hk
      exact proof1_calls x W2)
  have HH := Lib.hid hh
  clear hh hin hC
  generalize hq1 : inB v 64 = q1
  have HQ1 := Lib.hid hq1
  generalize hq2 : inB s 64 = q2
  have HQ2 := Lib.hid hq2
  generalize hq5 : (l.any fun n => !nodeB n) = q5 at HH
  have HQ5 := Lib.hid hq5
  have hB0 := Lib.hid ((Below.refl w.heap.size w).alloc (Nat.le_refl _) (.cells #[.int .i64 v, .int .i64 s, .string b, .slice A l.length c] 68))
  have hP : proofB ⟨v, s, b, l⟩ = (q1 && (q2 && (decide (b.size ≤ 4096) && (decide (l.length ≤ 13) && !q5)))) := by
    unfold proofB; rw [hq1, hq2, hq5]
  rw [hP]
  clear hP hq1 hq2 hq5
  by_cases h3 : b.size ≤ 4096
  all_goals
    by_cases h4 : l.length ≤ 13
    all_goals
      first | (have d3 : decide ((b.size : Int) ≤ 4096) = true := decide_eq_true (by omega); rw [decide_eq_true h3]) | (have d3 : decide ((b.size : Int) ≤ 4096) = false := decide_eq_false (by omega); rw [decide_eq_false h3])
      first | (have d4 : decide ((l.length : Int) ≤ 13) = true := decide_eq_true (by omega); rw [decide_eq_true h4]) | (have d4 : decide ((l.length : Int) ≤ 13) = false := decide_eq_false (by omega); rw [decide_eq_false h4])
      clear h3 h4
      go_enter Try.func40, Try.ntmps40
      go_wp2_with fail
      refine (HI.out v 64 _).mono ?_
      rintro e w1 ⟨rfl, ⟨m1, rfl⟩⟩
      rw [HQ1.out]
      cases q1 with
      | false =>
        go_wp2
        go_ret
        exact ⟨rfl, pw_below_drewN hB0.out _⟩
      | true =>
        go_wp2_with fail
        refine (HI.out s 64 _).mono ?_
        rintro e w2 ⟨rfl, ⟨m2, rfl⟩⟩
        rw [HQ2.out]
        cases q2 with
        | false =>
          go_wp2
          go_ret
          exact ⟨rfl, pw_below_drewN hB0.out _⟩
        | true =>
          go_wp2_with fail
          first
          | (go_ret
             exact ⟨by simp, pw_below_drewN hB0.out _⟩)
          | (refine (HH.out _ (pw_below_drewN hB0.out _)).mono ?_
             rintro e w3 ⟨rfl, hb⟩
             have HB := Lib.hid hb
             clear hb
             go_wp2
             go_ret
             exact ⟨by simp, (pw_below_drewN hB0.out (m1 + m2)).trans (HB.out.mono (pw_below_drewN hB0.out (m1 + m2)).size)⟩)
theorem proofs1_calls (x : S68) (A : Option Addr) (c : Nat) (w : World) (hC : Kd.C (Kd.int .i64) w A x.f3.length x.f3) (hc : x.f3.length ≤ c) :
    Calls Try.prog 39 #[.agg #[.int .i64 x.f0, .int .i64 x.f1, .string x.f2, .slice A x.f3.length c]] w fun e w' => e = .returned (.bool (!proofB x)) ∧ Below w.heap.size w w' := by
  have hh : ∀ W : World, Below w.heap.size w W → Calls Try.prog 40 #[.agg #[.int .i64 x.f0, .int .i64 x.f1, .string x.f2, .slice A x.f3.length c]] W fun e w' => e = .returned (.bool (proofB x)) ∧ Below W.heap.size W w' := fun W hW => proof_calls x A c W (Kd.C_below hC hW) hc
  generalize proofB x = q at hh ⊢
  obtain ⟨v, s, b, l⟩ := x
  dsimp only at hC hc hh ⊢
  have HH := Lib.hid hh
  have hB0 := Lib.hid ((Below.refl w.heap.size w).alloc (Nat.le_refl _) (.cells #[.int .i64 v, .int .i64 s, .string b, .slice A l.length c] 68))
  clear hh hC
  go_enter Try.func39, Try.ntmps39
  go_wp2_with fail
  refine (HH.out _ hB0.out).mono ?_
  rintro e w3 ⟨rfl, hb⟩
  have HB := Lib.hid hb
  clear hb
  go_wp2
  go_ret
  exact ⟨rfl, hB0.out.trans (HB.out.mono hB0.out.size)⟩
def msg_proofs.f (l0 : List S68) : Option Bool := some (proofsB l0)
theorem msg_proofs.calls (A0 : Option Addr) (c0 : Nat) (l0 : List S68) (r : Bool) (w : World) (hr0 : Kd.C k68 w A0 l0.length l0) (hc0 : l0.length ≤ c0) (h : msg_proofs.f l0 = some r) :
    Calls Try.prog 34 #[.slice A0 l0.length c0] w fun e w' => e = .returned (.bool r) ∧ Below w.heap.size w w' := by
  obtain rfl := Option.some.inj h
  have hh : ∀ W : World, Below w.heap.size w W → Calls Try.prog 38 #[.slice A0 l0.length c0, .func (.func 39) #[] #[]] W fun e w' => e = .returned (.bool (l0.any fun p => !proofB p)) ∧ Below W.heap.size W w' := fun W hW =>
    Go.Proofs.Ytkaoojcafefjjaa.MsgC.has_proof k68 rfl (fun p => !proofB p) 39 (enters_of Try.func39 (by kernel_rfl) rfl) A0 c0 l0 W (Kd.C_below hr0 hW) (fun W2 x u0 u1 u2 u3 _ hk => by
      obtain ⟨A3, c3, he, h1, h2⟩ := k68_open hk
      simp only [List.cons.injEq, and_true] at he
      obtain ⟨rfl, rfl, rfl, rfl⟩ := he
      exact proofs1_calls x A3 c3 W2 h2 h1)
  have HH := Lib.hid hh
  have hP : proofsB l0 = (decide (l0.length ≤ 64) && !(l0.any fun p => !proofB p)) := rfl
  rw [hP]
  generalize (l0.any fun p => !proofB p) = q at HH ⊢
  clear hh hr0 hP h
  generalize l0.length = n at HH hc0 ⊢
  by_cases h1 : n ≤ 64
  · have d1 : decide ((n : Int) ≤ 64) = true := decide_eq_true (by omega)
    rw [decide_eq_true h1]
    clear h1
    go_enter Try.func34, Try.ntmps34
    go_wp2_with fail
    refine (HH.out _ (Below.refl _ _)).mono ?_
    rintro e w3 ⟨rfl, hb⟩
    have HB := Lib.hid hb
    clear hb
    go_wp2
    go_ret
    exact ⟨by simp, HB.out⟩
  · have d1 : decide ((n : Int) ≤ 64) = false := decide_eq_false (by omega)
    rw [decide_eq_false h1]
    clear h1
    go_enter Try.func34, Try.ntmps34
    go_wp2
    go_ret
    exact ⟨by simp, Below.refl _ _⟩
def changeBad (x : S58) : Bool := !nodeB x.f0 || (!inB x.f1 64 || !proofsB x.f2)
def changesB (l : List S58) : Bool := decide (l.length ≤ 13) && !(l.any changeBad)
set_option maxHeartbeats 4000000 in
theorem changes1_calls (x : S58) (A : Option Addr) (c : Nat) (w : World) (hC : Kd.C k68 w A x.f2.length x.f2) (hc : x.f2.length ≤ c) :
    Calls Try.prog 41 #[.agg #[.int .i64 x.f0, .int .i64 x.f1, .slice A x.f2.length c]] w fun e w' => e = .returned (.bool (changeBad x)) ∧ Below w.heap.size w w' := by
  obtain ⟨v, s, l⟩ := x
  dsimp only at hC hc ⊢
  have HN := Lib.hid (fun (n : Int) (W : World) => msg_node.calls n (nodeB n) W (node_f n))
  have HI := Lib.hid (fun (n m : Int) (W : World) => msg_within.calls n m (inB n m) W (within_f n m))
  have HH := Lib.hid (fun (W : World) (hW : Below w.heap.size w W) => msg_proofs.calls A c l (proofsB l) W (Kd.C_below hC hW) hc rfl)
  have hP : changeBad ⟨v, s, l⟩ = (!nodeB v || (!inB s 64 || !proofsB l)) := rfl
  rw [hP]
  generalize hq1 : nodeB v = q1
  have HQ1 := Lib.hid hq1
  generalize hq2 : inB s 64 = q2
  have HQ2 := Lib.hid hq2
  generalize proofsB l = q3 at HH ⊢
  have hB0 := Lib.hid ((Below.refl w.heap.size w).alloc (Nat.le_refl _) (.cells #[.int .i64 v, .int .i64 s, .slice A l.length c] 58))
  clear hP hq1 hq2 hC
  go_enter Try.func41, Try.ntmps41
  go_wp2_with fail
  refine (HN.out v _).mono ?_
  rintro e w1 ⟨rfl, ⟨m1, rfl⟩⟩
  rw [HQ1.out]
  cases q1 with
  | false =>
    go_wp2
    go_ret
    exact ⟨rfl, pw_below_drewN hB0.out _⟩
  | true =>
    go_wp2_with fail
    refine (HI.out s 64 _).mono ?_
    rintro e w2 ⟨rfl, ⟨m2, rfl⟩⟩
    rw [HQ2.out]
    cases q2 with
    | false =>
      go_wp2
      go_ret
      exact ⟨rfl, pw_below_drewN hB0.out _⟩
    | true =>
      go_wp2_with fail
      refine (HH.out _ (pw_below_drewN hB0.out _)).mono ?_
      rintro e w3 ⟨rfl, hb⟩
      have HB := Lib.hid hb
      clear hb
      go_wp2
      go_ret
      exact ⟨by simp, (pw_below_drewN hB0.out (m1 + m2)).trans (HB.out.mono (pw_below_drewN hB0.out (m1 + m2)).size)⟩
def msg_changes.f (l0 : List S58) : Option Bool := some (changesB l0)
theorem msg_changes.calls (A0 : Option Addr) (c0 : Nat) (l0 : List S58) (r : Bool) (w : World) (hr0 : Kd.C k58 w A0 l0.length l0) (hc0 : l0.length ≤ c0) (h : msg_changes.f l0 = some r) :
    Calls Try.prog 35 #[.slice A0 l0.length c0] w fun e w' => e = .returned (.bool r) ∧ Below w.heap.size w w' := by
  obtain rfl := Option.some.inj h
  have hh : ∀ W : World, Below w.heap.size w W → Calls Try.prog 42 #[.slice A0 l0.length c0, .func (.func 41) #[] #[]] W fun e w' => e = .returned (.bool (l0.any changeBad)) ∧ Below W.heap.size W w' := fun W hW =>
    Go.Proofs.Ytkaoojcafefjjaa.MsgC.has_change k58 rfl changeBad 41 (enters_of Try.func41 (by kernel_rfl) rfl) A0 c0 l0 W (Kd.C_below hr0 hW) (fun W2 x u0 u1 u2 _ hk => by
      obtain ⟨A3, c3, he, h1, h2⟩ := k58_open hk
      simp only [List.cons.injEq, and_true] at he
      obtain ⟨rfl, rfl, rfl⟩ := he
      exact changes1_calls x A3 c3 W2 h2 h1)
  have HH := Lib.hid hh
  have hP : changesB l0 = (decide (l0.length ≤ 13) && !(l0.any changeBad)) := rfl
  rw [hP]
  generalize l0.any changeBad = q at HH ⊢
  clear hh hr0 hP h
  generalize l0.length = n at HH hc0 ⊢
  by_cases h1 : n ≤ 13
  · have d1 : decide ((n : Int) ≤ 13) = true := decide_eq_true (by omega)
    rw [decide_eq_true h1]
    clear h1
    go_enter Try.func35, Try.ntmps35
    go_wp2_with fail
    refine (HH.out _ (Below.refl _ _)).mono ?_
    rintro e w3 ⟨rfl, hb⟩
    have HB := Lib.hid hb
    clear hb
    go_wp2
    go_ret
    exact ⟨by simp, HB.out⟩
  · have d1 : decide ((n : Int) ≤ 13) = false := decide_eq_false (by omega)
    rw [decide_eq_false h1]
    clear h1
    go_enter Try.func35, Try.ntmps35
    go_wp2
    go_ret
    exact ⟨by simp, Below.refl _ _⟩
end Go.Proofs.Ytkaoojcafefjjaa.Ms
