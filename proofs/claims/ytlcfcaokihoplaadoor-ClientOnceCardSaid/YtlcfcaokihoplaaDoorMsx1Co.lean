-- Cut by a program of this session (wip/shake.py) out of a text of this seat: what this claim doesn't reach is struck out. Lean checks it.
import Derived.Test.YtlcfcaokihoplaaDoorMsx0Co
namespace Go.Proofs.YtlcfcaokihoplaaDoor.Ms
open Go.RowKit Go.Proofs.YtlcfcaokihoplaaDoorW.PrintWords Go.Proofs.YtlcfcaokihoplaaDoorW.PrintLast Go.Proofs.YtlcfcaokihoplaaDoorW.PrintMore
attribute [local go_sem] max2_int min2_int max_two min_two max_three min_three max_four min_four   -- for this text's walks alone
set_option linter.unusedVariables false
set_option linter.unusedSimpArgs false
attribute [local go_sem] eqlErr neqErr eqlErrNil neqErrNil
open Go.Proofs.YtlcfcaokihoplaaDoor.Mw
def order_keys.f (l0 : List ByteArray) : Option Bool := if l0.length ≤ 1099511627776 then some (Go.Proofs.YtlcfcaokihoplaaDoor.OrderNK.keysOk l0) else none
theorem order_keys.calls (A0 : Option Addr) (c0 : Nat) (l0 : List ByteArray) (r : Bool) (w : World) (hr0 : Kd.C Kd.string w A0 l0.length l0) (hc0 : l0.length ≤ c0) (h : order_keys.f l0 = some r) :
    Calls Tryd.prog 34 #[.slice A0 l0.length c0] w fun e w' => e = .returned (.bool r) ∧ Below w.heap.size w w' := by
  unfold order_keys.f at h
  split at h
  · rename_i hh
    obtain rfl := Option.some.inj h
    exact Go.Proofs.YtlcfcaokihoplaaDoor.OrderNK.keys_calls A0 c0 l0 w hr0 hh
  · cases h
def order_named.f (a0 : Int) : Option (Bool) := if a0 = 5 then (some false) else (if a0 = 8 then (some false) else (some (a0 != 9)))
set_option maxHeartbeats 8000000 in
set_option maxRecDepth 100000 in
theorem order_named.calls (a0 : Int) (r : Bool) (w : World) (h : order_named.f a0 = some r) :
    Calls Tryd.prog 35 #[.int .i64 a0] w fun e w' => e = .returned (.bool r) ∧ Drawn0 w w' := by
  have H : (if a0 = 5 then (some false) else (if a0 = 8 then (some false) else (some (a0 != 9)))) = some r := h
  clear h
  by_cases c2 : a0 = 5
  · rw [if_pos c2] at H
    have c2b0 : (a0 == 5) = true := beq_iff_eq.mpr c2
    have c2b1 : (a0 != 5) = false := bne_eq_false_iff_eq.mpr c2
    clear c2
    obtain rfl := Option.some.inj H
    go_enter Tryd.func35, Tryd.ntmps35
    go_wp2
    go_ret
    exact ⟨by first | rfl | (simp; done) | (simp [*]; done), by repeat (first | exact Drawn0.refl _ | apply Drawn0.step)⟩
  · rw [if_neg c2] at H
    have c2b0 : (a0 == 5) = false := beq_eq_false_iff_ne.mpr c2
    have c2b1 : (a0 != 5) = true := bne_iff_ne.mpr c2
    by_cases c3 : a0 = 8
    · rw [if_pos c3] at H
      have c3b0 : (a0 == 8) = true := beq_iff_eq.mpr c3
      have c3b1 : (a0 != 8) = false := bne_eq_false_iff_eq.mpr c3
      clear c3
      obtain rfl := Option.some.inj H
      go_enter Tryd.func35, Tryd.ntmps35
      go_wp2
      go_ret
      exact ⟨by first | rfl | (simp; done) | (simp [*]; done), by repeat (first | exact Drawn0.refl _ | apply Drawn0.step)⟩
    · rw [if_neg c3] at H
      have c3b0 : (a0 == 8) = false := beq_eq_false_iff_ne.mpr c3
      have c3b1 : (a0 != 8) = true := bne_iff_ne.mpr c3
      obtain rfl := Option.some.inj H
      go_enter Tryd.func35, Tryd.ntmps35
      go_wp2
      go_ret
      exact ⟨by first | rfl | (simp; done) | (simp [*]; done), by repeat (first | exact Drawn0.refl _ | apply Drawn0.step)⟩
def route_Check.f (a0 : ByteArray) : Option (Option Int) := if a0.size ≤ 1073741824 then some (if Go.Proofs.YtlcfcaokihoplaaDoor.Route.pathOf a0 = true then none else some 2) else none
theorem route_Check.calls (a0 : ByteArray) (r : Option Int) (w : World) (h : route_Check.f a0 = some r) :
    Calls Tryd.prog 37 #[.string a0] w fun e w' => e = .returned (errW r) ∧ Below w.heap.size w w' := by
  unfold route_Check.f at h
  split at h
  · rename_i hh
    obtain rfl := Option.some.inj h
    refine (Go.Proofs.YtlcfcaokihoplaaDoor.Route.check_calls a0 hh w).mono ?_
    rintro e w' ⟨rfl, hb⟩
    refine ⟨?_, hb⟩
    split <;> rfl
  · cases h
def order_name.f (a0 : ByteArray) : Option Bool := if a0.size ≤ 1073741824 then some (Go.Proofs.YtlcfcaokihoplaaDoor.OrderNK.nameOf a0) else none
theorem order_name.calls (a0 : ByteArray) (r : Bool) (w : World) (h : order_name.f a0 = some r) :
    Calls Tryd.prog 36 #[.string a0] w fun e w' => e = .returned (.bool r) ∧ Below w.heap.size w w' := by
  unfold order_name.f at h
  split at h
  · rename_i hh
    obtain rfl := Option.some.inj h
    exact Go.Proofs.YtlcfcaokihoplaaDoor.OrderNK.name_calls a0 hh w
  · cases h
end Go.Proofs.YtlcfcaokihoplaaDoor.Ms
