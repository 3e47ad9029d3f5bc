-- Cut by a program of this session (wip/shake.py) out of a text of this seat: what this claim doesn't reach is struck out. Lean checks it.
import Derived.Test.YtlcfcaokihoplaaDoorRouteFnsCo
import Derived.Test.YtlcfcaokihoplaaDoorContCo
namespace Go.Proofs.YtlcfcaokihoplaaDoor.OrderNK
open Go.RowKit Go.Proofs.YtlcfcaokihoplaaDoorW.PrintWords Go.Proofs.YtlcfcaokihoplaaDoorW.PrintLast Go.Proofs.YtlcfcaokihoplaaDoorW.PrintMore
set_option linter.unusedVariables false
set_option linter.unusedSimpArgs false
def nameOf (s : ByteArray) : Bool := Route.pathOf s && !(decide (0 ≤ Lib.indexByte s.data.toList 47))
theorem name_calls (s : ByteArray) (hs : s.size ≤ 1073741824) (w : World) : Calls Tryd.prog 36 #[.string s] w fun e w' => e = .returned (.bool (nameOf s)) ∧ Below w.heap.size w w' := by
  have h := Route.check_calls s hs w
  have hc := fun W => Tryd.strings_Contains_one s 47 W
  have hN : nameOf s = (Route.pathOf s && !(decide (0 ≤ Lib.indexByte s.data.toList 47))) := rfl
  generalize Route.pathOf s = p at h hN
  generalize decide (0 ≤ Lib.indexByte s.data.toList 47) = q at hc hN
  rw [hN]
  clear hN
  have H := Lib.hid h
  have HC := Lib.hid hc
  clear h hc
  cases p with
  | false =>
    go_enter Tryd.func36, Tryd.ntmps36
    go_wp2_with fail
    refine H.out.mono ?_
    rintro e w1 ⟨rfl, hb⟩
    have HB := Lib.hid hb
    clear hb
    simp only [Bool.false_eq_true, if_false]
    go_wp2
    go_ret
    exact ⟨rfl, HB.out⟩
  | true =>
    go_enter Tryd.func36, Tryd.ntmps36
    go_wp2_with fail
    refine H.out.mono ?_
    rintro e w1 ⟨rfl, hb⟩
    have HB := Lib.hid hb
    clear hb
    simp only [if_true]
    go_wp2_with fail
    refine (HC.out _).mono ?_
    rintro e w2 ⟨rfl, rfl⟩
    go_wp2
    go_ret
    exact ⟨by simp, HB.out⟩
def keyBad (x : ByteArray) : Bool := decide (x.size < 1) || decide (64 < x.size)
theorem keys1_calls (x : ByteArray) (w : World) : Calls Tryd.prog 42 #[.string x] w fun e w' => e = .returned (.bool (keyBad x)) ∧ Below w.heap.size w w' := by
  by_cases h1 : x.size < 1
  · have i1 : decide ((x.size : Int) < 1) = true := decide_eq_true (by omega)
    have e : keyBad x = true := by unfold keyBad; rw [decide_eq_true h1]; rfl
    rw [e]
    clear e
    go_enter Tryd.func42, Tryd.ntmps42
    go_wp2
    go_ret
    exact ⟨rfl, Below.refl _ _⟩
  · have i1 : decide ((x.size : Int) < 1) = false := decide_eq_false (by omega)
    have e : keyBad x = decide (64 < x.size) := by unfold keyBad; rw [decide_eq_false h1]; rfl
    rw [e]
    clear e
    by_cases h2 : 64 < x.size
    · have i2 : decide ((64 : Int) < (x.size : Int)) = true := decide_eq_true (by omega)
      rw [decide_eq_true h2]
      go_enter Tryd.func42, Tryd.ntmps42
      go_wp2
      go_ret
      exact ⟨rfl, Below.refl _ _⟩
    · have i2 : decide ((64 : Int) < (x.size : Int)) = false := decide_eq_false (by omega)
      rw [decide_eq_false h2]
      go_enter Tryd.func42, Tryd.ntmps42
      go_wp2
      go_ret
      exact ⟨rfl, Below.refl _ _⟩
theorem idx_empty (A : Option Addr) (c : Nat) (fv : Value) (w : World) : Calls Tryd.prog 56 #[.slice A 0 c, fv] w fun e w' => e = .returned (.int .i64 (-1)) ∧ w' = w := by
  go_enter Tryd.func56, Tryd.ntmps56
  go_wp2
  go_loopg [5, 8] 0 (fun _ _ s8 wr => s8 = .int .i64 0 ∧ wr = w)
  case atStart => exact ⟨rfl, rfl⟩
  case round =>
    obtain ⟨rfl, rfl⟩ := hrel
    go_wp2
    go_ret
    exact ⟨rfl, rfl⟩
theorem contains_empty (A : Option Addr) (c : Nat) (fv : Value) (w : World) : Calls Tryd.prog 41 #[.slice A 0 c, fv] w fun e w' => e = .returned (.bool false) ∧ w' = w := by
  go_enter Tryd.func41, Tryd.ntmps41
  go_wp2_with fail
  refine (idx_empty A c fv w).mono ?_
  rintro e w' ⟨rfl, rfl⟩
  go_wp2
  go_ret
  exact ⟨rfl, rfl⟩
theorem row_cells {w : World} {A : Option Addr} {l : List ByteArray} (hC : Kd.C Kd.string w A l.length l) (hpos : 0 < l.length) : ∃ b off, A = some ⟨b, off, none⟩ ∧ b < w.heap.size ∧ ∀ j, j < l.length → w.cell? ⟨b, off + j, none⟩ = some (.string l[j]!) := by
  obtain ⟨ad, rfl, hcell⟩ := hC.2.2 hpos
  have key : ∀ (j : Nat) (y : ByteArray), l[j]? = some y → w.cell? (ad.add j) = some (.string y) := by
    intro j y hy
    obtain ⟨c, hc, hR, hcc⟩ := hcell j y hy
    have e : c = [.string y] := hR
    subst e
    have z := hcc 0 (.string y) rfl
    rw [show j * Kd.string.sz + 0 = j from by show j * 1 + 0 = j; omega] at z
    exact z
  obtain ⟨b, o, sp⟩ := ad
  have z := key 0 l[0] (List.getElem?_eq_getElem hpos)
  have hsp : sp = none := by
    cases sp with
    | none => rfl
    | some q =>
      simp only [Addr.add, if_true, World.cell?] at z
      split at z <;> simp at z
  subst hsp
  refine ⟨b, o, rfl, World.block_lt_of_cell? _ _ z, fun j hj => ?_⟩
  have := key j l[j] (List.getElem?_eq_getElem hj)
  rw [Addr.add_lit] at this
  rw [this, getElem!_pos l j hj]
theorem has_calls (A : Option Addr) (c : Nat) (l : List ByteArray) (w : World) (hC : Kd.C Kd.string w A l.length l) (hbig : l.length ≤ 1099511627776) : Calls Tryd.prog 41 #[.slice A l.length c, .func (.func 42) #[] #[]] w fun e w' => e = .returned (.bool (l.any keyBad)) ∧ Below w.heap.size w w' := by
  rcases Nat.eq_zero_or_pos l.length with h0 | h0
  · obtain rfl : l = [] := List.length_eq_zero_iff.1 h0
    refine (contains_empty A c _ w).mono ?_
    rintro e w' ⟨rfl, rfl⟩
    exact ⟨rfl, Below.refl _ _⟩
  · obtain ⟨b, off, rfl, hb, hcell⟩ := row_cells hC h0
    exact Route.contains_calls 42 keyBad (enters_of Tryd.func42 (by kernel_rfl) rfl) b off c l w (fun W x hx hW => (keys1_calls x W).mono (fun e w' ⟨h1, h2⟩ => ⟨h1, hW.trans (h2.mono hW.size)⟩)) (by omega) hb hcell
def keysOk (l : List ByteArray) : Bool := decide (l.length ≤ 16) && !(l.any keyBad)
theorem keys_calls (A : Option Addr) (c : Nat) (l : List ByteArray) (w : World) (hC : Kd.C Kd.string w A l.length l) (hbig : l.length ≤ 1099511627776) : Calls Tryd.prog 34 #[.slice A l.length c] w fun e w' => e = .returned (.bool (keysOk l)) ∧ Below w.heap.size w w' := by
  have h := has_calls A c l w hC hbig
  have hK : keysOk l = (decide (l.length ≤ 16) && !(l.any keyBad)) := rfl
  rw [hK]
  generalize l.any keyBad = q at h ⊢
  have H := Lib.hid h
  clear h hC hK
  by_cases h16 : l.length ≤ 16
  · have i1 : decide ((l.length : Int) ≤ 16) = true := decide_eq_true (by omega)
    rw [decide_eq_true h16]
    go_enter Tryd.func34, Tryd.ntmps34
    go_wp2_with fail
    refine H.out.mono ?_
    rintro e w1 ⟨rfl, hb⟩
    have HB := Lib.hid hb
    clear hb
    go_wp2
    go_ret
    exact ⟨by simp, HB.out⟩
  · have i1 : decide ((l.length : Int) ≤ 16) = false := decide_eq_false (by omega)
    rw [decide_eq_false h16]
    go_enter Tryd.func34, Tryd.ntmps34
    go_wp2
    go_ret
    exact ⟨by simp, Below.refl _ _⟩
end Go.Proofs.YtlcfcaokihoplaaDoor.OrderNK
