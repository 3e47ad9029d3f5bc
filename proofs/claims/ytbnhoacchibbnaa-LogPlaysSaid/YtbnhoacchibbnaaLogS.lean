/-
  The reference's scan, by its contract. No condition is added.
-/
import Derived.Test.YtbnhoacchibbnaaLogG
import Derived.Test.YtbnhoacchibbnaaLog8a
namespace Go.Proofs.Ytbnhoacchibbnaa.Log
open Go.RowKit Go.Proofs.Ytbnhoacchibbnaa.Lw Go.Proofs.Ytbnhoacchibbnaa.Tape Go.Proofs.YtbnhoacchibbnaaW.PrintWords Go.Proofs.YtbnhoacchibbnaaW.PrintLast Go.Proofs.YtbnhoacchibbnaaW.PrintMore
attribute [local go_sem] eqlErr neqErr eqlErrNil neqErrNil
set_option linter.unusedVariables false
set_option linter.unusedSimpArgs false
theorem gn_pos (M : Int) (xs : List Int) (hb : bytesOk xs) (v c : Int) (h : gn M 0 0 xs = (v, c, none)) : 0 ≤ v ∧ 0 < c ∧ c ≤ xs.length := by
  obtain ⟨_, m, g1, g2, g3, g4, g5, post, g6⟩ := gn_back M xs 0 0 v c hb h
  simp only [Int.pow_zero, Int.mul_one, Int.zero_add] at g1 g5
  have := enc_pos m
  have hl := congrArg List.length g6
  rw [List.length_append] at hl
  omega

/-- The record at a place, by the reference's reading. -/
theorem recAt_ref {b : List Int} {a : Nat} (hb : bytesOk b) (ha : a ≤ b.length) : recAt b a = match gn 18446744073709551615 0 0 (b.drop a) with | (v, c, none) => if v < 1 ∨ v > 65536 ∨ v > (b.length : Int) - a - c then none else some ((a + c).toNat, (a + c + v).toNat) | (_, _, some _) => none := by
  unfold recAt
  rw [gn_less 18446744073709551615 65536 (by omega) (b.drop a) 0 0]
  have hbd : bytesOk (b.drop a) := fun x hx => hb x (List.mem_of_mem_drop hx)
  generalize hr : gn 18446744073709551615 0 0 (b.drop a) = r
  obtain ⟨v, c, er⟩ := r
  cases er with
  | some e => rfl
  | none =>
    have hp := gn_pos _ _ hbd v c hr
    simp only
    by_cases h1 : v > 65536
    · rw [if_pos h1, if_pos (.inr (.inl h1))]
      rfl
    · rw [if_neg h1]
      simp only [gat, Option.isNone_none, if_true]
      by_cases h2 : v = 0 ∨ (b.length : Int) - (a + c) < v
      · rw [if_pos h2, if_pos (by omega)]
      · rw [if_neg h2, if_neg (by omega)]

/-- What the reference's scan keeps. -/
def ScanI (w : World) (A : Option Addr) (b : List Int) (W : World) (a : Nat) (v : Value) (hs : List (Option Addr × Nat × List Int)) : Prop :=
  Kd.R hdrK 22 W w.heap.size (fun _ => True) v hs ∧ hs.map (fun x => x.2.2) ++ (scan b a).1 = (scan b 0).1 ∧ (scan b a).2 = (scan b 0).2 ∧ a ≤ b.length ∧ hs.length ≤ a ∧
    (∀ x ∈ hs, x.2.2.length ≤ x.2.1 ∧ ∀ W', Kd.C (Kd.int .u8) W' A b.length b → Kd.C (Kd.int .u8) W' x.1 x.2.2.length x.2.2) ∧ Below w.heap.size w W

set_option maxHeartbeats 8000000 in
set_option maxRecDepth 100000 in
theorem scan_calls (w : World) (A : Option Addr) (c : Nat) (b : List Int) (hC : Kd.C (Kd.int .u8) w A b.length b) (hc : b.length ≤ c) (hb : bytesOk b) (hl : b.length ≤ 2000000) :
    Calls Try.prog 26 #[.slice A b.length c] w fun e w' => ∃ (hs : List (Option Addr × Nat × List Int)) (Ao : Option Addr) (co : Nat), e = .returned (.tuple #[.slice Ao hs.length co, .int .i64 ((scan b 0).2 : Int)]) ∧ Kd.R hdrK 22 w' w.heap.size (fun _ => True) (.slice Ao hs.length co) hs ∧
      hs.map (fun x => x.2.2) = (scan b 0).1 ∧ (∀ x ∈ hs, x.2.2.length ≤ x.2.1 ∧ ∀ W', Kd.C (Kd.int .u8) W' A b.length b → Kd.C (Kd.int .u8) W' x.1 x.2.2.length x.2.2) ∧ Below w.heap.size w w' := by
  have HC := Lib.hid hC
  have HBY := Lib.hid hb
  have HL := Lib.hid hl
  have HCc := Lib.hid hc
  clear hC hb hl hc
  go_enter Try.func26, Try.ntmps26
  go_wp2_with fail
  go_loopg [4, 5] (b.length + 1) (fun kq v4 v5 w' => ∃ (a : Nat) (hs : List (Option Addr × Nat × List Int)) (Ao : Option Addr) (co : Nat), v4 = .slice Ao hs.length co ∧ v5 = .int .i64 (a : Int) ∧ Hid (b.length - a < kq) ∧ Hid (ScanI w A b w' a (.slice Ao hs.length co) hs))
  case atStart => exact ⟨0, [], none, 0, rfl, rfl, Lib.hid (by omega), Lib.hid ⟨Kd.R_nil _ _ _ _ _, rfl, rfl, Nat.zero_le _, Nat.le_refl _, by simp, Below.refl _ _⟩⟩
  case round =>
    obtain ⟨a, hs, Ao, co, rfl, rfl, HK, HI⟩ := hrel
    by_cases hlt : a < b.length
    rotate_left
    · have hd : decide ((a : Int) < (b.length : Int)) = false := decide_eq_false (by omega)
      go_wp2
      go_ret2
      obtain ⟨i1, i2, i3, i4, i5, i6, i7⟩ := HI.out
      have hab : a = b.length := by omega
      have hsc := scan_none (recAt_end b)
      rw [hab, hsc] at i2 i3
      simp only [List.append_nil] at i2
      have e3 : (scan b 0).2 = b.length := i3.symm
      refine ⟨hs, Ao, co, ?_, i1, i2, i6, i7⟩
      rw [e3]
      subst hab
      rfl
    have hd : decide ((a : Int) < (b.length : Int)) = true := decide_eq_true (by omega)
    have hgn := refget_f b HBY.out a (by omega) (by have := HL.out; omega) 40 (Nat.le_refl _)
    have hrec := recAt_ref HBY.out (a := a) (by omega)
    have hbd : bytesOk (b.drop a) := fun x hx => HBY.out x (List.mem_of_mem_drop hx)
    generalize hr : gn 18446744073709551615 0 0 (b.drop a) = r at hgn hrec
    obtain ⟨v, cc, er⟩ := r
    cases gk with
    | zero => have := HK.out; omega
    | succ kr =>
    have HI1 := HI.out
    have hfin : recAt b a = none → ∃ (hs' : List (Option Addr × Nat × List Int)) (Ao' : Option Addr) (co' : Nat), (Ending.returned (.tuple #[.slice Ao hs.length co, .int .i64 (a : Int)])) = .returned (.tuple #[.slice Ao' hs'.length co', .int .i64 ((scan b 0).2 : Int)]) ∧ ∀ W', Below wr.heap.size wr W' → Kd.R hdrK 22 W' w.heap.size (fun _ => True) (.slice Ao' hs'.length co') hs' ∧
      hs'.map (fun x => x.2.2) = (scan b 0).1 ∧ (∀ x ∈ hs', x.2.2.length ≤ x.2.1 ∧ ∀ W', Kd.C (Kd.int .u8) W' A b.length b → Kd.C (Kd.int .u8) W' x.1 x.2.2.length x.2.2) ∧ Below w.heap.size w W' := by
      intro hn
      obtain ⟨i1, i2, i3, i4, i5, i6, i7⟩ := HI1
      have hsc := scan_none hn
      rw [hsc] at i2 i3
      simp only [List.append_nil] at i2
      exact ⟨hs, Ao, co, by rw [← i3], fun W' hb => ⟨Kd.R_below i1 hb, i2, i6, i7.trans (hb.mono i7.size)⟩⟩
    cases er with
    | some e =>
      obtain ⟨hs', Ao', co', e1, h2⟩ := hfin hrec
      have HGN := Lib.hid hgn
      have HE1 := Lib.hid e1
      have H2 := Lib.hid h2
      clear hgn hrec hr hfin e1 h2 HI1 hbd
      go_wp2_with (go_at_call 52; refine (becketref01_GetNum.calls 40 A c b (a : Int) 0 0 wr (Kd.C_below HC.out HI.out.2.2.2.2.2.2) HCc.out HGN.out).mono ?_; rintro e w2 ⟨rfl, hb⟩; have HB2 := Lib.hid hb; clear hb)
      go_ret2
      obtain ⟨j1, j2, j3, j4⟩ := H2.out _ HB2.out
      exact ⟨hs', Ao', co', HE1.out, j1, j2, j3, j4⟩
    | none =>
      have hp := gn_pos _ _ hbd v cc hr
      have hdl : (b.drop a).length = b.length - a := List.length_drop
      rw [hdl] at hp
      have hk0 : (cc == 0) = false := by simp; omega
      have HGN := Lib.hid hgn
      have HP := Lib.hid hp
      simp only at hrec
      by_cases hv : v < 1 ∨ v > 65536 ∨ v > (b.length : Int) - a - cc
      · rw [if_pos hv] at hrec
        obtain ⟨hs', Ao', co', e1, h2⟩ := hfin hrec
        have HE1 := Lib.hid e1
        have H2 := Lib.hid h2
        clear hgn hrec hr hfin e1 h2 HI1 hbd hp hdl
        by_cases hv1 : v < 1
        · have hd1 : decide (v < 1) = true := decide_eq_true hv1
          clear hv
          go_wp2_with (go_at_call 52; refine (becketref01_GetNum.calls 40 A c b (a : Int) v cc wr (Kd.C_below HC.out HI.out.2.2.2.2.2.2) HCc.out HGN.out).mono ?_; rintro e w2 ⟨rfl, hb⟩; have HB2 := Lib.hid hb; clear hb)
          go_ret2
          obtain ⟨j1, j2, j3, j4⟩ := H2.out _ HB2.out
          exact ⟨hs', Ao', co', HE1.out, j1, j2, j3, j4⟩
        · have hd1 : decide (v < 1) = false := decide_eq_false hv1
          by_cases hv2 : 65536 < v
          · have hd2 : decide (65536 < v) = true := decide_eq_true hv2
            clear hv
            go_wp2_with (go_at_call 52; refine (becketref01_GetNum.calls 40 A c b (a : Int) v cc wr (Kd.C_below HC.out HI.out.2.2.2.2.2.2) HCc.out HGN.out).mono ?_; rintro e w2 ⟨rfl, hb⟩; have HB2 := Lib.hid hb; clear hb)
            go_ret2
            obtain ⟨j1, j2, j3, j4⟩ := H2.out _ HB2.out
            exact ⟨hs', Ao', co', HE1.out, j1, j2, j3, j4⟩
          · have hd2 : decide (65536 < v) = false := decide_eq_false hv2
            have hw1 : wrap64 v = v := by unfold wrap64; omega
            have hw2 : wrap64 ((b.length : Int) - (a : Int)) = (b.length : Int) - (a : Int) := by have := HL.out; unfold wrap64; omega
            have hw3 : wrap64 ((b.length : Int) - (a : Int) - cc) = (b.length : Int) - (a : Int) - cc := by have := HL.out; have := HP.out; unfold wrap64; omega
            have hd3 : decide ((b.length : Int) - (a : Int) - cc < v) = true := decide_eq_true (by omega)
            clear hv
            go_wp2_with (go_at_call 52; refine (becketref01_GetNum.calls 40 A c b (a : Int) v cc wr (Kd.C_below HC.out HI.out.2.2.2.2.2.2) HCc.out HGN.out).mono ?_; rintro e w2 ⟨rfl, hb⟩; have HB2 := Lib.hid hb; clear hb)
            go_ret2
            obtain ⟨j1, j2, j3, j4⟩ := H2.out _ HB2.out
            exact ⟨hs', Ao', co', HE1.out, j1, j2, j3, j4⟩
      · rw [if_neg hv] at hrec
        clear hfin hgn hr hbd
        obtain ⟨m, hm⟩ : ∃ m : Nat, v = m := ⟨v.toNat, by omega⟩
        obtain ⟨k, hk⟩ : ∃ k : Nat, cc = k := ⟨cc.toNat, by omega⟩
        subst hm hk
        have hv1 : 1 ≤ m ∧ m ≤ 65536 ∧ a + k + m ≤ b.length := by omega
        have hd1 : decide ((m : Int) < 1) = false := decide_eq_false (by omega)
        have hd2 : decide (65536 < (m : Int)) = false := decide_eq_false (by omega)
        have hd3 : decide ((b.length : Int) - (a : Int) - (k : Int) < (m : Int)) = false := decide_eq_false (by omega)
        have e1 : ((a : Int) + (k : Int)).toNat = a + k := by omega
        have e2 : ((a : Int) + (k : Int) + (m : Int)).toNat = a + k + m := by omega
        rw [e1, e2] at hrec
        have hsc := scan_some HBY.out (by omega) hrec
        have HREC := Lib.hid hsc
        have HV := Lib.hid hv1
        have HK0 := Lib.hid hp
        have hci : ∃ i0, (Try.prog.info? 5) = some i0 ∧ i0.size = 1 := by obtain ⟨i0, h1, h2⟩ := Option.map_eq_some_iff.1 info5; exact ⟨i0, h1, by simp only [Prod.mk.injEq] at h2; exact h2.2.1⟩
        obtain ⟨i0, hi0, hsz0⟩ := hci
        have cut1 := cut_mid (P := Try.prog) 22 5 Try.underlying22 hi0 hsz0 A b.length c (a + k) (a + k + m) (by omega) (by omega) HCc.out
        rw [show ((a + k + m : Nat) : Int) = (a : Int) + (k : Int) + (m : Int) from by omega, show ((a + k : Nat) : Int) = (a : Int) + (k : Int) from by omega, Nat.add_sub_cancel_left] at cut1
        have hcut : ∀ W', Kd.C (Kd.int .u8) W' A b.length b → Kd.C (Kd.int .u8) W' (if c = a + k then A else A.map (·.add ((a + k) * 1))) ((b.take (a + k + m)).drop (a + k)).length ((b.take (a + k + m)).drop (a + k)) := fun W' h =>
          Kd.C_drop (m := a + k) (Kd.C_take (m := a + k + m) h (by omega)) (by rw [List.length_take, Nat.min_eq_left (by omega)]; omega) (by have := HCc.out; rw [List.length_take, Nat.min_eq_left (by omega)]; omega)
        have hclen : ((b.take (a + k + m)).drop (a + k)).length = m := by rw [List.length_drop, List.length_take]; omega
        generalize (if c = a + k then A else A.map (·.add ((a + k) * 1))) = Z at cut1 hcut
        have HCUT := Lib.hid hcut
        have HCL := Lib.hid hclen
        clear hcut hclen hi0 hsz0 hrec hsc hp hdl hv HI1 e1 e2
        have hbl := HL.out
        have hq1 : 0 ≤ (b.length : Int) - (a : Int) ∧ (b.length : Int) - (a : Int) ≤ 4000000 := by omega
        have hq2 : 0 ≤ (b.length : Int) - (a : Int) - (k : Int) ∧ (b.length : Int) - (a : Int) - (k : Int) ≤ 4000000 := by omega
        have hq3 : 0 ≤ (a : Int) + (k : Int) ∧ (a : Int) + (k : Int) ≤ 4000000 := by omega
        have hq4 : 0 ≤ (a : Int) + (k : Int) + (m : Int) ∧ (a : Int) + (k : Int) + (m : Int) ≤ 4000000 := by omega
        have hq5 : 0 ≤ (m : Int) ∧ (m : Int) ≤ 4000000 := by omega
        have hw1 := wr_id hq5.1 hq5.2
        have hw2 := wr_id hq1.1 hq1.2
        have hw3 := wr_id hq2.1 hq2.2
        have hw4 := wr_id hq3.1 hq3.2
        have hw5 := wr_id hq4.1 hq4.2
        clear hq1 hq2 hq3 hq4 hq5 hbl hv1
        go_wp2_with fail
        refine (becketref01_GetNum.calls 40 A c b (a : Int) (m : Int) (k : Int) wr (Kd.C_below HC.out HI.out.2.2.2.2.2.2) HCc.out HGN.out).mono ?_
        rintro e w2 ⟨rfl, hb⟩
        have HB2 := Lib.hid hb
        clear hb
        go_wp2_with (at_builtin; refine Kd.R_append hdrK (w0 := w) w.heap.size rfl (.tmp 41) (.tmp 53) 34 22 (.slice none 0 0) 24 rfl Try.underlying34 (by kernel_rfl) rfl (by decide) (by omega) (.slice Ao hs.length co) hs (Z, c - (a + k), (b.take (a + k + m)).drop (a + k)) [.slice Z m (c - (a + k))] (fun _ => True) (fun _ => False) rfl rfl (by show _ = [Value.slice Z _ (c - (a + k))]; rw [HCL.out]) (fun _ h => False.elim h) ?aF ?aO ?aB ?aS ?aL ?go)
        case aF => exact fun k hk => trivial
        case aO => exact Kd.R_below HI.out.1 HB2.out
        case aB => exact HI.out.2.2.2.2.2.2.trans (HB2.out.mono HI.out.2.2.2.2.2.2.size)
        case aS => exact Nat.le_trans HI.out.2.2.2.2.2.2.size HB2.out.size
        case aL => have := HI.out.2.2.2.2.1; have := HI.out.2.2.2.1; have := HL.out; omega
        case go =>
        intro v3 w3 hown hbel hgr hat
        obtain ⟨A3, c3, rfl⟩ := Kd.R_slice hown
        rw [List.length_append, List.length_singleton] at hown
        rw [List.length_append, List.length_singleton]
        have HO3 := Lib.hid hown
        have HB3 := Lib.hid hbel
        clear hown hbel hgr hat cut1
        go_wp2_with fail
        go_roundg kr
        case measure => omega
        case rel =>
          obtain ⟨i1, i2, i3, i4, i5, i6, i7⟩ := HI.out
          have hx := HV.out
          have hy := HP.out
          have hz := HREC.out
          rw [hz] at i2 i3
          refine ⟨a + k + m, hs ++ [(Z, c - (a + k), (b.take (a + k + m)).drop (a + k))], A3, c3, by rw [List.length_append, List.length_singleton], by rw [hw5, Int.natCast_add, Int.natCast_add], Lib.hid (by have := HK.out; omega), Lib.hid ⟨by rw [List.length_append, List.length_singleton]; exact HO3.out, ?_, i3, hx.2.2, by rw [List.length_append, List.length_singleton]; omega, fun x hx => ?_, HB3.out⟩⟩
          · rw [List.map_append, List.append_assoc, ← i2]; rfl
          · rcases List.mem_append.1 hx with hx | hx
            · exact i6 x hx
            · rw [List.mem_singleton.1 hx]
              exact ⟨by have := HCL.out; have := HCc.out; show ((b.take (a + k + m)).drop (a + k)).length ≤ c - (a + k); omega, HCUT.out⟩
end Go.Proofs.Ytbnhoacchibbnaa.Log
