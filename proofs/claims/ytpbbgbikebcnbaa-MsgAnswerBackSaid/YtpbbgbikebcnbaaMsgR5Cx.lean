-- Cut by a program of this session (wip/shake.py) out of a text of this seat: what this claim doesn't reach is struck out. Lean checks it.
import Derived.Test.YtpbbgbikebcnbaaMsgR3Cx
import Derived.Test.YtpbbgbikebcnbaaMsgR4Cx
import Derived.Lib.Hide
import Derived.BigRegion
namespace Go.Proofs.Ytpbbgbikebcnbaa.MsgL
open Go.RowKit Go.Proofs.Ytpbbgbikebcnbaa.Mw Go.Proofs.YtpbbgbikebcnbaaW.PrintWords Go.Proofs.YtpbbgbikebcnbaaW.PrintLast Go.Proofs.YtpbbgbikebcnbaaW.PrintMore
set_option linter.unusedVariables false
set_option linter.unusedSimpArgs false
theorem cut_mid {P : Program} (t e : TypeId) {i : TypeInfo} (hu : P.underlying t = some (.slice e)) (hi : P.info? e = some i) (hsz : i.size = 1) (A : Option Addr) (n c a b : Nat) (h1 : a ≤ b) (h2 : b ≤ n) (h3 : n ≤ c) (W : World) :
    (Instr.slice t (.slice A n c) (some (.int .i64 (a : Int))) (some (.int .i64 (b : Int))) none).run P W = .ok (.slice (if c = a then A else A.map (·.add (a * 1))) (b - a) (c - a)) W := by
  have hel : P.elem t = e := by simp [Program.elem, hu]
  have hu' : P.underlying t = some (.slice (P.elem t)) := by rw [hel]; exact hu
  rw [run_slice_lh W t A n c hu' .i64 .i64 (a : Int) (b : Int) (by omega) (by omega) (by omega), hel]
  simp [sizeOf, typeInfo, hi, hsz, sliced, Result.andThen]
theorem txt_num {l : List Int} (hb : bytesOk l) {at_ : Nat} {bad : Bool} (ha : at_ ≤ l.length) : txtOf l at_ bad = (match numOf l 4096 at_ bad with | (_, _, true) => (⟨#[]⟩, at_, true) | (v, nx, false) => if v > (l.length : Int) - nx then (⟨#[]⟩, at_, true) else (strOfNums ((l.take (nx + v.toNat)).drop nx), nx + v.toNat, false)) := by
  unfold txtOf numOf
  by_cases hbad : bad = true
  · rw [if_pos hbad, if_pos hbad]
  · rw [if_neg hbad, if_neg hbad]
    unfold gat
    generalize hr : gn 4096 0 0 (l.drop at_) = r
    obtain ⟨v, c, er⟩ := r
    cases er with
    | some e => rfl
    | none =>
      obtain ⟨_, m, g1, g2, g3, _, _, post, g6⟩ := gn_back 4096 (l.drop at_) 0 0 v c (fun x hx => hb x (List.mem_of_mem_drop hx)) hr
      simp only [Int.pow_zero, Int.mul_one, Int.zero_add] at g1
      have hep := enc_pos m
      simp only [Option.isNone_none, if_true]
      by_cases hg : (at_ : Int) + c + v > (l.length : Int)
      · rw [if_pos hg, if_pos (by omega)]
      · rw [if_neg hg, if_neg (by omega)]
        have e1 : ((at_ : Int) + c + v).toNat = ((at_ : Int) + c).toNat + v.toNat := by omega
        rw [e1]
def rtxt (l : List Int) (at_ : Nat) (bad : Bool) : ByteArray × Nat × Bool :=
  match numOf l 4096 at_ bad with
  | (_, nx, true) => (⟨#[]⟩, nx, true)
  | (v, nx, false) => if v > (l.length : Int) - nx then (⟨#[]⟩, nx, true) else (strOfNums ((l.take (nx + v.toNat)).drop nx), nx + v.toNat, false)
theorem rtxt_txt {l : List Int} (hb : bytesOk l) {at_ : Nat} {bad : Bool} (ha : at_ ≤ l.length) : (rtxt l at_ bad).1 = (txtOf l at_ bad).1 ∧ (rtxt l at_ bad).2.2 = (txtOf l at_ bad).2.2 ∧ ((txtOf l at_ bad).2.2 = false → (rtxt l at_ bad).2.1 = (txtOf l at_ bad).2.1) ∧ (rtxt l at_ bad).2.1 ≤ l.length := by
  have hat := numOf_at hb 4096 (by decide) ha bad
  rw [txt_num hb ha]
  unfold rtxt
  generalize numOf l 4096 at_ bad = q at hat
  obtain ⟨v, nx, bd⟩ := q
  have h1 : nx ≤ l.length := hat.1
  have h2 : 0 ≤ v := hat.2.1
  cases bd with
  | true => exact ⟨rfl, rfl, fun h => (by cases h), h1⟩
  | false =>
    simp only
    split
    · exact ⟨rfl, rfl, fun h => (by cases h), h1⟩
    · exact ⟨rfl, rfl, fun _ => rfl, by simp only; omega⟩
set_option maxHeartbeats 4000000 in
set_option maxRecDepth 100000 in
theorem rtext_calls (w0 W : World) (g : Nat) (A : Option Addr) (c : Nat) (l : List Int) (at_ : Nat) (bad : Bool) (h : RS 79 w0 W g A l.length c at_ bad) (hC : Kd.C (Kd.int .u8) w0 A l.length l) (hc : l.length ≤ c) (hb : bytesOk l) (hl : l.length ≤ 100000000) (ha : at_ ≤ l.length) :
    Calls Try.prog 43 #[.pointer (some ⟨g, 0, none⟩)] W fun e w' => e = .returned (.string (rtxt l at_ bad).1) ∧ RS 79 w0 w' g A l.length c (rtxt l at_ bad).2.1 (rtxt l at_ bad).2.2 ∧ Kept W w' (fun k => k = g) ∧ Below w0.heap.size W w' := by
  have hnum := rnum_calls w0 W g A c l at_ bad 4096 (by unfold big31; omega) h hC hc hb hl ha
  have hat := numOf_at hb 4096 (by decide) ha bad
  have hC0 := Kd.C_below hC h.2.2
  have hsz := h.2.2
  unfold rtxt
  generalize numOf l 4096 at_ bad = q at hnum hat
  obtain ⟨v, nx, bd⟩ := q
  have HN := Lib.hid hnum
  have HAT := Lib.hid hat
  have HC := Lib.hid hC
  have HLL := Lib.hid hl
  clear hnum hat hC hC0 hsz h
  go_enter Try.func43, Try.ntmps43
  go_wp2_with fail
  refine HN.out.mono ?_
  rintro e w1 ⟨rfl, hrs, hk, hbl⟩
  have HRS := Lib.hid hrs
  have HK := Lib.hid hk
  have HBL := Lib.hid hbl
  have c0 : w1.cell? ⟨g, 0, none⟩ = some (.slice A l.length c) := (blk_cell hrs.1 0).trans rfl
  have c1 : w1.cell? ⟨g, 1, none⟩ = some (.int .i64 (nx : Int)) := (blk_cell hrs.1 1).trans rfl
  have c2 : w1.cell? ⟨g, 2, none⟩ = some (.bool bd) := (blk_cell hrs.1 2).trans rfl
  have f1 := blk_frozen hrs.1 1
  have f2 := blk_frozen hrs.1 2
  clear hrs hk hbl HN
  have hat := HAT.out
  have hd : bd = true ∨ (bd = false ∧ (l.length : Int) - (nx : Int) < v) ∨ (bd = false ∧ ¬ (l.length : Int) - (nx : Int) < v) := by
    cases bd
    · by_cases h : (l.length : Int) - (nx : Int) < v
      · exact .inr (.inl ⟨rfl, h⟩)
      · exact .inr (.inr ⟨rfl, h⟩)
    · exact .inl rfl
  have hw : wrap64 ((l.length : Int) - (nx : Int)) = (l.length : Int) - (nx : Int) := by
    have := HLL.out
    have h1 : nx ≤ l.length := hat.1
    unfold wrap64
    omega
  have hnl : nx ≤ l.length := hat.1
  rcases hd with hbd | ⟨hbd, hv⟩ | ⟨hbd, hv⟩
  · subst hbd
    clear hw hat
    go_wp2_with fail
    go_quiet (fail)
    have c2' : (w1.drewN nq).cell? ⟨g, 2, none⟩ = some (.bool true) := c2
    have f2' : (w1.drewN nq).frozen? ⟨g, 2, none⟩ = false := f2
    go_wp2
    go_ret
    obtain ⟨a1, a2, a3⟩ := rs_bad HRS.out.1 HRS.out.2.1 HRS.out.2.2 (pw_below_drewN (Below.refl _ _) nq) (Kept.drewN (Kept.refl _ _) nq) true
    exact ⟨rfl, a1, HK.out.then_ a2 (fun k hk => .inl hk), HBL.out.trans a3⟩
  · subst hbd
    have hd2 : decide ((l.length : Int) - (nx : Int) < v) = true := decide_eq_true hv
    clear hat
    have HV := Lib.hid hv
    clear hv
    go_wp2_with fail
    go_quiet (fail)
    have c2' : (w1.drewN nq).cell? ⟨g, 2, none⟩ = some (.bool false) := c2
    have f2' : (w1.drewN nq).frozen? ⟨g, 2, none⟩ = false := f2
    clear hw
    go_wp2
    go_ret
    obtain ⟨a1, a2, a3⟩ := rs_bad HRS.out.1 HRS.out.2.1 HRS.out.2.2 (pw_below_drewN (Below.refl _ _) nq) (Kept.drewN (Kept.refl _ _) nq) true
    exact ⟨rfl, a1, HK.out.then_ a2 (fun k hk => .inl hk), HBL.out.trans a3⟩
  · subst hbd
    have hd2 : decide ((l.length : Int) - (nx : Int) < v) = false := decide_eq_false hv
    have hv0 : 0 ≤ v := hat.2.1
    clear hat
    obtain ⟨m, rfl⟩ : ∃ m : Nat, v = m := ⟨v.toNat, by omega⟩
    have hnm : nx + m ≤ l.length := by omega
    have HV := Lib.hid hv
    have hw3 : wrap64 ((nx : Int) + (m : Int)) = (nx : Int) + (m : Int) := by
      have := HLL.out
      clear hw
      unfold wrap64
      omega
    clear hv hv0
    go_wp2_with fail
    go_quiet (fail)
    have HRS2 := Lib.hid (HRS.out.below (pw_below_drewN (Below.refl _ _) nq))
    have HK2 := Lib.hid (Kept.drewN HK.out nq)
    have HBL2 := Lib.hid (pw_below_drewN HBL.out nq)
    clear HRS HK HBL c0 c1 c2 f1 f2
    generalize w1.drewN nq = w2 at *
    have c0' : w2.cell? ⟨g, 0, none⟩ = some (.slice A l.length c) := (blk_cell HRS2.out.1 0).trans rfl
    have c1' : w2.cell? ⟨g, 1, none⟩ = some (.int .i64 (nx : Int)) := (blk_cell HRS2.out.1 1).trans rfl
    have f1' := blk_frozen HRS2.out.1 1
    have hcw : ∀ n, Kd.C (Kd.int .u8) (w2.drewN n) A l.length l := fun n => Kd.C_drewN (Kd.C_below HC.out HRS2.out.2.2) n
    have hci : ∃ i0, (Try.prog.info? 5) = some i0 ∧ i0.size = 1 := by obtain ⟨i0, h1, h2⟩ := Option.map_eq_some_iff.1 info5; exact ⟨i0, h1, by simp only [Prod.mk.injEq] at h2; exact h2.2.1⟩
    obtain ⟨i0, hi0, hsz0⟩ := hci
    have cut1 := cut_mid (P := Try.prog) 31 5 Try.underlying31 hi0 hsz0 A l.length c nx (nx + m) (by omega) hnm hc
    rw [show ((nx + m : Nat) : Int) = (nx : Int) + (m : Int) from by omega, Nat.add_sub_cancel_left] at cut1
    have hcl : ((l.take (nx + m)).drop nx).length = m := by rw [List.length_drop, List.length_take]; omega
    have hcut : ∀ n, Kd.C (Kd.int .u8) (w2.drewN n) (if c = nx then A else A.map (·.add (nx * 1))) ((l.take (nx + m)).drop nx).length ((l.take (nx + m)).drop nx) := fun n =>
      Kd.C_drop (m := nx) (Kd.C_take (m := nx + m) (hcw n) hnm) (by rw [List.length_take, Nat.min_eq_left hnm]; omega) (by rw [List.length_take, Nat.min_eq_left hnm]; omega)
    generalize (if c = nx then A else A.map (·.add (nx * 1))) = Z at cut1 hcut
    have hst := fun n => Kd.C_string (P := Try.prog) (c := c - nx) Try.underlying31 Try.underlying5 Try.underlying9 (hcut n)
    rw [hcl] at hst
    have HNM := Lib.hid hnm
    clear hcw hcut hi0 hsz0 hcl hw hnm hnl hd2
    go_wp2_with fail
    go_quiet (fail)
    have c1'' : (w2.drewN nq).cell? ⟨g, 1, none⟩ = some (.int .i64 (nx : Int)) := c1'
    have f1'' : (w2.drewN nq).frozen? ⟨g, 1, none⟩ = false := f1'
    clear cut1 hst c0' c1' f1'
    have e : (nx : Int) + (m : Int) = ((nx + m : Nat) : Int) := by omega
    have HE := Lib.hid e
    clear e
    go_wp2
    all_goals
      first
      | (exfalso; have := HV.out; omega)
      | (go_ret
         try rw [hw3]
         rw [HE.out]
         obtain ⟨a1, a2, a3⟩ := rs_at ⟨HRS2.out.below (pw_below_drewN (Below.refl _ _) nq), Kept.drewN HK2.out nq, pw_below_drewN HBL2.out nq⟩ (nx + m)
         exact ⟨rfl, a1, a2, a3⟩)
end Go.Proofs.Ytpbbgbikebcnbaa.MsgL
