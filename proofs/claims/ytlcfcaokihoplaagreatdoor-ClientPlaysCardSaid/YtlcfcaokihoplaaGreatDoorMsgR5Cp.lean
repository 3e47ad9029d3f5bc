-- Cut.
import Derived.Test.YtlcfcaokihoplaaGreatDoorMsgRCp
namespace Go.Proofs.YtlcfcaokihoplaaGreatDoor.MsgL
open Go.RowKit Go.Proofs.YtlcfcaokihoplaaGreatDoor.Mw Go.Proofs.YzW.PrintWords Go.Proofs.YzW.PrintLast Go.Proofs.YzW.PrintMore
set_option linter.unusedVariables false
set_option linter.unusedSimpArgs false
set_option maxHeartbeats 4000000 in
set_option maxRecDepth 100000 in
theorem rnum_calls (w0 W : World) (g : Nat) (A : Option Addr) (c : Nat) (l : List Int) (at_ : Nat) (bad : Bool) (most : Int) (hm : 0 ≤ most ∧ most ≤ big31) (h : RS 111 w0 W g A l.length c at_ bad) (hC : Kd.C (Kd.int .u8) w0 A l.length l) (hc : l.length ≤ c) (hb : bytesOk l) (hl : l.length ≤ 100000000) (ha : at_ ≤ l.length) :
    Calls Tryz.prog 43 #[.pointer (some ⟨g, 0, none⟩), .int .u64 most] W fun e w' => e = .returned (.int .i64 (numOf l most at_ bad).1) ∧ RS 111 w0 w' g A l.length c (numOf l most at_ bad).2.1 (numOf l most at_ bad).2.2 ∧ bv_ W w' (fun k => k = g) ∧ Below w0.heap.size W w' := by
  obtain ⟨hg, hge, hB⟩ := h
  have hf := refget_f l hb at_ ha (by omega) 40 (Nat.le_refl _)
  have hgl := gn_less 18446744073709551615 most (by have := hm.2; unfold big31 at this; omega) (l.drop at_) 0 0
  have hbd : bytesOk (l.drop at_) := fun x hx => hb x (List.mem_of_mem_drop hx)
  have c0 : W.cell? ⟨g, 0, none⟩ = some (.slice A l.length c) := (b_ hg 0).trans rfl
  have c1 : W.cell? ⟨g, 1, none⟩ = some (.int .i64 (at_ : Int)) := (b_ hg 1).trans rfl
  have c2 : W.cell? ⟨g, 2, none⟩ = some (.bool bad) := (b_ hg 2).trans rfl
  have HG := Lib.hid hg
  have HGE := Lib.hid hge
  have HB := Lib.hid hB
  have hcw : ∀ n, Kd.C (Kd.int .u8) (W.drewN n) A l.length l := fun n => Kd.C_drewN (Kd.C_below hC hB) n
  have HC := Lib.hid hcw
  have HBD := Lib.hid hbd
  have f1 := a_ hg 1
  have f2 := a_ hg 2
  clear hg hge hB hC hbd hcw
  cases bad with
  | true =>
    have hout : numOf l most at_ true = (0, at_, true) := by unfold numOf; rw [if_pos rfl]
    rw [hout]
    clear hf hgl hout f1 f2
    go_enter Tryz.func43, Tryz.ntmps43
    go_wp2
    go_ret
    exact ⟨rfl, ⟨HG.out, HGE.out, HB.out⟩, bv_.refl _ _, Below.refl _ _⟩
  | false =>
    generalize hr : gn 18446744073709551615 0 0 (l.drop at_) = r at hf hgl
    obtain ⟨v, nx, er⟩ := r
    cases er with
    | some z =>
      simp only at hf hgl
      have hout : numOf l most at_ false = (0, at_, true) := by unfold numOf; rw [if_neg (by decide), hgl]; rfl
      rw [hout]
      have HF := Lib.hid hf
      clear hf hgl hout hr f1
      go_enter Tryz.func43, Tryz.ntmps43
      go_wp2_with fail
      go_region_with (go_at_call 55; refine (t_.calls 40 A c l (at_ : Int) 0 0 _ (by first | exact HC.out 1 | exact HC.out 0) hc HF.out).mono ?_; rintro e w1 ⟨rfl, hb0⟩; have hb1 : Below W.heap.size W w1 := ((Below.refl W.heap.size W).drew).trans hb0; clear hb0)
      all_goals
        have HB1 := Lib.hid hb1
        have f2' := a_ (s_ HG.out hb1) 2
        have c2' : w1.cell? ⟨g, 2, none⟩ = some (.bool false) := (b_ (s_ HG.out hb1) 2).trans rfl
        clear hb1 f2
        go_wp2
        go_ret
        exact ⟨rfl, rs_bad HG.out HGE.out HB.out HB1.out (bv_.of_below HB1.out _) true⟩
    | none =>
      simp only at hf hgl
      obtain ⟨_, m, g1, g2, g3, _, _, post, g6⟩ := gn_back 18446744073709551615 (l.drop at_) 0 0 v nx HBD.out hr
      simp only [Int.pow_zero, Int.mul_one, Int.zero_add] at g1
      have hep := enc_pos m
      have hlen := congrArg List.length g6
      rw [List.length_drop, List.length_append] at hlen
      have hk0 : (nx == 0) = false := by simp; omega
      have HF := Lib.hid hf
      by_cases hv : most < v
      · have hout : numOf l most at_ false = (0, at_, true) := by unfold numOf; rw [if_neg (by decide), hgl, if_pos hv]; rfl
        rw [hout]
        have hd : decide (most < v) = true := decide_eq_true hv
        clear hf hgl hout hr f1 g1 g2 g3 g6 hep hlen hv
        go_enter Tryz.func43, Tryz.ntmps43
        go_wp2_with fail
        go_region_with (go_at_call 55; refine (t_.calls 40 A c l (at_ : Int) v nx _ (by first | exact HC.out 1 | exact HC.out 0) hc HF.out).mono ?_; rintro e w1 ⟨rfl, hb0⟩; have hb1 : Below W.heap.size W w1 := ((Below.refl W.heap.size W).drew).trans hb0; clear hb0)
        all_goals
          have HB1 := Lib.hid hb1
          have f2' := a_ (s_ HG.out hb1) 2
          have c2' : w1.cell? ⟨g, 2, none⟩ = some (.bool false) := (b_ (s_ HG.out hb1) 2).trans rfl
          clear hb1 f2
          go_wp2
          go_ret
          exact ⟨rfl, rs_bad HG.out HGE.out HB.out HB1.out (bv_.of_below HB1.out _) true⟩
      · have hout : numOf l most at_ false = (v, ((at_ : Int) + nx).toNat, false) := by unfold numOf; rw [if_neg (by decide), hgl, if_neg hv]; rfl
        rw [hout]
        have hd : decide (most < v) = false := decide_eq_false hv
        obtain ⟨k, hk⟩ : ∃ k : Nat, (at_ : Int) + nx = k := ⟨((at_ : Int) + nx).toNat, by omega⟩
        have hw1 : wrap64 v = v := wr_id (by omega) (by have := hm.2; omega)
        have hw2 : wrap64 ((at_ : Int) + nx) = (k : Int) := by
          have hk2 : k ≤ l.length := by omega
          clear hw1
          rw [hk]
          unfold wrap64
          omega
        have HK := Lib.hid hk
        clear hf hgl hout hr f2 g1 g2 g3 g6 hep hlen hv hk
        go_enter Tryz.func43, Tryz.ntmps43
        go_wp2_with fail
        go_region_with (go_at_call 55; refine (t_.calls 40 A c l (at_ : Int) v nx _ (by first | exact HC.out 1 | exact HC.out 0) hc HF.out).mono ?_; rintro e w1 ⟨rfl, hb0⟩; have hb1 : Below W.heap.size W w1 := ((Below.refl W.heap.size W).drew).trans hb0; clear hb0)
        all_goals
          have HB1 := Lib.hid hb1
          have f1' := a_ (s_ HG.out hb1) 1
          have c1' : w1.cell? ⟨g, 1, none⟩ = some (.int .i64 (at_ : Int)) := (b_ (s_ HG.out hb1) 1).trans rfl
          clear hb1 f1
          go_wp2
          go_ret
          rw [hw2, HK.out, Int.toNat_natCast]
          refine ⟨?_, rs_at ⟨⟨s_ HG.out HB1.out, HGE.out, HB.out.trans (HB1.out.mono HB.out.size)⟩, bv_.of_below HB1.out _, HB1.out.mono HB.out.size⟩ k⟩
          show Ending.returned (.int .i64 (wrap64 v)) = _
          rw [hw1]
theorem cut_mid {P : Program} (t e : TypeId) {i : TypeInfo} (hu : P.underlying t = some (.slice e)) (hi : P.info? e = some i) (hsz : i.size = 1) (A : Option Addr) (n c a b : Nat) (h1 : a ≤ b) (h2 : b ≤ n) (h3 : n ≤ c) (W : World) :
    (Instr.slice t (.slice A n c) (some (.int .i64 (a : Int))) (some (.int .i64 (b : Int))) none).run P W = .ok (.slice (if c = a then A else A.map (·.add (a * 1))) (b - a) (c - a)) W := by
  have hel : P.elem t = e := by simp [Program.elem, hu]
  have hu' : P.underlying t = some (.slice (P.elem t)) := by rw [hel]; exact hu
  rw [run_slice_lh W t A n c hu' .i64 .i64 (a : Int) (b : Int) (by omega) (by omega) (by omega), hel]
  simp [sizeOf, typeInfo, hi, hsz, sliced, Result.andThen]
theorem txt_num {l : List Int} (hb : bytesOk l) {at_ : Nat} {bad : Bool} (ha : at_ ≤ l.length) : txtOf l at_ bad = (match numOf l 4096 at_ bad with | (_, _, true) => (⟨#[]⟩, at_, true) | (v, nx, false) => if v > (l.length : Int) - nx then (⟨#[]⟩, at_, true) else (strOfNums ((l.take (nx + v.toNat)).drop nx), nx + v.toNat, false)) := by
  unfold txtOf numOf
  by_cases hbad : bad = true
  · rw [if_pos hbad, if_pos hbad]
  · rw [if_neg hbad, if_neg hbad]
    unfold gat
    generalize hr : gn 4096 0 0 (l.drop at_) = r
    obtain ⟨v, c, er⟩ := r
    cases er with
    | some e => rfl
    | none =>
      obtain ⟨_, m, g1, g2, g3, _, _, post, g6⟩ := gn_back 4096 (l.drop at_) 0 0 v c (fun x hx => hb x (List.mem_of_mem_drop hx)) hr
      simp only [Int.pow_zero, Int.mul_one, Int.zero_add] at g1
      have hep := enc_pos m
      simp only [Option.isNone_none, if_true]
      by_cases hg : (at_ : Int) + c + v > (l.length : Int)
      · rw [if_pos hg, if_pos (by omega)]
      · rw [if_neg hg, if_neg (by omega)]
        have e1 : ((at_ : Int) + c + v).toNat = ((at_ : Int) + c).toNat + v.toNat := by omega
        rw [e1]
def rtxt (l : List Int) (at_ : Nat) (bad : Bool) : ByteArray × Nat × Bool :=
  match numOf l 4096 at_ bad with
  | (_, nx, true) => (⟨#[]⟩, nx, true)
  | (v, nx, false) => if v > (l.length : Int) - nx then (⟨#[]⟩, nx, true) else (strOfNums ((l.take (nx + v.toNat)).drop nx), nx + v.toNat, false)
theorem rtxt_txt {l : List Int} (hb : bytesOk l) {at_ : Nat} {bad : Bool} (ha : at_ ≤ l.length) : (rtxt l at_ bad).1 = (txtOf l at_ bad).1 ∧ (rtxt l at_ bad).2.2 = (txtOf l at_ bad).2.2 ∧ ((txtOf l at_ bad).2.2 = false → (rtxt l at_ bad).2.1 = (txtOf l at_ bad).2.1) ∧ (rtxt l at_ bad).2.1 ≤ l.length := by
  have hat := numOf_at hb 4096 (by decide) ha bad
  rw [txt_num hb ha]
  unfold rtxt
  generalize numOf l 4096 at_ bad = q at hat
  obtain ⟨v, nx, bd⟩ := q
  have h1 : nx ≤ l.length := hat.1
  have h2 : 0 ≤ v := hat.2.1
  cases bd with
  | true => exact ⟨rfl, rfl, fun h => (by cases h), h1⟩
  | false =>
    simp only
    split
    · exact ⟨rfl, rfl, fun h => (by cases h), h1⟩
    · exact ⟨rfl, rfl, fun _ => rfl, by simp only; omega⟩
set_option maxHeartbeats 4000000 in
set_option maxRecDepth 100000 in
theorem rtext_calls (w0 W : World) (g : Nat) (A : Option Addr) (c : Nat) (l : List Int) (at_ : Nat) (bad : Bool) (h : RS 111 w0 W g A l.length c at_ bad) (hC : Kd.C (Kd.int .u8) w0 A l.length l) (hc : l.length ≤ c) (hb : bytesOk l) (hl : l.length ≤ 100000000) (ha : at_ ≤ l.length) :
    Calls Tryz.prog 45 #[.pointer (some ⟨g, 0, none⟩)] W fun e w' => e = .returned (.string (rtxt l at_ bad).1) ∧ RS 111 w0 w' g A l.length c (rtxt l at_ bad).2.1 (rtxt l at_ bad).2.2 ∧ bv_ W w' (fun k => k = g) ∧ Below w0.heap.size W w' := by
  have hnum := rnum_calls w0 W g A c l at_ bad 4096 (by unfold big31; omega) h hC hc hb hl ha
  have hat := numOf_at hb 4096 (by decide) ha bad
  have hC0 := Kd.C_below hC h.2.2
  have hsz := h.2.2
  unfold rtxt
  generalize numOf l 4096 at_ bad = q at hnum hat
  obtain ⟨v, nx, bd⟩ := q
  have HN := Lib.hid hnum
  have HAT := Lib.hid hat
  have HC := Lib.hid hC
  have HLL := Lib.hid hl
  clear hnum hat hC hC0 hsz h
  go_enter Tryz.func45, Tryz.ntmps45
  go_wp2_with fail
  refine HN.out.mono ?_
  rintro e w1 ⟨rfl, hrs, hk, hbl⟩
  have HRS := Lib.hid hrs
  have HK := Lib.hid hk
  have HBL := Lib.hid hbl
  have c0 : w1.cell? ⟨g, 0, none⟩ = some (.slice A l.length c) := (b_ hrs.1 0).trans rfl
  have c1 : w1.cell? ⟨g, 1, none⟩ = some (.int .i64 (nx : Int)) := (b_ hrs.1 1).trans rfl
  have c2 : w1.cell? ⟨g, 2, none⟩ = some (.bool bd) := (b_ hrs.1 2).trans rfl
  have f1 := a_ hrs.1 1
  have f2 := a_ hrs.1 2
  clear hrs hk hbl HN
  have hat := HAT.out
  have hd : bd = true ∨ (bd = false ∧ (l.length : Int) - (nx : Int) < v) ∨ (bd = false ∧ ¬ (l.length : Int) - (nx : Int) < v) := by
    cases bd
    · by_cases h : (l.length : Int) - (nx : Int) < v
      · exact .inr (.inl ⟨rfl, h⟩)
      · exact .inr (.inr ⟨rfl, h⟩)
    · exact .inl rfl
  have hw : wrap64 ((l.length : Int) - (nx : Int)) = (l.length : Int) - (nx : Int) := by
    have := HLL.out
    have h1 : nx ≤ l.length := hat.1
    unfold wrap64
    omega
  have hnl : nx ≤ l.length := hat.1
  rcases hd with hbd | ⟨hbd, hv⟩ | ⟨hbd, hv⟩
  · subst hbd
    clear hw hat
    go_wp2_with fail
    go_quiet (fail)
    have c2' : (w1.drewN nq).cell? ⟨g, 2, none⟩ = some (.bool true) := c2
    have f2' : (w1.drewN nq).frozen? ⟨g, 2, none⟩ = false := f2
    go_wp2
    go_ret
    obtain ⟨a1, a2, a3⟩ := rs_bad HRS.out.1 HRS.out.2.1 HRS.out.2.2 (d_ (Below.refl _ _) nq) (bv_.drewN (bv_.refl _ _) nq) true
    exact ⟨rfl, a1, HK.out.then_ a2 (fun k hk => .inl hk), HBL.out.trans a3⟩
  · subst hbd
    have hd2 : decide ((l.length : Int) - (nx : Int) < v) = true := decide_eq_true hv
    clear hat
    have HV := Lib.hid hv
    clear hv
    go_wp2_with fail
    go_quiet (fail)
    have c2' : (w1.drewN nq).cell? ⟨g, 2, none⟩ = some (.bool false) := c2
    have f2' : (w1.drewN nq).frozen? ⟨g, 2, none⟩ = false := f2
    clear hw
    go_wp2
    go_ret
    obtain ⟨a1, a2, a3⟩ := rs_bad HRS.out.1 HRS.out.2.1 HRS.out.2.2 (d_ (Below.refl _ _) nq) (bv_.drewN (bv_.refl _ _) nq) true
    exact ⟨rfl, a1, HK.out.then_ a2 (fun k hk => .inl hk), HBL.out.trans a3⟩
  · subst hbd
    have hd2 : decide ((l.length : Int) - (nx : Int) < v) = false := decide_eq_false hv
    have hv0 : 0 ≤ v := hat.2.1
    clear hat
    obtain ⟨m, rfl⟩ : ∃ m : Nat, v = m := ⟨v.toNat, by omega⟩
    have hnm : nx + m ≤ l.length := by omega
    have HV := Lib.hid hv
    have hw3 : wrap64 ((nx : Int) + (m : Int)) = (nx : Int) + (m : Int) := by
      have := HLL.out
      clear hw
      unfold wrap64
      omega
    clear hv hv0
    go_wp2_with fail
    go_quiet (fail)
    have HRS2 := Lib.hid (HRS.out.below (d_ (Below.refl _ _) nq))
    have HK2 := Lib.hid (bv_.drewN HK.out nq)
    have HBL2 := Lib.hid (d_ HBL.out nq)
    clear HRS HK HBL c0 c1 c2 f1 f2
    generalize w1.drewN nq = w2 at *
    have c0' : w2.cell? ⟨g, 0, none⟩ = some (.slice A l.length c) := (b_ HRS2.out.1 0).trans rfl
    have c1' : w2.cell? ⟨g, 1, none⟩ = some (.int .i64 (nx : Int)) := (b_ HRS2.out.1 1).trans rfl
    have f1' := a_ HRS2.out.1 1
    have hcw : ∀ n, Kd.C (Kd.int .u8) (w2.drewN n) A l.length l := fun n => Kd.C_drewN (Kd.C_below HC.out HRS2.out.2.2) n
    have hci : ∃ i0, (Tryz.prog.info? 5) = some i0 ∧ i0.size = 1 := by obtain ⟨i0, h1, h2⟩ := Option.map_eq_some_iff.1 info5; exact ⟨i0, h1, by simp only [Prod.mk.injEq] at h2; exact h2.2.1⟩
    obtain ⟨i0, hi0, hsz0⟩ := hci
    have cut1 := cut_mid (P := Tryz.prog) 70 5 Tryz.underlying70 hi0 hsz0 A l.length c nx (nx + m) (by omega) hnm hc
    rw [show ((nx + m : Nat) : Int) = (nx : Int) + (m : Int) from by omega, Nat.add_sub_cancel_left] at cut1
    have hcl : ((l.take (nx + m)).drop nx).length = m := by rw [List.length_drop, List.length_take]; omega
    have hcut : ∀ n, Kd.C (Kd.int .u8) (w2.drewN n) (if c = nx then A else A.map (·.add (nx * 1))) ((l.take (nx + m)).drop nx).length ((l.take (nx + m)).drop nx) := fun n =>
      Kd.C_drop (m := nx) (Kd.C_take (m := nx + m) (hcw n) hnm) (by rw [List.length_take, Nat.min_eq_left hnm]; omega) (by rw [List.length_take, Nat.min_eq_left hnm]; omega)
    generalize (if c = nx then A else A.map (·.add (nx * 1))) = Z at cut1 hcut
    have hst := fun n => Kd.C_string (P := Tryz.prog) (c := c - nx) Tryz.underlying70 Tryz.underlying5 Tryz.underlying9 (hcut n)
    rw [hcl] at hst
    have HNM := Lib.hid hnm
    clear hcw hcut hi0 hsz0 hcl hw hnm hnl hd2
    go_wp2_with fail
    go_quiet (fail)
    have c1'' : (w2.drewN nq).cell? ⟨g, 1, none⟩ = some (.int .i64 (nx : Int)) := c1'
    have f1'' : (w2.drewN nq).frozen? ⟨g, 1, none⟩ = false := f1'
    clear cut1 hst c0' c1' f1'
    have e : (nx : Int) + (m : Int) = ((nx + m : Nat) : Int) := by omega
    have HE := Lib.hid e
    clear e
    go_wp2
    all_goals
      first
      | (exfalso; have := HV.out; omega)
      | (go_ret
         try rw [hw3]
         rw [HE.out]
         obtain ⟨a1, a2, a3⟩ := rs_at ⟨HRS2.out.below (d_ (Below.refl _ _) nq), bv_.drewN HK2.out nq, d_ HBL2.out nq⟩ (nx + m)
         exact ⟨rfl, a1, a2, a3⟩)
end Go.Proofs.YtlcfcaokihoplaaGreatDoor.MsgL
