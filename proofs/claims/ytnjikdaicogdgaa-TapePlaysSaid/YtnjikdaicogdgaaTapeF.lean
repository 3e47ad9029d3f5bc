import Derived.Test.YtnjikdaicogdgaaTapeE
import Derived.Deep.CutBlock
namespace Go.Proofs.Ytnjikdaicogdgaa.Tape
open Go.RowKit Go.Proofs.Ytnjikdaicogdgaa.La Go.Proofs.YtnjikdaicogdgaaW.PrintWords Go.Proofs.YtnjikdaicogdgaaW.PrintLast Go.Proofs.YtnjikdaicogdgaaW.PrintMore
attribute [local go_sem] eqlErr neqErr eqlErrNil neqErrNil
set_option linter.unusedVariables false
set_option linter.unusedSimpArgs false
/-- A deed in memory. -/
def DeedR (W : World) (d : (Int × Int × List Int)) (cs : List Value) : Prop :=
  ∃ A c, cs = [.int .i64 d.1, .int .i64 d.2.1, .slice A d.2.2.length c] ∧ (-9223372036854775808 ≤ d.1 ∧ d.1 ≤ 9223372036854775807) ∧ (-9223372036854775808 ≤ d.2.1 ∧ d.2.1 ≤ 9223372036854775807) ∧ d.2.2.length ≤ c ∧ Kd.C (Kd.int .u8) W A d.2.2.length d.2.2
def Deeds (W : World) (A : Option Addr) (n : Nat) (ds : List (Int × Int × List Int)) : Prop := ReadsRow (DeedR W) 3 W A n ds
theorem Deeds.below {W W' : World} {A : Option Addr} {n : Nat} {ds : List (Int × Int × List Int)} (h : Deeds W A n ds) (hb : Below W.heap.size W W') : Deeds W' A n ds :=
  ReadsRow.imp_ h hb (fun _ _ ⟨A, c, h1, h2, h3, h4, h5⟩ => ⟨A, c, h1, h2, h3, h4, Kd.C_below h5 hb⟩)
theorem Deeds.get {W0 W : World} {A : Option Addr} {ds : List (Int × Int × List Int)} (h : ReadsRow (DeedR W0) 3 W A ds.length ds) (i : Int) (h0 : 0 ≤ i) (h1 : i < ds.length) :
    ∃ ad, A = some ad ∧ ∃ (d : (Int × Int × List Int)) (B : Option Addr) (c : Nat), (-9223372036854775808 ≤ d.1 ∧ d.1 ≤ 9223372036854775807) ∧ (-9223372036854775808 ≤ d.2.1 ∧ d.2.1 ≤ 9223372036854775807) ∧ d.2.2.length ≤ c ∧ Kd.C (Kd.int .u8) W0 B d.2.2.length d.2.2 ∧
      W.cell? (ad.add (i.toNat * 3)) = some (.int .i64 d.1) ∧ W.cell? ⟨(ad.add (i.toNat * 3)).block, (ad.add (i.toNat * 3)).off + 1, none⟩ = some (.int .i64 d.2.1) ∧ W.cell? ⟨(ad.add (i.toNat * 3)).block, (ad.add (i.toNat * 3)).off + 2, none⟩ = some (.slice B d.2.2.length c) := by
  obtain ⟨ad, cs, e, hl, ⟨B, c, rfl, r1, r2, r3, r4⟩, hc⟩ := ReadsRow.get_ h (0, 0, []) i h0 h1
  refine ⟨ad, e, _, B, c, r1, r2, r3, r4, hc 0 _ rfl, ?_, ?_⟩
  · rw [← hc 1 _ rfl, ← Addr.add_add]; rfl
  · rw [← hc 2 _ rfl, ← Addr.add_add]; rfl

/-- What the loop keeps: the tape, and the law's own bytes, apart. -/
def Both (w0 W : World) (v : Value) (l : List Int) (s : Nat) : Prop :=
  ∃ okT okB : Nat → Prop, (∀ k, okT k → ¬ okB k) ∧ TapeAt W w0.heap.size okT w0.heap.size l s ∧ Kd.R (Kd.int .u8) 5 W w0.heap.size okB v l ∧ Below w0.heap.size w0 W

theorem TapeAt.drew {W : World} {B : Nat} {ok : Nat → Prop} {g : Nat} {l : List Int} {s : Nat} (h : TapeAt W B ok g l s) : TapeAt W.drew B ok g l s := h.below (Below.refl _ W).drew

set_option maxHeartbeats 8000000 in
set_option maxRecDepth 100000 in
theorem plays_calls (A0 : Option Addr) (c0 : Nat) (ds : List (Int × Int × List Int)) (w : World) (h0 : Deeds w A0 ds.length ds) (k0 : ds.length ≤ c0) :
    Calls Try.prog 8 #[.slice A0 ds.length c0] w fun e w' => e = .returned (.bool true) ∧ Below w.heap.size w w' := by
  have H0 := Lib.hid h0
  clear h0
  go_enter Try.func8, Try.ntmps8
  go_wp2_with fail
  refine (up_calls _).mono ?_
  rintro e w1 ⟨rfl, hb⟩
  have HB := Lib.hid hb
  have H0' := Lib.hid (H0.out.below hb)
  clear hb H0
  go_wp2_with fail
  refine (ts_New _).mono ?_
  rintro e w2 ⟨rfl, ht⟩
  have HT := Lib.hid ht
  clear ht
  go_wp2_with fail
  go_loopg [5, 6, 7] 100 (fun kq v5 v6 v7 w' => ∃ (l : List Int) (s : Nat) (i : Int) (bv : Value), v5 = bv ∧ v6 = .int .i64 (s : Int) ∧ v7 = .int .i64 i ∧ Hid (i = 100 - (kq : Int) ∧ kq ≤ 100 ∧ (l.length : Int) ≤ 2000 * i) ∧ Hid (Both w1 w' bv l s))
  case atStart => exact ⟨[], 0, 0, _, rfl, rfl, rfl, Lib.hid ⟨by omega, by omega, by simp⟩, Lib.hid ⟨fun _ => True, fun _ => False, fun _ _ h => h, HT.out.1, Kd.R_nil _ _ _ _ _, HT.out.2⟩⟩
  case round =>
    obtain ⟨l, s, i, bv, rfl, rfl, rfl, HI, HBo⟩ := hrel
    obtain ⟨okT, okB, hne, ht, hr, hb⟩ := HBo.out
    obtain ⟨Ab, cb, rfl⟩ := Kd.R_slice hr
    have hHB : Below w.heap.size w wr := HB.out.trans (hb.mono HB.out.size)
    have HW := Lib.hid hHB
    have hi0 : 0 ≤ i := by have := HI.out; omega
    by_cases hi : i < (ds.length : Int)
    rotate_left
    · have hd : decide (i < (ds.length : Int)) = false := by simpa using hi
      clear ht hr hb hHB hi0 hi HBo hne
      go_wp2
      go_ret
      exact ⟨rfl, HW.out⟩
    have hd : decide (i < (ds.length : Int)) = true := by simpa using hi
    by_cases hj : i < 100
    rotate_left
    · have hd2 : decide (i < 100) = false := by simpa using hj
      clear ht hr hb hHB hi0 hi HBo hne hj
      go_wp2
      go_ret
      exact ⟨rfl, HW.out⟩
    have hd2 : decide (i < 100) = true := by simpa using hj
    obtain ⟨ad, rfl, d, Bd, cd, hq1, hq2, hq3, hq4, hx0, hx1, hx2⟩ := Deeds.get (ReadsRow.imp_ H0'.out hb (fun _ _ h => h)) i hi0 hi
    by_cases hbig : (2000 : Int) < (d.2.2.length : Int)
    · clear ht hr hb hHB HBo hne hq1 hq2 hq3 hq4
      go_wp2
      go_ret
      exact ⟨rfl, HW.out.alloc HW.out.size _⟩
    clear hd hd2
    cases gk with
    | zero => have := HI.out; omega
    | succ k1 =>
    have HT0 : Hid (TapeAt wr w1.heap.size (fun k => okT k ∧ k < wr.heap.size) w1.heap.size l s) := Lib.hid (ht.bound.mono (fun k h => ⟨h.1, h.2.2⟩))
    have HR0 : Hid (Kd.R (Kd.int .u8) 5 wr w1.heap.size (fun k => okB k ∧ k < wr.heap.size) (.slice Ab l.length cb) l) := Lib.hid (Kd.R_mono (Kd.R_bound hr) (fun k h => ⟨h.1, h.2.2.1⟩))
    have hwi : wrap64 (i + 1) = i + 1 := by unfold wrap64; omega
    have HWI := Lib.hid hwi
    have HQ := Lib.hid hq4
    have HQ1 := Lib.hid hq1
    have HQ2 := Lib.hid hq2
    have HQ3 := Lib.hid hq3
    have HNE : Hid (∀ k, (okT k ∧ k < wr.heap.size) → ¬ (okB k ∧ k < wr.heap.size)) := Lib.hid (fun k h1 h2 => hne k h1.1 h2.1)
    have HBe := Lib.hid hb
    have HLT : Hid (∀ k, (okT k ∧ k < wr.heap.size) → k < wr.heap.size) := Lib.hid (fun k h => h.2)
    have HLB : Hid (∀ k, (okB k ∧ k < wr.heap.size) → k < wr.heap.size) := Lib.hid (fun k h => h.2)
    have HBIG := Lib.hid hbig
    clear ht hr hb hHB HBo hne hq4 hwi hq1 hq2 hq3 HB
    generalize hokT : (fun k => okT k ∧ k < wr.heap.size) = oT at *
    have HLT' : Hid (∀ k, oT k → k < wr.heap.size) := by rw [← hokT]; exact HLT
    have HLB' : Hid (∀ k, oT k → ¬ (okB k ∧ k < wr.heap.size)) := by rw [← hokT]; exact HNE
    generalize hokB : (fun k => okB k ∧ k < wr.heap.size) = oB at *
    have HLB2 : Hid (∀ k, oB k → k < wr.heap.size) := by rw [← hokB]; exact HLB
    have HNE2 : Hid (∀ k, oT k → ¬ oB k) := by rw [← hokB]; exact HLB'
    clear HLT HLB HNE HLB' hokT hokB
    go_wp2_with fail
    clear hx0 hx1 hx2 hbig
    refine (pick_calls d.1 5 _ HQ1.out.1 HQ1.out.2 (by omega) (by omega)).mono ?_
    rintro e wa ⟨r, rfl, r0, r5, hwa⟩
    have HTa := Lib.hid (HT0.out.below ((Below.refl _ wr).alloc (Nat.le_refl _) (.cells #[.int .i64 d.1, .int .i64 d.2.1, .slice Bd d.2.2.length cd] 47)))
    have HRa := Lib.hid (Kd.R_below HR0.out ((Below.refl _ wr).alloc (Nat.le_refl _) (.cells #[.int .i64 d.1, .int .i64 d.2.1, .slice Bd d.2.2.length cd] 47)))
    have HBa := Lib.hid (HBe.out.alloc HBe.out.size (.cells #[.int .i64 d.1, .int .i64 d.2.1, .slice Bd d.2.2.length cd] 47))
    have HKa := Lib.hid (heap_alloc_new wr (.cells #[.int .i64 d.1, .int .i64 d.2.1, .slice Bd d.2.2.length cd] 47))
    have HSa := Lib.hid (show wr.heap.size < (wr.alloc (.cells #[.int .i64 d.1, .int .i64 d.2.1, .slice Bd d.2.2.length cd] 47)).heap.size from by simp)
    clear HT0 HR0 HBe
    rw [hwa] at HTa HRa HBa HKa HSa
    generalize wr.heap.size = g at *
    clear hwa
    have hi' : 0 ≤ i ∧ i < 100 := ⟨hi0, hj⟩
    have HIJ := Lib.hid hi'
    clear hi' hi0 hj hi
    go_upto_block 2 with fail
    (try simp only [Act.put, List.setIfInBounds_toArray, List.set_cons_zero, List.set_cons_succ])
    go_cut [5, 6] (fun v5 v6 wc => ∃ (l' : List Int) (s' : Nat) (Ab' : Option Addr) (cb' : Nat) (oTE oBE : Nat → Prop), v5 = .slice Ab' l'.length cb' ∧ v6 = .int .i64 (s' : Int) ∧ Hid (TapeAt wc w1.heap.size oTE w1.heap.size l' s') ∧ Hid (Kd.R (Kd.int .u8) 5 wc w1.heap.size oBE (.slice Ab' l'.length cb') l') ∧ Hid (∀ k, oTE k → ¬ oBE k) ∧ Hid (Below w1.heap.size w1 wc) ∧ Hid ((l'.length : Int) ≤ 2000 * (i + 1)))
    case first =>
      by_cases e2 : r = 2
      · subst e2
        go_wp2_with fail
        refine (tape_Sync wa _ _ _ _ _ HTa.out).mono ?_
        rintro e wE ⟨rfl, ht⟩
        have HTE := Lib.hid ht.1
        have HRE := Lib.hid (Kd.R_kept HRa.out ht.2.1 (fun k h h2 => HNE2.out k h2 h))
        have HBE := Lib.hid (HBa.out.trans ht.2.2)
        have HNEE : Hid (∀ k, (oT k ∨ wa.heap.size ≤ k) → ¬ oB k) := Lib.hid (fun k h h2 => by rcases h with h | h; exact HNE2.out k h h2; have := HLB2.out k h2; have := HSa.out; omega)
        have HIE : Hid ((l.length : Int) ≤ 2000 * (i + 1)) := Lib.hid (by have := HI.out; omega)
        clear ht HTa HRa HBa
        go_wp2_with fail
        go_meet
        case rel => exact ⟨l, l.length, Ab, cb, _, oB, rfl, rfl, HTE, HRE, HNEE, HBE, HIE⟩
      have hlt : l.length ≤ 1048576 := HTa.out.2.2.2.1
      have hsl : s ≤ l.length := HTa.out.2.2.1
      have ck1 : wa.cell? ⟨g, 1, none⟩ = some (.int .i64 d.2.1) := (blk_cell HKa.out 1).trans rfl
      have hci : ∃ i0, (Try.prog.info? 5) = some i0 ∧ i0.size = 1 := by obtain ⟨i0, h1, h2⟩ := Option.map_eq_some_iff.1 info5; exact ⟨i0, h1, by simp only [Prod.mk.injEq] at h2; exact h2.2.1⟩
      obtain ⟨i0, hi0, hsz0⟩ := hci
      have HI0 := Lib.hid hi0
      have hlc : l.length ≤ cb := (Kd.R_reads' HRa.out).2.1
      have HLC := Lib.hid hlc
      have HLT := Lib.hid hlt
      have HSL := Lib.hid hsl
      clear hi0 hsz0 hlc hlt hsl
      by_cases e3 : r = 3
      · subst e3
        go_wp2_with fail
        refine (tape_Crash wa _ _ _ _ _ HTa.out d.2.1 HQ2.out.2).mono ?_
        rintro e wE ⟨rfl, ht⟩
        have HRE := Lib.hid (Kd.R_kept HRa.out ht.2.1 (fun k h h2 => HNE2.out k h2 h))
        have HTE := Lib.hid ht.1
        have HBE := Lib.hid (HBa.out.trans ht.2.2)
        have HNEE : Hid (∀ k, (oT k ∨ wa.heap.size ≤ k) → ¬ oB k) := Lib.hid (fun k h h2 => by rcases h with h | h; exact HNE2.out k h h2; have := HLB2.out k h2; have := HSa.out; omega)
        have ck2 : wE.cell? ⟨g, 1, none⟩ = some (.int .i64 d.2.1) := (blk_cell (blk_kept HKa.out ht.2.1 (fun h => by have := HLT'.out g h; omega)) 1).trans rfl
        clear ht HTa HRa HBa ck1
        have hlt := HLT.out
        have hsl := HSL.out
        have hlc := HLC.out
        have hw1 : wrap64 ((l.length : Int) - (s : Int)) = (l.length : Int) - (s : Int) := by unfold wrap64; omega
        by_cases hn : d.2.1 < 0
        · by_cases hc : (0 : Int) < (l.length : Int) - (s : Int)
          · have hk : crashLeft l.length s d.2.1 = s := by unfold crashLeft; omega
            rw [hk] at HTE
            have cut3 := cut_to (P := Try.prog) 29 5 .i64 Try.underlying29 HI0.out Ab l.length cb (s : Int) (by omega) (by omega) hlc
            rw [Int.toNat_natCast] at cut3
            clear hk
            go_wp2_with fail
            go_meet
            case rel => exact ⟨l.take s, s, Ab, cb, _, oB, by rw [List.length_take, Nat.min_eq_left hsl], by rfl, HTE, Lib.hid (by rw [List.length_take, Nat.min_eq_left hsl]; exact Kd.R_take HRE.out hsl), HNEE, HBE, Lib.hid (by have := HI.out; rw [List.length_take]; omega)⟩
          · have hk : crashLeft l.length s d.2.1 = l.length := by unfold crashLeft; omega
            rw [hk, List.take_length] at HTE
            clear hk
            go_wp2_with fail
            go_meet
            case rel => exact ⟨l, l.length, Ab, cb, _, oB, rfl, by rfl, HTE, HRE, HNEE, HBE, Lib.hid (by have := HI.out; omega)⟩
        · by_cases hc : d.2.1 < (l.length : Int) - (s : Int)
          · have hk : crashLeft l.length s d.2.1 = s + d.2.1.toNat := by unfold crashLeft; omega
            rw [hk] at HTE
            have cut3 := cut_to (P := Try.prog) 29 5 .i64 Try.underlying29 HI0.out Ab l.length cb ((s : Int) + d.2.1) (by omega) (by omega) hlc
            have hw2 : wrap64 ((s : Int) + d.2.1) = (s : Int) + d.2.1 := by unfold wrap64; omega
            have hto : ((s : Int) + d.2.1).toNat = s + d.2.1.toNat := by omega
            rw [hto] at cut3
            have hle : s + d.2.1.toNat ≤ l.length := by omega
            clear hk hto
            go_wp2_with fail
            go_meet
            case rel => exact ⟨l.take (s + d.2.1.toNat), s + d.2.1.toNat, Ab, cb, _, oB, by rw [List.length_take, Nat.min_eq_left hle], by rw [show ((s : Int) + max d.2.1 0) = ((s + d.2.1.toNat : Nat) : Int) from by omega], HTE, Lib.hid (by rw [List.length_take, Nat.min_eq_left hle]; exact Kd.R_take HRE.out hle), HNEE, HBE, Lib.hid (by have := HI.out; rw [List.length_take]; omega)⟩
          · have hk : crashLeft l.length s d.2.1 = l.length := by unfold crashLeft; omega
            rw [hk, List.take_length] at HTE
            clear hk
            go_wp2_with fail
            go_meet
            case rel => exact ⟨l, l.length, Ab, cb, _, oB, rfl, by rfl, HTE, HRE, HNEE, HBE, Lib.hid (by have := HI.out; omega)⟩
      by_cases e4 : r = 4
      · subst e4
        by_cases hn : d.2.1 < 0 ∨ (l.length : Int) < d.2.1
        · have HN := Lib.hid hn
          go_wp2_with fail
          refine (tape_Cut_no wa _ _ _ _ _ HTa.out d.2.1 HN.out).mono ?_
          rintro e wE ⟨rfl, rfl⟩
          rw [errW_some]
          have hNE2 : Hid (∀ k, oT k → ¬ oB k) := HNE2
          have HIE : Hid ((l.length : Int) ≤ 2000 * (i + 1)) := Lib.hid (by have := HI.out; omega)
          by_cases hn1 : d.2.1 < 0
          · clear hn
            go_wp2_with fail
            go_meet
            case rel => exact ⟨l, s, Ab, cb, _, oB, rfl, rfl, HTa, HRa, HNE2, HBa, HIE⟩
          · have hn2 : (l.length : Int) < d.2.1 := by omega
            clear hn
            go_wp2_with fail
            go_meet
            case rel => exact ⟨l, s, Ab, cb, _, oB, rfl, rfl, HTa, HRa, HNE2, HBa, HIE⟩
        · have hn1 : ¬ d.2.1 < 0 := by omega
          have hn2 : ¬ (l.length : Int) < d.2.1 := by omega
          clear hn
          obtain ⟨K, hK⟩ : ∃ K : Nat, d.2.1 = (K : Int) := ⟨d.2.1.toNat, by omega⟩
          rw [hK] at ck1 hn1 hn2 HKa
          have hKl : K ≤ l.length := by omega
          have HKL := Lib.hid hKl
          have HKK := Lib.hid hK
          clear hK
          go_wp2_with fail
          refine (tape_Cut wa _ _ _ _ _ HTa.out K HKL.out).mono ?_
          rintro e wE ⟨rfl, ht⟩
          rw [errW_none]
          have HRE := Lib.hid (Kd.R_kept HRa.out ht.2.1 (fun k h h2 => HNE2.out k h2 h))
          have HTE := Lib.hid ht.1
          have HBE := Lib.hid (HBa.out.trans ht.2.2)
          have HNEE : Hid (∀ k, (oT k ∨ wa.heap.size ≤ k) → ¬ oB k) := Lib.hid (fun k h h2 => by rcases h with h | h; exact HNE2.out k h h2; have := HLB2.out k h2; have := HSa.out; omega)
          have ck2 : wE.cell? ⟨g, 1, none⟩ = some (.int .i64 (K : Int)) := (blk_cell (blk_kept HKa.out ht.2.1 (fun h => by have := HLT'.out g h; omega)) 1).trans rfl
          have cut3 := cut_to (P := Try.prog) 29 5 .i64 Try.underlying29 HI0.out Ab l.length cb (K : Int) (by omega) (by omega) HLC.out
          rw [Int.toNat_natCast] at cut3
          clear ht HTa HRa HBa ck1
          go_wp2_with fail
          go_meet
          case rel => exact ⟨l.take K, K, Ab, cb, _, oB, by rw [List.length_take, Nat.min_eq_left HKL.out], by rfl, HTE, Lib.hid (by rw [List.length_take, Nat.min_eq_left HKL.out]; exact Kd.R_take HRE.out HKL.out), HNEE, HBE, Lib.hid (by have := HI.out; rw [List.length_take]; omega)⟩
      have e2b : (r == 2) = false := by simpa using e2
      have e3b : (r == 3) = false := by simpa using e3
      have e4b : (r == 4) = false := by simpa using e4
      clear ck1
      have ck0 : wa.cell? ⟨g, 2, none⟩ = some (.slice Bd d.2.2.length cd) := (blk_cell HKa.out 2).trans rfl
      go_wp2_with fail
      refine (tape_Append wa _ _ _ _ _ HTa.out HBa.out.size Bd cd d.2.2 (Kd.C_below HQ.out HBa.out) (by have := HBIG.out; have := HI.out; have := HIJ.out; omega)).mono ?_
      rintro e wE ⟨rfl, ht⟩
      rw [errW_none]
      have HRE := Lib.hid (Kd.R_kept HRa.out ht.2.1 (fun k h h2 => HNE2.out k h2 h))
      have HTE := Lib.hid ht.1
      have HBE := Lib.hid (HBa.out.trans ht.2.2)
      have ck2 : wE.cell? ⟨g, 2, none⟩ = some (.slice Bd d.2.2.length cd) := (blk_cell (blk_kept HKa.out ht.2.1 (fun h => by have := HLT'.out g h; omega)) 2).trans rfl
      have HGE := Lib.hid (show g < wE.heap.size from Nat.lt_of_lt_of_le HSa.out ht.2.2.size)
      clear ht HTa HRa HBa ck0 e2b e3b e4b
      go_wp2_with fail
      refine start_ (n := 7) (S := fun w' => w'.cell? ⟨g, 2, none⟩ = some (.slice Bd d.2.2.length cd)) (ds := []) #[false, false, false, false, false, false, false] (by kernel_rfl) rfl rfl (ck2) (fun hHeld => ?_)
      refine pure_ (i := 1) (N := some 45) (v := ?_) (a' := ?_) #[false, true, false, false, false, false, false] rfl rfl (by kernel_rfl) (fun _ _ _ h => h) (Or.inl ⟨by rfl, ?_⟩) ?_ ?_
      rotate_left
      · intro w'
        go_simp
        with_reducible rfl
      rotate_left
      · simp only [Act.put, List.setIfInBounds_toArray, List.set_cons_zero, List.set_cons_succ, i64_w, i32_w]
        rfl
      refine pure_ (i := 3) (N := some 47) (v := ?_) (a' := ?_) #[false, true, false, true, false, false, false] rfl rfl (by kernel_rfl) (fun _ _ _ h => h) (Or.inl ⟨by rfl, ?_⟩) ?_ ?_
      rotate_left
      · intro w'
        go_simp
        with_reducible rfl
      rotate_left
      · simp only [Act.put, List.setIfInBounds_toArray, List.set_cons_zero, List.set_cons_succ, i64_w, i32_w]
        rfl
      refine take_ (i := 4) (N := some 48) (v := ?_) (a' := ?_) #[false, true, false, true, true, false, false] rfl rfl (by kernel_rfl) (fun _ _ _ h => h) (Or.inl ⟨by rfl, ?_⟩) hHeld ?_ ?_
      rotate_left
      · intro w' s0
        go_simp
        with_reducible rfl
      rotate_left
      · simp only [Act.put, List.setIfInBounds_toArray, List.set_cons_zero, List.set_cons_succ, i64_w, i32_w]
        rfl
      refine one_ (i := 0) (N := some 44) #[true, true, false, true, true, false, false] rfl rfl (by kernel_rfl) (by decide) (fun K hK => ?_)
      refine value_ (w1 := ?_) (v := ?_) (by rfl) rfl ?_ ?_
      rotate_left 2
      · go_simp
        constructor
        · rfl
        · rfl
      refine hK.out _ _ ((((Below.refl _ wE).alloc (Nat.le_refl _) _).cell (p := ⟨g, 2, none⟩) HGE.out |>.trans ck2)) (fun hHeld => ?_)
      clear hK K
      refine norm_ (a' := ?_) ?_ ?_
      rotate_left
      · show Act.put _ (some 44) _ = _
        simp only [Act.put, List.setIfInBounds_toArray, List.set_cons_zero, List.set_cons_succ, i64_w, i32_w]
        rfl
      refine one_ (i := 2) (N := some 46) #[true, true, true, true, true, false, false] rfl rfl (by kernel_rfl) (by decide) (fun K hK => ?_)
      refine Kd.R_append_rows_step (Kd.int .u8) (w0 := wE) wE.heap.size (by rfl) (.tmp 44) (.tmp 45) 29 5 (.int .u8 0) 1 (by rfl) Try.underlying29 (by kernel_rfl) rfl (by decide) (by omega) (.slice (some ⟨wE.heap.size, 0, none⟩) 0 0) [] l Ab l.length cb (fun k => wE.heap.size ≤ k) (fun _ => False) rfl rfl ?own2 ?src2 (fun _ _ h => h) (fun _ h => h.elim) ?fresh2 ((Below.refl _ wE).alloc (Nat.le_refl _) _).drew (by simp) ?len2 ?_
      case own2 => exact Kd.R_mono (Kd.R_drew (nil_R wE)) (fun k hk => by have : k = wE.heap.size := hk; omega)
      case src2 => exact Kd.C_drew (Kd.C_alloc (Kd.R_reads' HRE.out).2.2 _)
      case fresh2 => exact fun k hk => Nat.le_of_succ_le (by simpa using hk)
      case len2 => have := HTE.out.2.2.2.1; simp; have := HLT.out; omega
      intro v1 w3 hown hbel hgr hat
      replace hown : Kd.R (Kd.int .u8) 5 w3 wE.heap.size (fun k => wE.heap.size ≤ k) v1 l := hown
      have HO3 := Lib.hid hown
      have HB3 := Lib.hid hbel
      clear hown hbel hgr hat
      refine hK.out _ _ ((HB3.out.cell (p := ⟨g, 2, none⟩) HGE.out |>.trans ck2)) (fun hHeld => ?_)
      clear hK K
      refine norm_ (a' := ?_) ?_ ?_
      rotate_left
      · show Act.put _ (some 46) _ = _
        simp only [Act.put, List.setIfInBounds_toArray, List.set_cons_zero, List.set_cons_succ, i64_w, i32_w]
        rfl
      refine one_ (i := 5) (N := some 49) #[true, true, true, true, true, true, false] rfl rfl (by kernel_rfl) (by decide) (fun K hK => ?_)
      refine Kd.R_append_rows_step (Kd.int .u8) (w0 := wE) wE.heap.size (by rfl) (.tmp 46) (.tmp 48) 29 5 (.int .u8 0) 1 (by rfl) Try.underlying29 (by kernel_rfl) rfl (by decide) (by omega) v1 l d.2.2 Bd d.2.2.length cd (fun k => wE.heap.size ≤ k) (fun _ => False) rfl rfl HO3.out ?src5 (fun _ _ h => h) (fun _ h => h.elim) ?fresh5 HB3.out HB3.out.size ?len5 ?_
      case src5 => exact Kd.C_below (Kd.C_below HQ.out HBE.out) HB3.out
      case fresh5 => intro k hk; have := HB3.out.size; have : wE.heap.size ≤ w3.heap.size := this; omega
      case len5 => have := HTE.out.2.2.2.1; simp at this; omega
      intro v2 w4 hown hbel hgr hat
      have HO4 := Lib.hid hown
      have HB4 := Lib.hid hbel
      clear hown hbel hgr hat
      refine hK.out _ _ ((HB4.out.cell (p := ⟨g, 2, none⟩) HGE.out |>.trans ck2)) (fun hHeld => ?_)
      clear hK K
      refine norm_ (a' := ?_) ?_ ?_
      rotate_left
      · show Act.put _ (some 49) _ = _
        simp only [Act.put, List.setIfInBounds_toArray, List.set_cons_zero, List.set_cons_succ, i64_w, i32_w]
        rfl
      refine pure_ (i := 6) (N := some 5) (v := ?_) (a' := ?_) #[true, true, true, true, true, true, true] rfl rfl (by kernel_rfl) (fun _ _ _ h => h) (Or.inl ⟨by rfl, ?_⟩) ?_ ?_
      rotate_left
      · intro w'
        go_simp
        with_reducible rfl
      rotate_left
      · simp only [Act.put, List.setIfInBounds_toArray, List.set_cons_zero, List.set_cons_succ, i64_w, i32_w]
        rfl
      refine done_ (by kernel_rfl) ?_
      obtain ⟨A2, c2, rfl⟩ := Kd.R_slice HO4.out
      have hTE : Hid (TapeAt w4 w1.heap.size (fun k => k < wE.heap.size) w1.heap.size (l ++ d.2.2) s) := Lib.hid (TapeAt.below (HTE.out.bound.mono (fun k h => h.2.2)) HB4.out)
      have hBE : Hid (Below w1.heap.size w1 w4) := Lib.hid (HBE.out.trans (HB4.out.mono HBE.out.size))
      have hNE : Hid (∀ k, k < wE.heap.size → ¬ wE.heap.size ≤ k) := Lib.hid (fun k h h2 => by omega)
      have HIE : Hid (((l ++ d.2.2).length : Int) ≤ 2000 * (i + 1)) := Lib.hid (by have := HI.out; have := HBIG.out; simp; omega)
      have hRE : Hid (Kd.R (Kd.int .u8) 5 w4 w1.heap.size (fun k => wE.heap.size ≤ k) (.slice A2 (l ++ d.2.2).length c2) (l ++ d.2.2)) := Lib.hid (Kd.R_lower HO4.out HBE.out.size)
      clear HO4 HB4 HO3 HB3 HTE HRE HBE

      go_wp2_with fail
      go_meet
      case rel => exact ⟨l ++ d.2.2, s, A2, c2, _, _, rfl, rfl, hTE, hRE, hNE, hBE, HIE⟩
    case rest =>
      clear HTa HRa HBa
      obtain ⟨l', s', Ab', cbE, oTE, oBE, rfl, rfl, HTE, HRE, HNEE, HBE, HIE⟩ := hcut
      go_wp2_with fail
      have hcB := Kd.C_string (P := Try.prog) Try.underlying29 Try.underlying5 Try.underlying9 (c := cbE) (Kd.C_drew (Kd.R_reads' HRE.out).2.2)
      go_region_with (first
        | (go_at_call 19; refine (tape_Bytes _ _ _ _ _ _ HTE.out.drew).mono ?_; rintro e w6 ⟨v6, rfl, hr, hb⟩; obtain ⟨Ax, cx, rfl⟩ := Kd.R_slice hr; have hcv := own_string (P := Try.prog) Try.underlying29 Try.underlying5 Try.underlying9 (Kd.own_of_R hr); have hcB6 := Kd.C_string (P := Try.prog) Try.underlying29 Try.underlying5 Try.underlying9 (c := cbE) (Kd.C_below (Kd.C_drew (Kd.R_reads' HRE.out).2.2) hb); have HT6 := Lib.hid (HTE.out.drew.below hb); have HR6 := Lib.hid (Kd.R_below (Kd.R_drew HRE.out) hb); have HB6 := Lib.hid (HBE.out.drew.trans (hb.mono HBE.out.size)); clear hr hb)
        | (go_at_call 22; refine (tape_Synced _ _ _ _ _ _ HT6.out).mono ?_; rintro e w7 ⟨rfl, rfl⟩))
      all_goals clear hcv hcB hcB6
      all_goals
        have hwi := HWI.out
        have hi' := HIJ.out
        go_wp2_with fail
        go_roundg k1
        case measure => omega
        case rel => exact ⟨_, _, i + 1, _, rfl, rfl, rfl, Lib.hid ⟨by have := HI.out; omega, by have := HI.out; omega, HIE.out⟩, Lib.hid ⟨_, _, HNEE.out, HT6.out, HR6.out, HB6.out⟩⟩
end Go.Proofs.Ytnjikdaicogdgaa.Tape
