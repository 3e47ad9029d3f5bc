-- Cut by a program of this session (wip/shake.py) out of a text of this seat: what this claim doesn't reach is struck out. Lean checks it.
import Derived.Test.YtkaoojcafefjjaaNetL1Cp
import Derived.Test.YtkaoojcafefjjaaNetQCp
import Derived.Test.YtkaoojcafefjjaaNetRCp
import Derived.Deep.CutBlock
import Derived.Lib.Hide
import Derived.BigRegion
namespace Go.Proofs.Ytkaoojcafefjjaa.Net
open Go.RowKit Go.Proofs.Ytkaoojcafefjjaa.Ms Go.Proofs.YtkaoojcafefjjaaW.PrintWords Go.Proofs.YtkaoojcafefjjaaW.PrintLast Go.Proofs.YtkaoojcafefjjaaW.PrintMore
attribute [local go_sem] Go.Proofs.Ytkaoojcafefjjaa.Ms.eqlErr Go.Proofs.Ytkaoojcafefjjaa.Ms.neqErr Go.Proofs.Ytkaoojcafefjjaa.Ms.eqlErrNil Go.Proofs.Ytkaoojcafefjjaa.Ms.neqErrNil
set_option linter.unusedVariables false
set_option linter.unusedSimpArgs false
def DeedR (W : World) (d : Int × Int × Int × List S31) (cs : List Value) : Prop :=
  ∃ A c, cs = [.int .i64 d.1, .int .i64 d.2.1, .int .i64 d.2.2.1, .slice A d.2.2.2.length c] ∧ (-9223372036854775808 ≤ d.1 ∧ d.1 ≤ 9223372036854775807) ∧ d.2.2.2.length ≤ c ∧ Kd.C k31 W A d.2.2.2.length d.2.2.2
def Deeds (W : World) (A : Option Addr) (n : Nat) (ds : List (Int × Int × Int × List S31)) : Prop := ReadsRow (DeedR W) 4 W A n ds
theorem Deeds.below {W W' : World} {A : Option Addr} {n : Nat} {ds : List (Int × Int × Int × List S31)} (h : Deeds W A n ds) (hb : Below W.heap.size W W') : Deeds W' A n ds :=
  ReadsRow.imp_ h hb (fun _ _ ⟨A, c, h1, h2, h3, h4⟩ => ⟨A, c, h1, h2, h3, Kd.C_below h4 hb⟩)
theorem Deeds.get {W0 W : World} {A : Option Addr} {ds : List (Int × Int × Int × List S31)} (h : ReadsRow (DeedR W0) 4 W A ds.length ds) (i : Int) (h0 : 0 ≤ i) (h1 : i < ds.length) :
    ∃ ad, A = some ad ∧ ∃ (d : Int × Int × Int × List S31) (B : Option Addr) (c : Nat), (-9223372036854775808 ≤ d.1 ∧ d.1 ≤ 9223372036854775807) ∧ d.2.2.2.length ≤ c ∧ Kd.C k31 W0 B d.2.2.2.length d.2.2.2 ∧
      W.cell? (ad.add (i.toNat * 4)) = some (.int .i64 d.1) ∧ W.cell? ⟨(ad.add (i.toNat * 4)).block, (ad.add (i.toNat * 4)).off + 1, none⟩ = some (.int .i64 d.2.1) ∧ W.cell? ⟨(ad.add (i.toNat * 4)).block, (ad.add (i.toNat * 4)).off + 2, none⟩ = some (.int .i64 d.2.2.1) ∧ W.cell? ⟨(ad.add (i.toNat * 4)).block, (ad.add (i.toNat * 4)).off + 3, none⟩ = some (.slice B d.2.2.2.length c) := by
  obtain ⟨ad, cs, e, hl, ⟨B, c, rfl, r1, r2, r3⟩, hc⟩ := ReadsRow.get_ h (0, 0, 0, []) i h0 h1
  refine ⟨ad, e, _, B, c, r1, r2, r3, hc 0 _ rfl, ?_, ?_, ?_⟩
  · rw [← hc 1 _ rfl, ← Addr.add_add]; rfl
  · rw [← hc 2 _ rfl, ← Addr.add_add]; rfl
  · rw [← hc 3 _ rfl, ← Addr.add_add]; rfl
set_option maxHeartbeats 32000000 in
set_option maxRecDepth 100000 in
attribute [local go_sem high] Go.Proofs.Ytkaoojcafefjjaa.Ms.eqA41 in
theorem plays_calls (f : Int) (A0 : Option Addr) (c0 : Nat) (ds : List (Int × Int × Int × List S31)) (w : World) (hD : Deeds w A0 ds.length ds) :
    Calls Try.prog 4 #[.int .i64 f, .slice A0 ds.length c0] w fun e w' => e = .returned (.bool true) ∧ Below w.heap.size w w' := by
  have HD := Lib.hid hD
  clear hD
  go_enter Try.func4, Try.ntmps4
  go_wp2_with fail
  refine (up_calls _).mono ?_
  rintro e w1 ⟨rfl, hb1⟩
  have HB1 := Lib.hid hb1
  clear hb1
  by_cases q : f < 1 ∨ 4 < f
  · have t1 : decide (f < 1) = true ∨ (decide (f < 1) = false ∧ decide (4 < f) = true) := by
      by_cases h : f < 1
      · exact .inl (by simpa using h)
      · exact .inr ⟨by simpa using h, by simp; omega⟩
    have HQ := Lib.hid q
    clear q
    go_wp2_with fail
    refine (net_New_no w1 f HQ.out).mono ?_
    rintro e w2 ⟨rfl, hb2⟩
    have HB2 := Lib.hid (HB1.out.trans (hb2.mono HB1.out.size))
    clear hb2
    rcases t1 with t1 | ⟨t1, t2⟩
    all_goals
      go_wp2
      go_ret
      exact ⟨rfl, HB2.out⟩
  have t1 : decide (f < 1) = false := by simp; omega
  have t2 : decide (4 < f) = false := by simp; omega
  have HF1 : Hid (1 ≤ f) := Lib.hid (by omega)
  have HF4 : Hid (f ≤ 4) := Lib.hid (by omega)
  clear q
  go_wp2_with fail
  refine (net_New w1 f HF1.out HF4.out).mono ?_
  rintro e w2 ⟨rfl, hn2, hb2⟩
  obtain ⟨g, hg⟩ : ∃ g, g = w1.heap.size := ⟨_, rfl⟩
  rw [← hg] at hn2 ⊢
  have HGE : Hid (w.heap.size ≤ g) := Lib.hid (by rw [hg]; exact HB1.out.size)
  have HN2 := Lib.hid hn2
  have HB2 := Lib.hid (HB1.out.trans (hb2.mono HB1.out.size))
  clear hn2 hb2 hg HB1
  go_wp2_with fail
  clear t1 t2
  go_loopg [8, 9] 60 (fun kq v8 v9 w' => ∃ (fl : List S41) (A : Option Addr) (c : Nat) (i : Int) (okN okR : Nat → Prop), v8 = .slice A fl.length c ∧ v9 = .int .i64 i ∧ Hid (i = 60 - (kq : Int) ∧ kq ≤ 60) ∧ Hid ((fl.length : Int) ≤ 260 * i) ∧ Hid (NetAt w' g okN g f fl) ∧ Hid (Kd.R k41 41 w' w.heap.size okR (.slice A fl.length c) fl) ∧ Hid (∀ k, okN k → ¬ okR k) ∧ Hid (Below w.heap.size w w'))
  case atStart => exact ⟨[], none, 0, 0, _, fun _ => False, rfl, rfl, Lib.hid (by omega), Lib.hid (by simp), HN2, Lib.hid (Kd.R_nil _ _ _ _ _), Lib.hid (fun _ _ h => h), HB2⟩
  case round =>
    obtain ⟨fl, A, c, i, okN, okR, rfl, rfl, HI, HFL, HNl, HRl, HNE, HBl⟩ := hrel
    have hi0 : 0 ≤ i := by have := HI.out; omega
    by_cases hin : i < (ds.length : Int) ∧ i < 60
    rotate_left
    · have hx : decide (i < (ds.length : Int)) = false ∨ (decide (i < (ds.length : Int)) = true ∧ decide (i < 60) = false) := by
        by_cases h1 : i < (ds.length : Int)
        · exact .inr ⟨by simpa using h1, by simp; omega⟩
        · exact .inl (by simpa using h1)
      clear hin hi0
      rcases hx with t1 | ⟨t1, t2⟩
      all_goals
        go_wp2
        go_ret
        exact ⟨rfl, HBl.out⟩
    obtain ⟨hi1, hi2⟩ := hin
    have t1 : decide (i < (ds.length : Int)) = true := by simpa using hi1
    have t2 : decide (i < 60) = true := by simpa using hi2
    cases gk with
    | zero => have := HI.out; omega
    | succ k1 =>
    obtain ⟨ad, rfl, d, Bd, cd, hq1, hq2, hq3, hx0, hx1, hx2, hx3⟩ := Deeds.get (ReadsRow.imp_ HD.out HBl.out (fun _ _ h => h)) i hi0 hi1
    have HQ1 := Lib.hid hq1
    have HQ2 := Lib.hid hq2
    have HQ3 := Lib.hid hq3
    by_cases hbig : 20 < (d.2.2.2.length : Int)
    · have t3 : decide (20 < (d.2.2.2.length : Int)) = true := by simpa using hbig
      clear hbig hq1 hq2 hq3
      go_wp2
      go_ret
      exact ⟨rfl, HBl.out.alloc HBl.out.size _⟩
    have t3 : decide (20 < (d.2.2.2.length : Int)) = false := by simpa using hbig
    have HL20 : Hid (d.2.2.2.length ≤ 20) := Lib.hid (by omega)
    have HII := Lib.hid (And.intro hi0 hi2)
    clear hbig hq1 hq2 hq3 hi2
    go_wp2_with fail
    obtain ⟨gb, hgb⟩ : ∃ gb, gb = wr.heap.size := ⟨_, rfl⟩
    have hX := heap_alloc_new wr (.cells #[.int .i64 d.1, .int .i64 d.2.1, .int .i64 d.2.2.1, .slice Bd d.2.2.2.length cd] 51)
    have hBa : Below wr.heap.size wr (wr.alloc (.cells #[.int .i64 d.1, .int .i64 d.2.1, .int .i64 d.2.2.1, .slice Bd d.2.2.2.length cd] 51)) := (Below.refl _ wr).alloc (Nat.le_refl _) _
    generalize wr.alloc (.cells #[.int .i64 d.1, .int .i64 d.2.1, .int .i64 d.2.2.1, .slice Bd d.2.2.2.length cd] 51) = wb at hX hBa ⊢
    have HNb : Hid (NetAt wb g (fun k => okN k ∧ k < gb) g f fl) := Lib.hid ((HNl.out.bound.below hBa).mono (fun k hk => ⟨hk.1, by rw [hgb]; exact hk.2.2⟩))
    have HRb : Hid (Kd.R k41 41 wb w.heap.size (fun k => okR k ∧ k < gb) (.slice A fl.length c) fl) := Lib.hid (Kd.R_below (Kd.R_mono (Kd.R_bound HRl.out) (fun k hk => ⟨hk.1, by rw [hgb]; exact hk.2.2.1⟩)) hBa)
    have HBb := Lib.hid (HBl.out.trans (hBa.mono HBl.out.size))
    rw [← hgb] at hX ⊢
    have HX := Lib.hid hX
    clear hX hBa hgb HNl HRl HBl hx0 hx1 hx2 hx3 t1 t2 t3
    go_loopg [11] d.2.2.2.length (fun kq v11 w' => ∃ j : Nat, v11 = .int .i64 (j : Int) ∧ Hid (j + kq = d.2.2.2.length) ∧ Hid (Below wb.heap.size wb w'))
    case atStart => exact ⟨0, rfl, Lib.hid (by omega), Lib.hid (Below.refl _ _)⟩
    case round =>
      obtain ⟨j, rfl, HJ, HBj⟩ := hrel
      have HXj := Lib.hid (blk_below HX.out HBj.out)
      have hgb := blk_lt HXj.out
      have y3 : wr.cell? ⟨gb, 3, none⟩ = some (.slice Bd d.2.2.2.length cd) := (blk_cell HXj.out 3).trans rfl
      by_cases hj : j < d.2.2.2.length
      · have hd : decide (j < d.2.2.2.length) = true := by simpa using hj
        cases gk with
        | zero => have := HJ.out; omega
        | succ k2 =>
        obtain ⟨ad2, A6, c6, A7, c7, rfl, x0, x1, x2, x3, x4, x5, x6, x7, l6, g6, l7, g7⟩ := at_T31 (Kd.C_below HQ3.out (HBb.out.trans (HBj.out.mono HBb.out.size))) (j : Int) (by omega) (by omega)
        rw [Int.toNat_natCast] at x0 x1 x2 x3 x4 x5 x6 x7
        have hwj : wrap64 ((j : Int) + 1) = ((j + 1 : Nat) : Int) := by have := HL20.out; unfold wrap64; omega
        generalize rd_T31 d.2.2.2 (j : Int) = o at x0 x1 x2 x3 x4 x5 x6 x7 l6 g6 l7 g7
        have HL6 := Lib.hid l6
        have HG6 := Lib.hid g6
        have HL7 := Lib.hid l7
        have HG7 := Lib.hid g7
        have HJJ := Lib.hid hj
        clear l6 g6 l7 g7
        go_wp2_with fail
        refine (becketref12_Short.calls 1000 o.f1.f0 o.f1.f1 o.f1.f2 o.f1.f3 o.f1.f4 A6 c6 o.f1.f5 A7 c7 o.f1.f6 (MsgP.shortM o.f1.f4 o.f1.f5 o.f1.f6) _ HG6.out HL6.out HG7.out HL7.out (MsgP.Short_f _ _ _ _ _ _ _ 1000 (by decide))).mono ?_
        rintro e w5 ⟨rfl, hb5⟩
        have HB5 := Lib.hid (HBj.out.trans (hb5.mono HBj.out.size))
        have HBw5 := Lib.hid (HBb.out.trans (HB5.out.mono HBb.out.size))
        clear hb5 x0 x1 x2 x3 x4 x5 x6 x7 HG6 HG7 HL6 HL7 y3 hgb HXj hj
        cases hs : MsgP.shortM o.f1.f4 o.f1.f5 o.f1.f6 with
        | false =>
          go_wp2
          go_ret
          exact ⟨rfl, HBw5.out⟩
        | true =>
          go_wp2_with fail
          go_roundg k2
          case measure => omega
          case rel => exact ⟨j + 1, by first | (rw [hwj]; done) | (simp; done), Lib.hid (by have := HJ.out; omega), HB5⟩
      have hd : decide (j < d.2.2.2.length) = false := by simpa using hj
      have HNc := Lib.hid (HNb.out.below HBj.out)
      have HRc := Lib.hid (Kd.R_below HRb.out HBj.out)
      have HBc := Lib.hid (HBb.out.trans (HBj.out.mono HBb.out.size))
      have y2 : wr.cell? ⟨gb, 2, none⟩ = some (.int .i64 d.2.2.1) := (blk_cell HXj.out 2).trans rfl
      have y0 : wr.cell? ⟨gb, 0, none⟩ = some (.int .i64 d.1) := (blk_cell HXj.out 0).trans rfl
      obtain ⟨r, hr4, hpk⟩ := pick_f d.1 HQ1.out 4 (by decide)
      have HPK := Lib.hid hpk
      have HR4 := Lib.hid hr4
      clear hj hpk hr4 HNb HRb HBb HBj
      by_cases hno : d.2.2.1 < 0 ∨ (fl.length : Int) ≤ d.2.2.1
      · have t1 : decide (0 ≤ d.2.2.1) = false ∨ (decide (0 ≤ d.2.2.1) = true ∧ decide (d.2.2.1 < (fl.length : Int)) = false) := by
          by_cases h : 0 ≤ d.2.2.1
          · exact .inr ⟨by simpa using h, by simp; omega⟩
          · exact .inl (by simpa using h)
        have HNO := Lib.hid hno
        clear hno
        rcases t1 with t1 | ⟨t1, t2⟩
        all_goals
          go_wp2_with fail
          refine (becketlaw18_pick.calls d.1 4 (r : Int) _ HPK.out).mono ?_
          rintro e wp ⟨rfl, hdp⟩
          have hbp := hdp.below
          have HNp := Lib.hid (HNc.out.below hbp)
          have HRp := Lib.hid (Kd.R_below HRc.out hbp)
          have HBp := Lib.hid (HBc.out.trans (hbp.mono HBc.out.size))
          have HXp := Lib.hid (blk_below HXj.out hbp)
          have hgbp := blk_lt HXp.out
          have p2 := (blk_cell HXp.out 2).trans rfl
          replace p2 : wp.cell? ⟨gb, 2, none⟩ = some (.int .i64 d.2.2.1) := p2
          have p1 : wp.cell? ⟨gb, 1, none⟩ = some (.int .i64 d.2.1) := (blk_cell HXp.out 1).trans rfl
          have p3 : wp.cell? ⟨gb, 3, none⟩ = some (.slice Bd d.2.2.2.length cd) := (blk_cell HXp.out 3).trans rfl
          have HGp : Hid (g ≤ wp.heap.size) := Lib.hid (by have := HNp.out.glt; omega)
          have HFL4 : Hid (fl.length ≤ 20000) := Lib.hid (by have := HFL.out; have := HII.out; omega)
          clear hdp hbp HNc HRc HBc HXj y0 y2 y3 hgb
          go_upto_block 4 with fail
          (try simp only [Act.put, List.setIfInBounds_toArray, List.set_cons_zero, List.set_cons_succ])
          go_cut [8] (fun v8 wc => ∃ (fl' : List S41) (A' : Option Addr) (c' : Nat) (okN' okR' : Nat → Prop), v8 = .slice A' fl'.length c' ∧ Hid (NetAt wc g okN' g f fl') ∧ Hid (Kd.R k41 41 wc w.heap.size okR' (.slice A' fl'.length c') fl') ∧ Hid (∀ k, okN' k → ¬ okR' k) ∧ Hid (Below w.heap.size w wc) ∧ Hid ((fl'.length : Int) ≤ 260 * (i + 1)))
          case first =>
            by_cases e2 : r = 2
            · subst e2
              go_wp2_with fail
              refine (net_Take_no wp _ _ _ _ _ HNp.out d.2.2.1 HNO.out).mono ?_
              rintro e w5 ⟨rfl, hb5⟩
              have hba := hb5.trans ((Below.refl wp.heap.size w5).alloc hb5.size (.cells #[.int .i64 0, .int .i64 0, .string ⟨#[]⟩] 41))
              have HN5 := Lib.hid (HNp.out.below hba)
              have HR5 := Lib.hid (Kd.R_below HRp.out hba)
              have HB5 := Lib.hid (HBp.out.trans (hba.mono HBp.out.size))
              have HF5 : Hid ((fl.length : Int) ≤ 260 * (i + 1)) := Lib.hid (by have := HFL.out; omega)
              clear hb5 hba
              go_wp2_with fail
              go_meet
              case rel => exact ⟨fl, A, c, _, _, rfl, HN5, HR5, Lib.hid (fun k h1 h2 => HNE.out k h1.1 h2.1), HB5, HF5⟩
            by_cases e3 : r = 3
            · subst e3
              go_wp2_with fail
              refine (net_Dup_no wp _ _ _ _ _ HNp.out d.2.2.1 HNO.out).mono ?_
              rintro e w5 ⟨rfl, hb5⟩
              have HN5 := Lib.hid (HNp.out.below hb5)
              have HR5 := Lib.hid (Kd.R_below HRp.out hb5)
              have HB5 := Lib.hid (HBp.out.trans (hb5.mono HBp.out.size))
              have HF5 : Hid ((fl.length : Int) ≤ 260 * (i + 1)) := Lib.hid (by have := HFL.out; omega)
              clear hb5
              go_wp2_with fail
              go_meet
              case rel => exact ⟨fl, A, c, _, _, rfl, HN5, HR5, Lib.hid (fun k h1 h2 => HNE.out k h1.1 h2.1), HB5, HF5⟩
            have e2b : ((r : Int) == 2) = false := by simp; omega
            have e3b : ((r : Int) == 3) = false := by simp; omega
            go_wp2_with fail
            refine (net_Send wp g _ g f fl HNp.out HGp.out d.2.1 Bd cd d.2.2.2 (fun W _ hb => Kd.C_below HQ3.out (HBp.out.trans (hb.mono HGE.out))) HF1.out HF4.out (by have := HFL4.out; have := HL20.out; omega)).mono ?_
            rintro e wS ⟨rfl, hnS⟩
            have HSN : Hid ((sent f d.2.1 d.2.2.2).length ≤ 260) := Lib.hid (by have := sent_len HF4.out d.2.1 d.2.2.2; have := HL20.out; omega)
            have HNS := Lib.hid (hnS.1.bound.mono (ok' := fun k => k < wS.heap.size) (fun k hk => hk.2.2))
            have HRS := Lib.hid (Kd.R_kept HRp.out hnS.2.1 (fun j hj h => HNE.out j h.1 hj.1))
            have hXS := blk_kept HXp.out hnS.2.1 (fun h => by have := h.2; omega)
            have HGB : Hid (gb < wS.heap.size) := Lib.hid (blk_lt hXS)
            have HY1 : Hid (wS.cell? ⟨gb, 1, none⟩ = some (.int .i64 d.2.1)) := Lib.hid ((blk_cell hXS 1).trans rfl)
            have HY3 : Hid (wS.cell? ⟨gb, 3, none⟩ = some (.slice Bd d.2.2.2.length cd)) := Lib.hid ((blk_cell hXS 3).trans rfl)
            have HBS := Lib.hid (HBp.out.trans (hnS.2.2.mono HGE.out))
            clear hnS hXS HNp HRp HBp HXp hgbp p1 p2 p3 e2b e3b
            go_wp2_with fail
            refine start_ (n := 11) (S := fun w' => w'.cell? ⟨gb, 1, none⟩ = some (.int .i64 d.2.1) ∧ w'.cell? ⟨gb, 3, none⟩ = some (.slice Bd d.2.2.2.length cd)) (ds := []) #[false, false, false, false, false, false, false, false, false, false, false] (by kernel_rfl) rfl rfl ⟨HY1.out, HY3.out⟩ (fun hHeld => ?_)
            refine pure_ (i := 1) (N := some 101) (v := ?_) (a' := ?_) #[false, true, false, false, false, false, false, false, false, false, false] rfl rfl (by kernel_rfl) (fun _ _ _ h => h) (Or.inl ⟨by rfl, ?_⟩) ?_ ?_
            rotate_left
            · intro w'
              go_simp
              with_reducible rfl
            rotate_left
            · simp only [Act.put, List.setIfInBounds_toArray, List.set_cons_zero, List.set_cons_succ, i64_w, i32_w]
              rfl
            refine pure_ (i := 3) (N := some 103) (v := ?_) (a' := ?_) #[false, true, false, true, false, false, false, false, false, false, false] rfl rfl (by kernel_rfl) (fun _ _ _ h => h) (Or.inl ⟨by rfl, ?_⟩) ?_ ?_
            rotate_left
            · intro w'
              go_simp
              with_reducible rfl
            rotate_left
            · simp only [Act.put, List.setIfInBounds_toArray, List.set_cons_zero, List.set_cons_succ, i64_w, i32_w]
              rfl
            refine pure_ (i := 4) (N := some 104) (v := ?_) (a' := ?_) #[false, true, false, true, true, false, false, false, false, false, false] rfl rfl (by kernel_rfl) (fun _ _ _ h => h) (Or.inl ⟨by rfl, ?_⟩) ?_ ?_
            rotate_left
            · intro w'
              go_simp
              with_reducible rfl
            rotate_left
            · simp only [Act.put, List.setIfInBounds_toArray, List.set_cons_zero, List.set_cons_succ, i64_w, i32_w]
              rfl
            refine pure_ (i := 6) (N := some 106) (v := ?_) (a' := ?_) #[false, true, false, true, true, false, true, false, false, false, false] rfl rfl (by kernel_rfl) (fun _ _ _ h => h) (Or.inl ⟨by rfl, ?_⟩) ?_ ?_
            rotate_left
            · intro w'
              go_simp
              with_reducible rfl
            rotate_left
            · simp only [Act.put, List.setIfInBounds_toArray, List.set_cons_zero, List.set_cons_succ, i64_w, i32_w]
              rfl
            refine take_ (i := 5) (N := some 105) (v := ?_) (a' := ?_) #[false, true, false, true, true, true, true, false, false, false, false] rfl rfl (by kernel_rfl) (fun _ _ _ h => h) (Or.inl ⟨by rfl, ?_⟩) hHeld ?_ ?_
            rotate_left
            · rintro w' ⟨s0, s1⟩
              go_simp
              with_reducible rfl
            rotate_left
            · simp only [Act.put, List.setIfInBounds_toArray, List.set_cons_zero, List.set_cons_succ, i64_w, i32_w]
              rfl
            refine take_ (i := 7) (N := some 107) (v := ?_) (a' := ?_) #[false, true, false, true, true, true, true, true, false, false, false] rfl rfl (by kernel_rfl) (fun _ _ _ h => h) (Or.inl ⟨by rfl, ?_⟩) hHeld ?_ ?_
            rotate_left
            · rintro w' ⟨s0, s1⟩
              go_simp
              with_reducible rfl
            rotate_left
            · simp only [Act.put, List.setIfInBounds_toArray, List.set_cons_zero, List.set_cons_succ, i64_w, i32_w]
              rfl
            refine one_ (i := 0) (N := some 100) #[true, true, false, true, true, true, true, true, false, false, false] rfl rfl (by kernel_rfl) (by decide) (fun K hK => ?_)
            refine value_ (w1 := ?_) (v := ?_) (by rfl) rfl ?_ ?_
            rotate_left 2
            · go_simp
              constructor
              · rfl
              · rfl
            refine hK.out _ _ ⟨((((Below.refl _ wS).alloc (Nat.le_refl _) (.cells #[] 41)).drew).cell (p := ⟨gb, 1, none⟩) HGB.out |>.trans HY1.out), ((((Below.refl _ wS).alloc (Nat.le_refl _) (.cells #[] 41)).drew).cell (p := ⟨gb, 3, none⟩) HGB.out |>.trans HY3.out)⟩ (fun hHeld => ?_)
            clear hK K
            refine norm_ (a' := ?_) ?_ ?_
            rotate_left
            · show Act.put _ (some 100) _ = _
              simp only [Act.put, List.setIfInBounds_toArray, List.set_cons_zero, List.set_cons_succ, i64_w, i32_w]
              rfl
            refine one_ (i := 2) (N := some 102) #[true, true, true, true, true, true, true, true, false, false, false] rfl rfl (by kernel_rfl) (by decide) (fun K hK => ?_)
            refine Kd.R_append_rows_step k41 (Rr := k41.K wS) (w0 := wS) wS.heap.size (by rfl) (.tmp 100) (.tmp 101) 38 41 (.agg #[.int .i64 0, .int .i64 0, .string ⟨#[]⟩]) 32 (by rfl) Try.underlying38 info41 rfl (by decide) (by omega) (.slice (some ⟨wS.heap.size, 0, none⟩) 0 0) [] fl A fl.length c (fun k => wS.heap.size ≤ k) (fun _ => False) rfl rfl ?own2 ?src2 ?km2 (fun _ h => h.elim) ?fresh2 (((Below.refl _ wS).alloc (Nat.le_refl _) (.cells #[] 41)).drew) (by simp) ?len2 ?_
            case own2 => exact Kd.R_mono (Kd.R_drew (nil_RF wS)) (fun k hk => by have : k = wS.heap.size := hk; omega)
            case src2 => exact Kd.C_below (Kd.R_reads' HRS.out).2.2 (((Below.refl _ wS).alloc (Nat.le_refl _) (.cells #[] 41)).drew)
            case km2 => intro y cs h; rw [k41_open h]; exact k41_mkM _ _ _ y
            case fresh2 => exact fun k hk => Nat.le_of_succ_le (by simpa using hk)
            case len2 => have := HFL4.out; simp; omega
            intro v1 w3 hown hbel hgr hat
            replace hown : Kd.R k41 41 w3 wS.heap.size (fun k => wS.heap.size ≤ k) v1 fl := hown
            have HO3 := Lib.hid hown
            have HB3 := Lib.hid hbel
            clear hown hbel hgr hat
            refine hK.out _ _ ⟨(HB3.out.cell (p := ⟨gb, 1, none⟩) HGB.out |>.trans HY1.out), (HB3.out.cell (p := ⟨gb, 3, none⟩) HGB.out |>.trans HY3.out)⟩ (fun hHeld => ?_)
            clear hK K
            refine norm_ (a' := ?_) ?_ ?_
            rotate_left
            · show Act.put _ (some 102) _ = _
              simp only [Act.put, List.setIfInBounds_toArray, List.set_cons_zero, List.set_cons_succ, i64_w, i32_w]
              rfl
            refine one_ (i := 8) (N := some 108) #[true, true, true, true, true, true, true, true, true, false, false] rfl rfl (by kernel_rfl) (by decide) (fun K hK => ?_)
            refine goes_ Try.func16 (by kernel_rfl) rfl #[.int .i64 f, .int .i64 d.2.1, .slice Bd d.2.2.2.length cd] (by rfl) rfl rfl (by simp only [List.map_toArray, List.map_cons, List.map_nil]; rfl) ?_
            with_reducible refine (becketref18_Send.calls 30000 f d.2.1 Bd cd d.2.2.2 (sent f d.2.1 d.2.2.2) _ (Kd.C_below HQ3.out (HBS.out.trans (HB3.out.mono HBS.out.size))) HQ2.out (refsend_f f HF1.out HF4.out d.2.1 d.2.2.2 HL20.out)).mono ?_
            rintro e w4 ⟨v4, rfl, hr4, hb4⟩
            refine ⟨_, rfl, ?_⟩
            obtain ⟨A4, c4, rfl⟩ := Kd.R_slice hr4
            have HR4 := Lib.hid (Kd.R_reads' hr4)
            have HO4 := Lib.hid (Kd.R_below HO3.out hb4)
            have HB4 := Lib.hid (HB3.out.trans (hb4.mono HB3.out.size))
            clear hr4 hb4
            refine hK.out _ _ ⟨(HB4.out.cell (p := ⟨gb, 1, none⟩) HGB.out |>.trans HY1.out), (HB4.out.cell (p := ⟨gb, 3, none⟩) HGB.out |>.trans HY3.out)⟩ (fun hHeld => ?_)
            clear hK K
            refine norm_ (a' := ?_) ?_ ?_
            rotate_left
            · show Act.put _ (some 108) _ = _
              simp only [Act.put, List.setIfInBounds_toArray, List.set_cons_zero, List.set_cons_succ, i64_w, i32_w]
              rfl
            refine one_ (i := 9) (N := some 109) #[true, true, true, true, true, true, true, true, true, true, false] rfl rfl (by kernel_rfl) (by decide) (fun K hK => ?_)
            refine Kd.R_append_rows_step k41 (Rr := k41.K w4) (w0 := wS) wS.heap.size (by rfl) (.tmp 102) (.tmp 108) 38 41 (.agg #[.int .i64 0, .int .i64 0, .string ⟨#[]⟩]) 32 (by rfl) Try.underlying38 info41 rfl (by decide) (by omega) v1 fl (sent f d.2.1 d.2.2.2) A4 (sent f d.2.1 d.2.2.2).length c4 (fun k => wS.heap.size ≤ k) (fun _ => False) (by rfl) (by rfl) HO4.out HR4.out.2.2 ?km9 (fun _ h => h.elim) ?fresh9 HB4.out HB4.out.size ?len9 ?_
            case km9 => intro y cs h; rw [k41_open h]; exact k41_mkM _ _ _ y
            case fresh9 => exact fun k hk => Nat.le_trans HB4.out.size hk
            case len9 => have := HFL4.out; have := HSN.out; omega
            intro v5 w5 hown hbel hgr hat
            have HO5 := Lib.hid hown
            have HB5 := Lib.hid hbel
            clear hown hbel hgr hat
            refine hK.out _ _ ⟨(HB5.out.cell (p := ⟨gb, 1, none⟩) HGB.out |>.trans HY1.out), (HB5.out.cell (p := ⟨gb, 3, none⟩) HGB.out |>.trans HY3.out)⟩ (fun hHeld => ?_)
            clear hK K
            refine norm_ (a' := ?_) ?_ ?_
            rotate_left
            · show Act.put _ (some 109) _ = _
              simp only [Act.put, List.setIfInBounds_toArray, List.set_cons_zero, List.set_cons_succ, i64_w, i32_w]
              rfl
            refine pure_ (i := 10) (N := some 8) (v := ?_) (a' := ?_) #[true, true, true, true, true, true, true, true, true, true, true] rfl rfl (by kernel_rfl) (fun _ _ _ h => h) (Or.inl ⟨by rfl, ?_⟩) ?_ ?_
            rotate_left
            · intro w'
              go_simp
              with_reducible rfl
            rotate_left
            · simp only [Act.put, List.setIfInBounds_toArray, List.set_cons_zero, List.set_cons_succ, i64_w, i32_w]
              rfl
            refine done_ (by kernel_rfl) ?_
            obtain ⟨A5, c5, rfl⟩ := Kd.R_slice HO5.out
            have HN5 := Lib.hid (HNS.out.below HB5.out)
            have HR5 := Lib.hid (Kd.R_lower HO5.out HBS.out.size)
            have HBw5 := Lib.hid (HBS.out.trans (HB5.out.mono HBS.out.size))
            have HF5 : Hid (((fl ++ sent f d.2.1 d.2.2.2).length : Int) ≤ 260 * (i + 1)) := Lib.hid (by rw [List.length_append]; have := HSN.out; have := HFL.out; omega)
            have HNE5 : Hid (∀ k, k < wS.heap.size → ¬ wS.heap.size ≤ k) := Lib.hid (fun k h1 h2 => by omega)
            clear HO5 HB5 HO4 HB4 HO3 HB3 HR4 hHeld
            go_wp2_with fail
            go_meet
            case rel => exact ⟨fl ++ sent f d.2.1 d.2.2.2, A5, c5, _, _, by first | rfl | simp, HN5, HR5, HNE5, HBw5, HF5⟩
          case rest =>
            obtain ⟨fl', A', c', okN', okR', rfl, HNx, HRx, HNEx, HBx, HFx⟩ := hcut
            go_wp2_with fail
            refine (net_All _ _ _ _ _ _ HNx.out).mono ?_
            rintro e wA ⟨vA, rfl, hrA, hbA⟩
            obtain ⟨AA, cA, rfl⟩ := Kd.R_slice hrA
            have HRA := Lib.hid (Kd.R_reads' hrA)
            have HRL := Lib.hid (Kd.R_reads' (Kd.R_below HRx.out hbA))
            have HBA := Lib.hid (HBx.out.trans (hbA.mono HBx.out.size))
            have HNA := Lib.hid (HNx.out.bound.below hbA)
            have HRxA := Lib.hid (Kd.R_below HRx.out hbA)
            clear hrA hbA
            go_wp2_with fail
            refine (becketref18_Same.calls 100001 AA cA fl' A' c' fl' true _ HRA.out.2.2 HRA.out.2.1 HRL.out.2.2 HRL.out.2.1 (same_f _ (by have := HFx.out; have := HII.out; omega))).mono ?_
            rintro e wZ ⟨rfl, hdZ⟩
            have HBZ := Lib.hid (HBA.out.trans (hdZ.below.mono HBA.out.size))
            have HNZ := Lib.hid (HNA.out.below hdZ.below)
            have HRZ := Lib.hid (Kd.R_below HRxA.out hdZ.below)
            have hwi : wrap64 (i + 1) = i + 1 := by have := HII.out; unfold wrap64; omega
            clear hdZ
            go_wp2_with fail
            go_roundg k1
            case measure => omega
            case rel => exact ⟨fl', A', c', i + 1, _, okR', rfl, by first | (rw [hwi]; done) | rfl, Lib.hid (by have := HI.out; omega), HFx, HNZ, HRZ, Lib.hid (fun k h1 h2 => HNEx.out k h1.1 h2), HBZ⟩
      obtain ⟨k, hk⟩ : ∃ k : Nat, d.2.2.1 = (k : Int) := ⟨d.2.2.1.toNat, by omega⟩
      have hkl : k < fl.length := by omega
      rw [hk] at y2
      have HKL := Lib.hid hkl
      have HX2 := Lib.hid hk
      rw [hk] at HXj
      have t1 : decide ((0 : Int) ≤ (k : Int)) = true := by simp
      have t2 : decide (k < fl.length) = true := by simpa using hkl
      clear hno hk hkl
      go_wp2_with fail
      refine (becketlaw18_pick.calls d.1 4 (r : Int) _ HPK.out).mono ?_
      rintro e wp ⟨rfl, hdp⟩
      have hbp := hdp.below
      have HNp := Lib.hid (HNc.out.below hbp)
      have HRp := Lib.hid (Kd.R_below HRc.out hbp)
      have HBp := Lib.hid (HBc.out.trans (hbp.mono HBc.out.size))
      have HXp := Lib.hid (blk_below HXj.out hbp)
      have hgbp := blk_lt HXp.out
      have p2 := (blk_cell HXp.out 2).trans rfl
      replace p2 : wp.cell? ⟨gb, 2, none⟩ = some (.int .i64 (k : Int)) := p2
      have p1 : wp.cell? ⟨gb, 1, none⟩ = some (.int .i64 d.2.1) := (blk_cell HXp.out 1).trans rfl
      have p3 : wp.cell? ⟨gb, 3, none⟩ = some (.slice Bd d.2.2.2.length cd) := (blk_cell HXp.out 3).trans rfl
      have HGp : Hid (g ≤ wp.heap.size) := Lib.hid (by have := HNp.out.glt; omega)
      have HFL4 : Hid (fl.length ≤ 20000) := Lib.hid (by have := HFL.out; have := HII.out; omega)
      clear hdp hbp HNc HRc HBc HXj y0 y2 y3 hgb
      go_upto_block 4 with fail
      (try simp only [Act.put, List.setIfInBounds_toArray, List.set_cons_zero, List.set_cons_succ])
      go_cut [8] (fun v8 wc => ∃ (fl' : List S41) (A' : Option Addr) (c' : Nat) (okN' okR' : Nat → Prop), v8 = .slice A' fl'.length c' ∧ Hid (NetAt wc g okN' g f fl') ∧ Hid (Kd.R k41 41 wc w.heap.size okR' (.slice A' fl'.length c') fl') ∧ Hid (∀ k, okN' k → ¬ okR' k) ∧ Hid (Below w.heap.size w wc) ∧ Hid ((fl'.length : Int) ≤ 260 * (i + 1)))
      case first =>
        by_cases e2 : r = 2
        · subst e2
          go_wp2_with fail
          refine (net_Take wp g _ g f fl HNp.out HGp.out k HKL.out).mono ?_
          rintro e w7 ⟨rfl, hn7⟩
          obtain ⟨x, hx⟩ : ∃ x, x = rd_T41 fl (k : Int) := ⟨_, rfl⟩
          rw [← hx]
          have HXX := Lib.hid hx
          have HN8 := Lib.hid (hn7.1.bound.mono (ok' := fun j => j < w7.heap.size ∧ ¬ (okR j ∧ j < gb)) (fun j hj => ⟨hj.2.2, fun h => by
            rcases hj.1 with h2 | h2
            · exact HNE.out j h2.1 h.1
            · have := h.2; omega⟩))
          have HR8 := Lib.hid (Kd.R_kept HRp.out hn7.2.1 (fun j hj h => HNE.out j h.1 hj.1))
          have HB8 := Lib.hid (HBp.out.trans (hn7.2.2.mono HGE.out))
          have HX8 := Lib.hid (blk_kept HXp.out hn7.2.1 (fun h => by have := h.2; omega))
          clear hn7 hx HNp HRp HBp HXp p1 p2 p3
          have hgb8 := blk_lt HX8.out
          go_wp2_with fail
          have hX8 := heap_alloc_new w7 (.cells #[.int .i64 x.f0, .int .i64 x.f1, .string x.f2] 41)
          have hBl8 : Below w7.heap.size w7 (w7.alloc (.cells #[.int .i64 x.f0, .int .i64 x.f1, .string x.f2] 41)) := (Below.refl _ w7).alloc (Nat.le_refl _) _
          generalize w7.alloc (.cells #[.int .i64 x.f0, .int .i64 x.f1, .string x.f2] 41) = wt at hX8 hBl8 ⊢
          obtain ⟨b1, hb1⟩ : ∃ b1, b1 = w7.heap.size := ⟨_, rfl⟩
          rw [← hb1] at hX8 ⊢
          have hR := Kd.R_below HR8.out hBl8
          obtain ⟨gw, cap, he, hgw1, hgw2, cells0, hcells0⟩ := Kd.R_form hR (by have := HKL.out; omega)
          injection he with e1 e2 e3
          subst e1 e3
          obtain ⟨hw0, hw1, hw2⟩ := at_cells (c := c) (Kd.R_reads' hR).2.2 k HKL.out
          rw [← HXX.out] at hw0 hw1 hw2
          have HC00 : Hid (wt.cell? ⟨b1, 0, none⟩ = some (.int .i64 x.f0)) := Lib.hid ((blk_cell hX8 0).trans rfl)
          have HC01 : Hid (wt.cell? ⟨b1, 1, none⟩ = some (.int .i64 x.f1)) := Lib.hid ((blk_cell hX8 1).trans rfl)
          have HC02 : Hid (wt.cell? ⟨b1, 2, none⟩ = some (.string x.f2)) := Lib.hid ((blk_cell hX8 2).trans rfl)
          have HY2 : Hid (wt.cell? ⟨gb, 2, none⟩ = some (.int .i64 (k : Int))) := Lib.hid ((blk_cell (blk_below HX8.out hBl8) 2).trans rfl)
          have HC10 := Lib.hid hw0
          have HC11 := Lib.hid hw1
          have HC12 := Lib.hid hw2
          have HRT := Lib.hid (Kd.R_reads' (Kd.R_drew hR))
          have HNT := Lib.hid ((HN8.out.below hBl8).drew)
          have HBT : Hid (Below w.heap.size w wt.drew) := Lib.hid ((HB8.out.trans (hBl8.mono HB8.out.size)).drew)
          have HST : Hid (w7.heap.size ≤ wt.drew.heap.size) := Lib.hid hBl8.size
          have hkz : (0 : Int) ≤ (k : Int) := by omega
          have hkl : (k : Int) < (fl.length : Int) := by have := HKL.out; omega
          clear hX8 hBl8 hb1 hR hw0 hw1 hw2 hgw1 hgw2 hcells0 cells0 e2 HN8 HR8 HB8 HX8 hgb8
          refine start_ (n := 7) (S := fun w' => w'.cell? ⟨b1, 0, none⟩ = some (.int .i64 x.f0) ∧ w'.cell? ⟨b1, 1, none⟩ = some (.int .i64 x.f1) ∧ w'.cell? ⟨b1, 2, none⟩ = some (.string x.f2) ∧ w'.cell? ⟨gb, 2, none⟩ = some (.int .i64 (k : Int)) ∧ w'.cell? ⟨gw, k * 3, none⟩ = some (.int .i64 x.f0) ∧ w'.cell? ⟨gw, k * 3 + 1, none⟩ = some (.int .i64 x.f1) ∧ w'.cell? ⟨gw, k * 3 + 2, none⟩ = some (.string x.f2)) (ds := []) #[false, false, false, false, false, false, false] (by kernel_rfl) rfl rfl ⟨HC00.out, HC01.out, HC02.out, HY2.out, HC10.out, HC11.out, HC12.out⟩ (fun hHeld => ?_)
          refine pure_ (i := 1) (N := some 124) (v := ?_) (a' := ?_) #[false, true, false, false, false, false, false] rfl rfl (by kernel_rfl) (fun _ _ _ h => h) (Or.inl ⟨by rfl, ?_⟩) ?_ ?_
          rotate_left
          · intro w'
            go_simp
            with_reducible rfl
          rotate_left
          · simp only [Act.put, List.setIfInBounds_toArray, List.set_cons_zero, List.set_cons_succ, i64_w, i32_w]
            rfl
          refine pure_ (i := 2) (N := some 125) (v := ?_) (a' := ?_) #[false, true, true, false, false, false, false] rfl rfl (by kernel_rfl) (fun _ _ _ h => h) (Or.inl ⟨by rfl, ?_⟩) ?_ ?_
          rotate_left
          · intro w'
            go_simp
            with_reducible rfl
          rotate_left
          · simp only [Act.put, List.setIfInBounds_toArray, List.set_cons_zero, List.set_cons_succ, i64_w, i32_w]
            rfl
          refine take_ (i := 0) (N := some 123) (v := ?_) (a' := ?_) #[true, true, true, false, false, false, false] rfl rfl (by kernel_rfl) (fun _ _ _ h => h) (Or.inl ⟨by rfl, ?_⟩) hHeld ?_ ?_
          rotate_left
          · rintro w' ⟨s0, s1, s2, s3, s4, s5, s6⟩
            go_simp
            with_reducible rfl
          rotate_left
          · simp only [Act.put, List.setIfInBounds_toArray, List.set_cons_zero, List.set_cons_succ, i64_w, i32_w]
            rfl
          refine take_ (i := 3) (N := some 126) (v := ?_) (a' := ?_) #[true, true, true, true, false, false, false] rfl rfl (by kernel_rfl) (fun _ _ _ h => h) (Or.inl ⟨by rfl, ?_⟩) hHeld ?_ ?_
          rotate_left
          · rintro w' ⟨s0, s1, s2, s3, s4, s5, s6⟩
            go_simp
            with_reducible rfl
          rotate_left
          · simp only [Act.put, List.setIfInBounds_toArray, List.set_cons_zero, List.set_cons_succ, i64_w, i32_w]
            rfl
          refine pure_ (i := 4) (N := some 127) (v := ?_) (a' := ?_) #[true, true, true, true, true, false, false] rfl rfl (by kernel_rfl) (fun _ _ _ h => h) (Or.inl ⟨by rfl, ?_⟩) ?_ ?_
          rotate_left
          · intro w'
            go_simp
            with_reducible rfl
          rotate_left
          · simp only [Act.put, List.setIfInBounds_toArray, List.set_cons_zero, List.set_cons_succ, i64_w, i32_w]
            rfl
          refine take_ (i := 5) (N := some 128) (v := ?_) (a' := ?_) #[true, true, true, true, true, true, false] rfl rfl (by kernel_rfl) (fun _ _ _ h => h) (Or.inl ⟨by rfl, ?_⟩) hHeld ?_ ?_
          rotate_left
          · rintro w' ⟨s0, s1, s2, s3, s4, s5, s6⟩
            go_simp
            with_reducible rfl
          rotate_left
          · simp only [Act.put, List.setIfInBounds_toArray, List.set_cons_zero, List.set_cons_succ, i64_w, i32_w]
            rfl
          refine pure_ (i := 6) (N := some 129) (v := ?_) (a' := ?_) #[true, true, true, true, true, true, true] rfl rfl (by kernel_rfl) (fun _ _ _ h => h) (Or.inl ⟨by rfl, ?_⟩) ?_ ?_
          rotate_left
          · intro w'
            go_simp
            with_reducible rfl
          rotate_left
          · simp only [Act.put, List.setIfInBounds_toArray, List.set_cons_zero, List.set_cons_succ, i64_w, i32_w]
            rfl
          refine done_ (by kernel_rfl) ?_
          have z2 : wt.drew.cell? ⟨gb, 2, none⟩ = some (.int .i64 (k : Int)) := HY2.out
          go_wp2_with fail
          refine (becketref18_Without.calls 100001 (some ⟨gw, 0, none⟩) c fl (k : Int) (fl.eraseIdx k) _ HRT.out.2.2 HRT.out.2.1 (without_f fl (by have := HFL4.out; omega) k)).mono ?_
          rintro e w9 ⟨v9, rfl, hr9, hb9⟩
          obtain ⟨A9, c9, rfl⟩ := Kd.R_slice hr9
          have HN9 := Lib.hid (HNT.out.below hb9)
          have HR9 := Lib.hid (Kd.R_lower (Kd.R_mono (ok' := fun k => wt.drew.heap.size ≤ k) (Kd.R_bound hr9) (fun j hj => hj.2.1)) HBT.out.size)
          have HB9 := Lib.hid (HBT.out.trans (hb9.mono HBT.out.size))
          have HNE9 : Hid (∀ j, (j < w7.heap.size ∧ ¬ (okR j ∧ j < gb)) → ¬ wt.drew.heap.size ≤ j) := Lib.hid (fun j h1 h2 => by have := HST.out; omega)
          have HF9 : Hid (((fl.eraseIdx k).length : Int) ≤ 260 * (i + 1)) := Lib.hid (by have := HFL.out; rw [List.length_eraseIdx_of_lt HKL.out]; omega)
          clear hr9 hb9 HNT HRT HBT z2
          go_wp2_with fail
          go_meet
          case rel => exact ⟨fl.eraseIdx k, A9, c9, _, _, rfl, HN9, HR9, HNE9, HB9, HF9⟩
        by_cases e3 : r = 3
        · subst e3
          go_wp2_with fail
          refine (net_Dup wp g _ g f fl HNp.out HGp.out k HKL.out (by have := HFL4.out; omega)).mono ?_
          rintro e wS ⟨rfl, hnS⟩
          obtain ⟨x, hx⟩ : ∃ x, x = rd_T41 fl (k : Int) := ⟨_, rfl⟩
          rw [← hx] at hnS
          have HNS := Lib.hid (hnS.1.bound.mono (ok' := fun k => k < wS.heap.size) (fun k hk => hk.2.2))
          have hRS := Kd.R_kept HRp.out hnS.2.1 (fun j hj h => HNE.out j h.1 hj.1)
          have hXS := blk_kept HXp.out hnS.2.1 (fun h => by have := h.2; omega)
          obtain ⟨gw, cap, he, hgw1, hgw2, cells0, hcells0⟩ := Kd.R_form hRS (by have := HKL.out; omega)
          injection he with e1 e2 e3
          subst e1 e3
          obtain ⟨hw0, hw1, hw2⟩ := at_cells (c := c) (Kd.R_reads' hRS).2.2 k HKL.out
          rw [← hx] at hw0 hw1 hw2
          have HC10 := Lib.hid hw0
          have HC11 := Lib.hid hw1
          have HC12 := Lib.hid hw2
          have HLW := Lib.hid hgw2
          have HKC := Lib.hid (Kd.R_reads' hRS).2.2
          have HGB : Hid (gb < wS.heap.size) := Lib.hid (blk_lt hXS)
          have HY2 : Hid (wS.cell? ⟨gb, 2, none⟩ = some (.int .i64 (k : Int))) := Lib.hid ((blk_cell hXS 2).trans rfl)
          have HBS := Lib.hid (HBp.out.trans (hnS.2.2.mono HGE.out))
          have hkz : (0 : Int) ≤ (k : Int) := by omega
          have hkl : (k : Int) < (fl.length : Int) := by have := HKL.out; omega
          clear hnS hRS hXS HNp HRp HBp HXp hgbp p1 p2 p3 hw0 hw1 hw2 hgw1 hgw2 hcells0 cells0 e2 hx
          go_wp2_with fail
          refine start_ (n := 11) (S := fun w' => w'.cell? ⟨gb, 2, none⟩ = some (.int .i64 (k : Int)) ∧ w'.cell? ⟨gw, k * 3, none⟩ = some (.int .i64 x.f0) ∧ w'.cell? ⟨gw, k * 3 + 1, none⟩ = some (.int .i64 x.f1) ∧ w'.cell? ⟨gw, k * 3 + 2, none⟩ = some (.string x.f2)) (ds := []) #[false, false, false, false, false, false, false, false, false, false, false] (by kernel_rfl) rfl rfl ⟨HY2.out, HC10.out, HC11.out, HC12.out⟩ (fun hHeld => ?_)
          refine pure_ (i := 1) (N := some 148) (v := ?_) (a' := ?_) #[false, true, false, false, false, false, false, false, false, false, false] rfl rfl (by kernel_rfl) (fun _ _ _ h => h) (Or.inl ⟨by rfl, ?_⟩) ?_ ?_
          rotate_left
          · intro w'
            go_simp
            with_reducible rfl
          rotate_left
          · simp only [Act.put, List.setIfInBounds_toArray, List.set_cons_zero, List.set_cons_succ, i64_w, i32_w]
            rfl
          refine pure_ (i := 3) (N := some 150) (v := ?_) (a' := ?_) #[false, true, false, true, false, false, false, false, false, false, false] rfl rfl (by kernel_rfl) (fun _ _ _ h => h) (Or.inl ⟨by rfl, ?_⟩) ?_ ?_
          rotate_left
          · intro w'
            go_simp
            with_reducible rfl
          rotate_left
          · simp only [Act.put, List.setIfInBounds_toArray, List.set_cons_zero, List.set_cons_succ, i64_w, i32_w]
            rfl
          refine pure_ (i := 4) (N := some 151) (v := ?_) (a' := ?_) #[false, true, false, true, true, false, false, false, false, false, false] rfl rfl (by kernel_rfl) (fun _ _ _ h => h) (Or.inl ⟨by rfl, ?_⟩) ?_ ?_
          rotate_left
          · intro w'
            go_simp
            with_reducible rfl
          rotate_left
          · simp only [Act.put, List.setIfInBounds_toArray, List.set_cons_zero, List.set_cons_succ, i64_w, i32_w]
            rfl
          refine take_ (i := 5) (N := some 152) (v := ?_) (a' := ?_) #[false, true, false, true, true, true, false, false, false, false, false] rfl rfl (by kernel_rfl) (fun _ _ _ h => h) (Or.inl ⟨by rfl, ?_⟩) hHeld ?_ ?_
          rotate_left
          · rintro w' ⟨s0, s1, s2, s3⟩
            go_simp
            with_reducible rfl
          rotate_left
          · simp only [Act.put, List.setIfInBounds_toArray, List.set_cons_zero, List.set_cons_succ, i64_w, i32_w]
            rfl
          refine pure_ (i := 6) (N := some 153) (v := ?_) (a' := ?_) #[false, true, false, true, true, true, true, false, false, false, false] rfl rfl (by kernel_rfl) (fun _ _ _ h => h) (Or.inl ⟨by rfl, ?_⟩) ?_ ?_
          rotate_left
          · intro w'
            go_simp
            with_reducible rfl
          rotate_left
          · simp only [Act.put, List.setIfInBounds_toArray, List.set_cons_zero, List.set_cons_succ, i64_w, i32_w]
            rfl
          refine take_ (i := 7) (N := some 154) (v := ?_) (a' := ?_) #[false, true, false, true, true, true, true, true, false, false, false] rfl rfl (by kernel_rfl) (fun _ _ _ h => h) (Or.inl ⟨by rfl, ?_⟩) hHeld ?_ ?_
          rotate_left
          · rintro w' ⟨s0, s1, s2, s3⟩
            go_simp
            with_reducible rfl
          rotate_left
          · simp only [Act.put, List.setIfInBounds_toArray, List.set_cons_zero, List.set_cons_succ, i64_w, i32_w]
            rfl
          refine join_ (σ := Value × Value × Nat) 2 #[true, true, true, true, true, true, true, true, true, false, false] (fun s => [(147, s.1), (149, s.2.1), (155, .slice (some ⟨s.2.2, 0, none⟩) 1 1)]) (fun s w' => Hid (Kd.R k41 41 w' wS.heap.size (fun k => wS.heap.size ≤ k ∧ k ≠ s.2.2) s.2.1 fl) ∧ Hid (Kd.R k41 41 w' wS.heap.size (fun k => k = s.2.2) (.slice (some ⟨s.2.2, 0, none⟩) 1 1) [x]) ∧ Hid (Below wS.heap.size wS w') ∧ w'.cell? ⟨gb, 2, none⟩ = some (.int .i64 (k : Int)) ∧ w'.cell? ⟨gw, k * 3, none⟩ = some (.int .i64 x.f0) ∧ w'.cell? ⟨gw, k * 3 + 1, none⟩ = some (.int .i64 x.f1) ∧ w'.cell? ⟨gw, k * 3 + 2, none⟩ = some (.string x.f2)) ?_ ?_
          rotate_left
          · intro hCont
            refine two_ (i := 0) (j := 8) (Ni := some 147) (Nj := some 155) #[true, true, false, true, true, true, true, true, false, false, false] #[false, true, false, true, true, true, true, true, true, false, false] rfl rfl rfl rfl (by kernel_rfl) (by decide) (by decide) (fun K hK => ?_) (fun K hK => ?_)
            · skip
              refine value_ (w1 := ?_) (v := ?_) (by rfl) rfl ?_ ?_
              rotate_left 2
              · go_simp
                constructor
                · rfl
                · rfl
              refine hK.out _ _ ⟨(((Below.refl _ wS).alloc (Nat.le_refl _) (.cells #[] 41)).drew.cell (p := ⟨gb, 2, none⟩) HGB.out |>.trans HY2.out), (((Below.refl _ wS).alloc (Nat.le_refl _) (.cells #[] 41)).drew.cell (p := ⟨gw, k * 3, none⟩) HLW.out |>.trans HC10.out), (((Below.refl _ wS).alloc (Nat.le_refl _) (.cells #[] 41)).drew.cell (p := ⟨gw, k * 3 + 1, none⟩) HLW.out |>.trans HC11.out), (((Below.refl _ wS).alloc (Nat.le_refl _) (.cells #[] 41)).drew.cell (p := ⟨gw, k * 3 + 2, none⟩) HLW.out |>.trans HC12.out)⟩ (fun hHeld => ?_)
              clear hK K
              refine norm_ (a' := ?_) ?_ ?_
              rotate_left
              · show Act.put _ (some 147) _ = _
                simp only [Act.put, List.setIfInBounds_toArray, List.set_cons_zero, List.set_cons_succ, i64_w, i32_w]
                rfl
              refine two_ (i := 2) (j := 8) (Ni := some 149) (Nj := some 155) #[true, true, true, true, true, true, true, true, false, false, false] #[true, true, false, true, true, true, true, true, true, false, false] rfl rfl rfl rfl (by kernel_rfl) (by decide) (by decide) (fun K hK => ?_) (fun K hK => ?_)
              · skip
                refine Kd.R_append_rows_step k41 (Rr := k41.K wS) (w0 := wS) wS.heap.size (by rfl) (.tmp 147) (.tmp 148) 38 41 (.agg #[.int .i64 0, .int .i64 0, .string ⟨#[]⟩]) 32 (by rfl) Try.underlying38 info41 rfl (by decide) (by omega) (.slice (some ⟨wS.heap.size, 0, none⟩) 0 0) [] fl (some ⟨gw, 0, none⟩) fl.length c (fun k => wS.heap.size ≤ k) (fun _ => False) rfl rfl ?own2 ?src2 ?km2 (fun _ h => h.elim) ?fresh2 ((Below.refl _ wS).alloc (Nat.le_refl _) (.cells #[] 41)).drew (by first | (simp; done) | (simp; omega)) ?len2 ?_
                case own2 => exact Kd.R_mono (Kd.R_drew (nil_RF wS)) (fun k hk => by first | omega | (simp at hk; omega) | (simp at hk ⊢; omega))
                case src2 => exact Kd.C_drew (Kd.C_alloc HKC.out _)
                case km2 => intro y cs h; rw [k41_open h]; exact k41_mkM _ _ _ y
                case fresh2 => exact fun k hk => by first | exact Nat.le_of_succ_le (by simpa using hk) | (simp at hk; omega) | (simp at hk ⊢; omega)
                case len2 => have := HFL4.out; simp; omega
                intro v1 w3 hown hbel hgr hat
                replace hown : Kd.R k41 41 w3 wS.heap.size (fun k => wS.heap.size ≤ k) v1 fl := hown
                have HO3 := Lib.hid hown
                have HB3 := Lib.hid hbel
                clear hown hbel hgr hat
                refine hK.out _ _ ⟨(HB3.out.cell (p := ⟨gb, 2, none⟩) HGB.out |>.trans HY2.out), (HB3.out.cell (p := ⟨gw, k * 3, none⟩) HLW.out |>.trans HC10.out), (HB3.out.cell (p := ⟨gw, k * 3 + 1, none⟩) HLW.out |>.trans HC11.out), (HB3.out.cell (p := ⟨gw, k * 3 + 2, none⟩) HLW.out |>.trans HC12.out)⟩ (fun hHeld => ?_)
                clear hK K
                refine norm_ (a' := ?_) ?_ ?_
                rotate_left
                · show Act.put _ (some 149) _ = _
                  simp only [Act.put, List.setIfInBounds_toArray, List.set_cons_zero, List.set_cons_succ, i64_w, i32_w]
                  rfl
                refine one_ (i := 8) (N := some 155) #[true, true, true, true, true, true, true, true, true, false, false] rfl rfl (by kernel_rfl) (by decide) (fun K hK => ?_)
                refine value_ (w1 := ?_) (v := ?_) (by rfl) rfl ?_ ?_
                rotate_left 2
                · go_simp
                  constructor
                  · rfl
                  · rfl
                refine hK.out _ _ ⟨((HB3.out.alloc HB3.out.size _).cell (p := ⟨gb, 2, none⟩) HGB.out |>.trans HY2.out), ((HB3.out.alloc HB3.out.size _).cell (p := ⟨gw, k * 3, none⟩) HLW.out |>.trans HC10.out), ((HB3.out.alloc HB3.out.size _).cell (p := ⟨gw, k * 3 + 1, none⟩) HLW.out |>.trans HC11.out), ((HB3.out.alloc HB3.out.size _).cell (p := ⟨gw, k * 3 + 2, none⟩) HLW.out |>.trans HC12.out)⟩ (fun hHeld => ?_)
                clear hK K
                refine norm_ (a' := ?_) ?_ ?_
                rotate_left
                · show Act.put _ (some 155) _ = _
                  simp only [Act.put, List.setIfInBounds_toArray, List.set_cons_zero, List.set_cons_succ, i64_w, i32_w]
                  rfl
                exact norm_ (by simp only [putAll, Act.put, List.setIfInBounds_toArray, List.set_cons_zero, List.set_cons_succ]) (hCont (.slice (some ⟨wS.heap.size, 0, none⟩) 0 0, v1, w3.heap.size) _ ⟨Lib.hid (Kd.R_mono (Kd.R_alloc (Kd.R_bound HO3.out) _) (fun k hk => ⟨hk.1, by have := hk.2.2.1; show k ≠ w3.heap.size; omega⟩)), Lib.hid (Kd.R_lower (lit_RF w3 x) HB3.out.size), Lib.hid (HB3.out.alloc HB3.out.size _), ((HB3.out.alloc HB3.out.size _).cell (p := ⟨gb, 2, none⟩) HGB.out |>.trans HY2.out), ((HB3.out.alloc HB3.out.size _).cell (p := ⟨gw, k * 3, none⟩) HLW.out |>.trans HC10.out), ((HB3.out.alloc HB3.out.size _).cell (p := ⟨gw, k * 3 + 1, none⟩) HLW.out |>.trans HC11.out), ((HB3.out.alloc HB3.out.size _).cell (p := ⟨gw, k * 3 + 2, none⟩) HLW.out |>.trans HC12.out)⟩)
              · skip
                refine value_ (w1 := ?_) (v := ?_) (by rfl) rfl ?_ ?_
                rotate_left 2
                · go_simp
                  constructor
                  · rfl
                  · rfl
                refine hK.out _ _ ⟨((((Below.refl _ wS).alloc (Nat.le_refl _) (.cells #[] 41)).alloc (by simp) (.cells #[.int .i64 x.f0, .int .i64 x.f1, .string x.f2] 41)).drew.cell (p := ⟨gb, 2, none⟩) HGB.out |>.trans HY2.out), ((((Below.refl _ wS).alloc (Nat.le_refl _) (.cells #[] 41)).alloc (by simp) (.cells #[.int .i64 x.f0, .int .i64 x.f1, .string x.f2] 41)).drew.cell (p := ⟨gw, k * 3, none⟩) HLW.out |>.trans HC10.out), ((((Below.refl _ wS).alloc (Nat.le_refl _) (.cells #[] 41)).alloc (by simp) (.cells #[.int .i64 x.f0, .int .i64 x.f1, .string x.f2] 41)).drew.cell (p := ⟨gw, k * 3 + 1, none⟩) HLW.out |>.trans HC11.out), ((((Below.refl _ wS).alloc (Nat.le_refl _) (.cells #[] 41)).alloc (by simp) (.cells #[.int .i64 x.f0, .int .i64 x.f1, .string x.f2] 41)).drew.cell (p := ⟨gw, k * 3 + 2, none⟩) HLW.out |>.trans HC12.out)⟩ (fun hHeld => ?_)
                clear hK K
                refine norm_ (a' := ?_) ?_ ?_
                rotate_left
                · show Act.put _ (some 155) _ = _
                  simp only [Act.put, List.setIfInBounds_toArray, List.set_cons_zero, List.set_cons_succ, i64_w, i32_w]
                  rfl
                refine one_ (i := 2) (N := some 149) #[true, true, true, true, true, true, true, true, true, false, false] rfl rfl (by kernel_rfl) (by decide) (fun K hK => ?_)
                refine Kd.R_append_rows_step k41 (Rr := k41.K wS) (w0 := wS) wS.heap.size (by rfl) (.tmp 147) (.tmp 148) 38 41 (.agg #[.int .i64 0, .int .i64 0, .string ⟨#[]⟩]) 32 (by rfl) Try.underlying38 info41 rfl (by decide) (by omega) (.slice (some ⟨wS.heap.size, 0, none⟩) 0 0) [] fl (some ⟨gw, 0, none⟩) fl.length c (fun k => wS.heap.size ≤ k ∧ k ≠ (wS.heap.size + 1)) (fun _ => False) rfl rfl ?own2 ?src2 ?km2 (fun _ h => h.elim) ?fresh2 (((Below.refl _ wS).alloc (Nat.le_refl _) (.cells #[] 41)).alloc (by simp) (.cells #[.int .i64 x.f0, .int .i64 x.f1, .string x.f2] 41)).drew (by first | (simp; done) | (simp; omega)) ?len2 ?_
                case own2 => exact Kd.R_mono (Kd.R_drew (Kd.R_alloc (nil_RF wS) (.cells #[.int .i64 x.f0, .int .i64 x.f1, .string x.f2] 41))) (fun k hk => by first | omega | (simp at hk; omega) | (simp at hk ⊢; omega))
                case src2 => exact Kd.C_drew (Kd.C_alloc (Kd.C_alloc HKC.out _) _)
                case km2 => intro y cs h; rw [k41_open h]; exact k41_mkM _ _ _ y
                case fresh2 => exact fun k hk => by first | exact Nat.le_of_succ_le (by simpa using hk) | (simp at hk; omega) | (simp at hk ⊢; omega)
                case len2 => have := HFL4.out; simp; omega
                intro v1 w3 hown hbel hgr hat
                replace hown : Kd.R k41 41 w3 wS.heap.size (fun k => wS.heap.size ≤ k ∧ k ≠ (wS.heap.size + 1)) v1 fl := hown
                have hlit : Kd.R k41 41 w3 wS.heap.size (fun k => k = (wS.heap.size + 1)) (.slice (some ⟨(wS.heap.size + 1), 0, none⟩) 1 1) [x] := Kd.R_grown (Kd.R_lower (Kd.R_drew (lit_RF' (wS.alloc (.cells #[] 41)) x (wS.heap.size + 1) (by simp))) (by omega)) hgr (fun k hk => by first | (simp [Value.ownBlock]; omega) | (simp [Value.ownBlock] at hk ⊢; omega))
                have HLI3 := Lib.hid hlit
                clear hlit
                have HO3 := Lib.hid hown
                have HB3 := Lib.hid hbel
                clear hown hbel hgr hat
                refine hK.out _ _ ⟨(HB3.out.cell (p := ⟨gb, 2, none⟩) HGB.out |>.trans HY2.out), (HB3.out.cell (p := ⟨gw, k * 3, none⟩) HLW.out |>.trans HC10.out), (HB3.out.cell (p := ⟨gw, k * 3 + 1, none⟩) HLW.out |>.trans HC11.out), (HB3.out.cell (p := ⟨gw, k * 3 + 2, none⟩) HLW.out |>.trans HC12.out)⟩ (fun hHeld => ?_)
                clear hK K
                refine norm_ (a' := ?_) ?_ ?_
                rotate_left
                · show Act.put _ (some 149) _ = _
                  simp only [Act.put, List.setIfInBounds_toArray, List.set_cons_zero, List.set_cons_succ, i64_w, i32_w]
                  rfl
                exact norm_ (by simp only [putAll, Act.put, List.setIfInBounds_toArray, List.set_cons_zero, List.set_cons_succ]) (hCont (.slice (some ⟨wS.heap.size, 0, none⟩) 0 0, v1, (wS.heap.size + 1)) _ ⟨HO3, HLI3, HB3, (HB3.out.cell (p := ⟨gb, 2, none⟩) HGB.out |>.trans HY2.out), (HB3.out.cell (p := ⟨gw, k * 3, none⟩) HLW.out |>.trans HC10.out), (HB3.out.cell (p := ⟨gw, k * 3 + 1, none⟩) HLW.out |>.trans HC11.out), (HB3.out.cell (p := ⟨gw, k * 3 + 2, none⟩) HLW.out |>.trans HC12.out)⟩)
            · skip
              refine value_ (w1 := ?_) (v := ?_) (by rfl) rfl ?_ ?_
              rotate_left 2
              · go_simp
                constructor
                · rfl
                · rfl
              refine hK.out _ _ ⟨(((Below.refl _ wS).alloc (Nat.le_refl _) (.cells #[.int .i64 x.f0, .int .i64 x.f1, .string x.f2] 41)).drew.cell (p := ⟨gb, 2, none⟩) HGB.out |>.trans HY2.out), (((Below.refl _ wS).alloc (Nat.le_refl _) (.cells #[.int .i64 x.f0, .int .i64 x.f1, .string x.f2] 41)).drew.cell (p := ⟨gw, k * 3, none⟩) HLW.out |>.trans HC10.out), (((Below.refl _ wS).alloc (Nat.le_refl _) (.cells #[.int .i64 x.f0, .int .i64 x.f1, .string x.f2] 41)).drew.cell (p := ⟨gw, k * 3 + 1, none⟩) HLW.out |>.trans HC11.out), (((Below.refl _ wS).alloc (Nat.le_refl _) (.cells #[.int .i64 x.f0, .int .i64 x.f1, .string x.f2] 41)).drew.cell (p := ⟨gw, k * 3 + 2, none⟩) HLW.out |>.trans HC12.out)⟩ (fun hHeld => ?_)
              clear hK K
              refine norm_ (a' := ?_) ?_ ?_
              rotate_left
              · show Act.put _ (some 155) _ = _
                simp only [Act.put, List.setIfInBounds_toArray, List.set_cons_zero, List.set_cons_succ, i64_w, i32_w]
                rfl
              refine one_ (i := 0) (N := some 147) #[true, true, false, true, true, true, true, true, true, false, false] rfl rfl (by kernel_rfl) (by decide) (fun K hK => ?_)
              refine value_ (w1 := ?_) (v := ?_) (by rfl) rfl ?_ ?_
              rotate_left 2
              · go_simp
                constructor
                · rfl
                · rfl
              refine hK.out _ _ ⟨((((Below.refl _ wS).alloc (Nat.le_refl _) (.cells #[.int .i64 x.f0, .int .i64 x.f1, .string x.f2] 41)).alloc (by simp) (.cells #[] 41)).drew.cell (p := ⟨gb, 2, none⟩) HGB.out |>.trans HY2.out), ((((Below.refl _ wS).alloc (Nat.le_refl _) (.cells #[.int .i64 x.f0, .int .i64 x.f1, .string x.f2] 41)).alloc (by simp) (.cells #[] 41)).drew.cell (p := ⟨gw, k * 3, none⟩) HLW.out |>.trans HC10.out), ((((Below.refl _ wS).alloc (Nat.le_refl _) (.cells #[.int .i64 x.f0, .int .i64 x.f1, .string x.f2] 41)).alloc (by simp) (.cells #[] 41)).drew.cell (p := ⟨gw, k * 3 + 1, none⟩) HLW.out |>.trans HC11.out), ((((Below.refl _ wS).alloc (Nat.le_refl _) (.cells #[.int .i64 x.f0, .int .i64 x.f1, .string x.f2] 41)).alloc (by simp) (.cells #[] 41)).drew.cell (p := ⟨gw, k * 3 + 2, none⟩) HLW.out |>.trans HC12.out)⟩ (fun hHeld => ?_)
              clear hK K
              refine norm_ (a' := ?_) ?_ ?_
              rotate_left
              · show Act.put _ (some 147) _ = _
                simp only [Act.put, List.setIfInBounds_toArray, List.set_cons_zero, List.set_cons_succ, i64_w, i32_w]
                rfl
              refine one_ (i := 2) (N := some 149) #[true, true, true, true, true, true, true, true, true, false, false] rfl rfl (by kernel_rfl) (by decide) (fun K hK => ?_)
              refine Kd.R_append_rows_step k41 (Rr := k41.K wS) (w0 := wS) wS.heap.size (by rfl) (.tmp 147) (.tmp 148) 38 41 (.agg #[.int .i64 0, .int .i64 0, .string ⟨#[]⟩]) 32 (by rfl) Try.underlying38 info41 rfl (by decide) (by omega) (.slice (some ⟨(wS.heap.size + 1), 0, none⟩) 0 0) [] fl (some ⟨gw, 0, none⟩) fl.length c (fun k => wS.heap.size ≤ k ∧ k ≠ wS.heap.size) (fun _ => False) rfl rfl ?own2 ?src2 ?km2 (fun _ h => h.elim) ?fresh2 (((Below.refl _ wS).alloc (Nat.le_refl _) (.cells #[.int .i64 x.f0, .int .i64 x.f1, .string x.f2] 41)).alloc (by simp) (.cells #[] 41)).drew (by first | (simp; done) | (simp; omega)) ?len2 ?_
              case own2 => exact Kd.R_mono (Kd.R_lower (Kd.R_drew (nil_RF' (wS.alloc (.cells #[.int .i64 x.f0, .int .i64 x.f1, .string x.f2] 41)) (wS.heap.size + 1) (by simp))) (by omega)) (fun k hk => by first | omega | (simp at hk; omega) | (simp at hk ⊢; omega))
              case src2 => exact Kd.C_drew (Kd.C_alloc (Kd.C_alloc HKC.out _) _)
              case km2 => intro y cs h; rw [k41_open h]; exact k41_mkM _ _ _ y
              case fresh2 => exact fun k hk => by first | exact Nat.le_of_succ_le (by simpa using hk) | (simp at hk; omega) | (simp at hk ⊢; omega)
              case len2 => have := HFL4.out; simp; omega
              intro v1 w3 hown hbel hgr hat
              replace hown : Kd.R k41 41 w3 wS.heap.size (fun k => wS.heap.size ≤ k ∧ k ≠ wS.heap.size) v1 fl := hown
              have hlit : Kd.R k41 41 w3 wS.heap.size (fun k => k = wS.heap.size) (.slice (some ⟨wS.heap.size, 0, none⟩) 1 1) [x] := Kd.R_grown (Kd.R_drew (Kd.R_alloc (lit_RF wS x) (.cells #[] 41))) hgr (fun k hk => by first | (simp [Value.ownBlock]; omega) | (simp [Value.ownBlock] at hk ⊢; omega))
              have HLI3 := Lib.hid hlit
              clear hlit
              have HO3 := Lib.hid hown
              have HB3 := Lib.hid hbel
              clear hown hbel hgr hat
              refine hK.out _ _ ⟨(HB3.out.cell (p := ⟨gb, 2, none⟩) HGB.out |>.trans HY2.out), (HB3.out.cell (p := ⟨gw, k * 3, none⟩) HLW.out |>.trans HC10.out), (HB3.out.cell (p := ⟨gw, k * 3 + 1, none⟩) HLW.out |>.trans HC11.out), (HB3.out.cell (p := ⟨gw, k * 3 + 2, none⟩) HLW.out |>.trans HC12.out)⟩ (fun hHeld => ?_)
              clear hK K
              refine norm_ (a' := ?_) ?_ ?_
              rotate_left
              · show Act.put _ (some 149) _ = _
                simp only [Act.put, List.setIfInBounds_toArray, List.set_cons_zero, List.set_cons_succ, i64_w, i32_w]
                rfl
              exact norm_ (by simp only [putAll, Act.put, List.setIfInBounds_toArray, List.set_cons_zero, List.set_cons_succ]) (hCont (.slice (some ⟨(wS.heap.size + 1), 0, none⟩) 0 0, v1, wS.heap.size) _ ⟨HO3, HLI3, HB3, (HB3.out.cell (p := ⟨gb, 2, none⟩) HGB.out |>.trans HY2.out), (HB3.out.cell (p := ⟨gw, k * 3, none⟩) HLW.out |>.trans HC10.out), (HB3.out.cell (p := ⟨gw, k * 3 + 1, none⟩) HLW.out |>.trans HC11.out), (HB3.out.cell (p := ⟨gw, k * 3 + 2, none⟩) HLW.out |>.trans HC12.out)⟩)
          rintro ⟨v147, v149, kl⟩ w9 ⟨HO9, HLI9, HB9, ck0, ck1, ck2, ck3⟩
          have hHeld : w9.cell? ⟨gb, 2, none⟩ = some (.int .i64 (k : Int)) ∧ w9.cell? ⟨gw, k * 3, none⟩ = some (.int .i64 x.f0) ∧ w9.cell? ⟨gw, k * 3 + 1, none⟩ = some (.int .i64 x.f1) ∧ w9.cell? ⟨gw, k * 3 + 2, none⟩ = some (.string x.f2) := ⟨ck0, ck1, ck2, ck3⟩
          refine norm_ (a' := ?_) ?_ ?_
          rotate_left
          · simp only [putAll, Act.put, List.setIfInBounds_toArray, List.set_cons_zero, List.set_cons_succ]
            rfl
          refine one_ (i := 9) (N := some 156) #[true, true, true, true, true, true, true, true, true, true, false] rfl rfl (by kernel_rfl) (by decide) (fun K hK => ?_)
          refine Kd.R_append_rows_step k41 (Rr := k41.K w9) (w0 := wS) wS.heap.size (by rfl) (.tmp 149) (.tmp 155) 38 41 (.agg #[.int .i64 0, .int .i64 0, .string ⟨#[]⟩]) 32 (by rfl) Try.underlying38 info41 rfl (by decide) (by omega) v149 fl [x] (some ⟨kl, 0, none⟩) 1 1 (fun k => wS.heap.size ≤ k) (fun _ => False) rfl rfl ?aO ?aS6 ?aM (fun _ h => False.elim h) ?aF HB9.out HB9.out.size ?aL ?_
          case aO => exact Kd.R_mono HO9.out (fun k hk => hk.1)
          case aS6 => exact (Kd.R_reads' HLI9.out).2.2
          case aM => intro y cs h; rw [k41_open h]; exact k41_mkM _ _ _ y
          case aF => exact fun k hk => Nat.le_trans HB9.out.size hk
          case aL => have := HFL4.out; omega
          intro v4 w4 hown hbel hgr hat
          have HO4 := Lib.hid hown
          have HB4 := Lib.hid hbel
          clear hown hbel hgr hat
          refine hK.out _ _ ⟨(HB4.out.cell (p := ⟨gb, 2, none⟩) HGB.out |>.trans HY2.out), (HB4.out.cell (p := ⟨gw, k * 3, none⟩) HLW.out |>.trans HC10.out), (HB4.out.cell (p := ⟨gw, k * 3 + 1, none⟩) HLW.out |>.trans HC11.out), (HB4.out.cell (p := ⟨gw, k * 3 + 2, none⟩) HLW.out |>.trans HC12.out)⟩ (fun hHeld => ?_)
          clear hK K
          refine norm_ (a' := ?_) ?_ ?_
          rotate_left
          · show Act.put _ (some 156) _ = _
            simp only [Act.put, List.setIfInBounds_toArray, List.set_cons_zero, List.set_cons_succ, i64_w, i32_w]
            rfl
          refine pure_ (i := 10) (N := some 8) (v := ?_) (a' := ?_) #[true, true, true, true, true, true, true, true, true, true, true] rfl rfl (by kernel_rfl) (fun _ _ _ h => h) (Or.inl ⟨by rfl, ?_⟩) ?_ ?_
          rotate_left
          · intro w'
            go_simp
            with_reducible rfl
          rotate_left
          · simp only [Act.put, List.setIfInBounds_toArray, List.set_cons_zero, List.set_cons_succ, i64_w, i32_w]
            rfl
          refine done_ (by kernel_rfl) ?_
          obtain ⟨A5, c5, rfl⟩ := Kd.R_slice HO4.out
          have HN5 := Lib.hid (HNS.out.below HB4.out)
          have HR5 := Lib.hid (Kd.R_lower HO4.out HBS.out.size)
          have HBw5 := Lib.hid (HBS.out.trans (HB4.out.mono HBS.out.size))
          have HF5 : Hid (((fl ++ [x]).length : Int) ≤ 260 * (i + 1)) := Lib.hid (by rw [List.length_append, List.length_singleton]; have := HFL.out; omega)
          have HNE5 : Hid (∀ k, k < wS.heap.size → ¬ wS.heap.size ≤ k) := Lib.hid (fun k h1 h2 => by omega)
          clear HO4 HB4
          go_wp2_with fail
          go_meet
          case rel => exact ⟨fl ++ [x], A5, c5, _, _, by first | rfl | simp, HN5, HR5, HNE5, HBw5, HF5⟩
        have e2b : ((r : Int) == 2) = false := by simp; omega
        have e3b : ((r : Int) == 3) = false := by simp; omega
        go_wp2_with fail
        refine (net_Send wp g _ g f fl HNp.out HGp.out d.2.1 Bd cd d.2.2.2 (fun W _ hb => Kd.C_below HQ3.out (HBp.out.trans (hb.mono HGE.out))) HF1.out HF4.out (by have := HFL4.out; have := HL20.out; omega)).mono ?_
        rintro e wS ⟨rfl, hnS⟩
        have HSN : Hid ((sent f d.2.1 d.2.2.2).length ≤ 260) := Lib.hid (by have := sent_len HF4.out d.2.1 d.2.2.2; have := HL20.out; omega)
        have HNS := Lib.hid (hnS.1.bound.mono (ok' := fun k => k < wS.heap.size) (fun k hk => hk.2.2))
        have HRS := Lib.hid (Kd.R_kept HRp.out hnS.2.1 (fun j hj h => HNE.out j h.1 hj.1))
        have hXS := blk_kept HXp.out hnS.2.1 (fun h => by have := h.2; omega)
        have HGB : Hid (gb < wS.heap.size) := Lib.hid (blk_lt hXS)
        have HY1 : Hid (wS.cell? ⟨gb, 1, none⟩ = some (.int .i64 d.2.1)) := Lib.hid ((blk_cell hXS 1).trans rfl)
        have HY3 : Hid (wS.cell? ⟨gb, 3, none⟩ = some (.slice Bd d.2.2.2.length cd)) := Lib.hid ((blk_cell hXS 3).trans rfl)
        have HBS := Lib.hid (HBp.out.trans (hnS.2.2.mono HGE.out))
        clear hnS hXS HNp HRp HBp HXp hgbp p1 p2 p3 e2b e3b
        go_wp2_with fail
        refine start_ (n := 11) (S := fun w' => w'.cell? ⟨gb, 1, none⟩ = some (.int .i64 d.2.1) ∧ w'.cell? ⟨gb, 3, none⟩ = some (.slice Bd d.2.2.2.length cd)) (ds := []) #[false, false, false, false, false, false, false, false, false, false, false] (by kernel_rfl) rfl rfl ⟨HY1.out, HY3.out⟩ (fun hHeld => ?_)
        refine pure_ (i := 1) (N := some 101) (v := ?_) (a' := ?_) #[false, true, false, false, false, false, false, false, false, false, false] rfl rfl (by kernel_rfl) (fun _ _ _ h => h) (Or.inl ⟨by rfl, ?_⟩) ?_ ?_
        rotate_left
        · intro w'
          go_simp
          with_reducible rfl
        rotate_left
        · simp only [Act.put, List.setIfInBounds_toArray, List.set_cons_zero, List.set_cons_succ, i64_w, i32_w]
          rfl
        refine pure_ (i := 3) (N := some 103) (v := ?_) (a' := ?_) #[false, true, false, true, false, false, false, false, false, false, false] rfl rfl (by kernel_rfl) (fun _ _ _ h => h) (Or.inl ⟨by rfl, ?_⟩) ?_ ?_
        rotate_left
        · intro w'
          go_simp
          with_reducible rfl
        rotate_left
        · simp only [Act.put, List.setIfInBounds_toArray, List.set_cons_zero, List.set_cons_succ, i64_w, i32_w]
          rfl
        refine pure_ (i := 4) (N := some 104) (v := ?_) (a' := ?_) #[false, true, false, true, true, false, false, false, false, false, false] rfl rfl (by kernel_rfl) (fun _ _ _ h => h) (Or.inl ⟨by rfl, ?_⟩) ?_ ?_
        rotate_left
        · intro w'
          go_simp
          with_reducible rfl
        rotate_left
        · simp only [Act.put, List.setIfInBounds_toArray, List.set_cons_zero, List.set_cons_succ, i64_w, i32_w]
          rfl
        refine pure_ (i := 6) (N := some 106) (v := ?_) (a' := ?_) #[false, true, false, true, true, false, true, false, false, false, false] rfl rfl (by kernel_rfl) (fun _ _ _ h => h) (Or.inl ⟨by rfl, ?_⟩) ?_ ?_
        rotate_left
        · intro w'
          go_simp
          with_reducible rfl
        rotate_left
        · simp only [Act.put, List.setIfInBounds_toArray, List.set_cons_zero, List.set_cons_succ, i64_w, i32_w]
          rfl
        refine take_ (i := 5) (N := some 105) (v := ?_) (a' := ?_) #[false, true, false, true, true, true, true, false, false, false, false] rfl rfl (by kernel_rfl) (fun _ _ _ h => h) (Or.inl ⟨by rfl, ?_⟩) hHeld ?_ ?_
        rotate_left
        · rintro w' ⟨s0, s1⟩
          go_simp
          with_reducible rfl
        rotate_left
        · simp only [Act.put, List.setIfInBounds_toArray, List.set_cons_zero, List.set_cons_succ, i64_w, i32_w]
          rfl
        refine take_ (i := 7) (N := some 107) (v := ?_) (a' := ?_) #[false, true, false, true, true, true, true, true, false, false, false] rfl rfl (by kernel_rfl) (fun _ _ _ h => h) (Or.inl ⟨by rfl, ?_⟩) hHeld ?_ ?_
        rotate_left
        · rintro w' ⟨s0, s1⟩
          go_simp
          with_reducible rfl
        rotate_left
        · simp only [Act.put, List.setIfInBounds_toArray, List.set_cons_zero, List.set_cons_succ, i64_w, i32_w]
          rfl
        refine one_ (i := 0) (N := some 100) #[true, true, false, true, true, true, true, true, false, false, false] rfl rfl (by kernel_rfl) (by decide) (fun K hK => ?_)
        refine value_ (w1 := ?_) (v := ?_) (by rfl) rfl ?_ ?_
        rotate_left 2
        · go_simp
          constructor
          · rfl
          · rfl
        refine hK.out _ _ ⟨((((Below.refl _ wS).alloc (Nat.le_refl _) (.cells #[] 41)).drew).cell (p := ⟨gb, 1, none⟩) HGB.out |>.trans HY1.out), ((((Below.refl _ wS).alloc (Nat.le_refl _) (.cells #[] 41)).drew).cell (p := ⟨gb, 3, none⟩) HGB.out |>.trans HY3.out)⟩ (fun hHeld => ?_)
        clear hK K
        refine norm_ (a' := ?_) ?_ ?_
        rotate_left
        · show Act.put _ (some 100) _ = _
          simp only [Act.put, List.setIfInBounds_toArray, List.set_cons_zero, List.set_cons_succ, i64_w, i32_w]
          rfl
        refine one_ (i := 2) (N := some 102) #[true, true, true, true, true, true, true, true, false, false, false] rfl rfl (by kernel_rfl) (by decide) (fun K hK => ?_)
        refine Kd.R_append_rows_step k41 (Rr := k41.K wS) (w0 := wS) wS.heap.size (by rfl) (.tmp 100) (.tmp 101) 38 41 (.agg #[.int .i64 0, .int .i64 0, .string ⟨#[]⟩]) 32 (by rfl) Try.underlying38 info41 rfl (by decide) (by omega) (.slice (some ⟨wS.heap.size, 0, none⟩) 0 0) [] fl A fl.length c (fun k => wS.heap.size ≤ k) (fun _ => False) rfl rfl ?own2 ?src2 ?km2 (fun _ h => h.elim) ?fresh2 (((Below.refl _ wS).alloc (Nat.le_refl _) (.cells #[] 41)).drew) (by simp) ?len2 ?_
        case own2 => exact Kd.R_mono (Kd.R_drew (nil_RF wS)) (fun k hk => by have : k = wS.heap.size := hk; omega)
        case src2 => exact Kd.C_below (Kd.R_reads' HRS.out).2.2 (((Below.refl _ wS).alloc (Nat.le_refl _) (.cells #[] 41)).drew)
        case km2 => intro y cs h; rw [k41_open h]; exact k41_mkM _ _ _ y
        case fresh2 => exact fun k hk => Nat.le_of_succ_le (by simpa using hk)
        case len2 => have := HFL4.out; simp; omega
        intro v1 w3 hown hbel hgr hat
        replace hown : Kd.R k41 41 w3 wS.heap.size (fun k => wS.heap.size ≤ k) v1 fl := hown
        have HO3 := Lib.hid hown
        have HB3 := Lib.hid hbel
        clear hown hbel hgr hat
        refine hK.out _ _ ⟨(HB3.out.cell (p := ⟨gb, 1, none⟩) HGB.out |>.trans HY1.out), (HB3.out.cell (p := ⟨gb, 3, none⟩) HGB.out |>.trans HY3.out)⟩ (fun hHeld => ?_)
        clear hK K
        refine norm_ (a' := ?_) ?_ ?_
        rotate_left
        · show Act.put _ (some 102) _ = _
          simp only [Act.put, List.setIfInBounds_toArray, List.set_cons_zero, List.set_cons_succ, i64_w, i32_w]
          rfl
        refine one_ (i := 8) (N := some 108) #[true, true, true, true, true, true, true, true, true, false, false] rfl rfl (by kernel_rfl) (by decide) (fun K hK => ?_)
        refine goes_ Try.func16 (by kernel_rfl) rfl #[.int .i64 f, .int .i64 d.2.1, .slice Bd d.2.2.2.length cd] (by rfl) rfl rfl (by simp only [List.map_toArray, List.map_cons, List.map_nil]; rfl) ?_
        with_reducible refine (becketref18_Send.calls 30000 f d.2.1 Bd cd d.2.2.2 (sent f d.2.1 d.2.2.2) _ (Kd.C_below HQ3.out (HBS.out.trans (HB3.out.mono HBS.out.size))) HQ2.out (refsend_f f HF1.out HF4.out d.2.1 d.2.2.2 HL20.out)).mono ?_
        rintro e w4 ⟨v4, rfl, hr4, hb4⟩
        refine ⟨_, rfl, ?_⟩
        obtain ⟨A4, c4, rfl⟩ := Kd.R_slice hr4
        have HR4 := Lib.hid (Kd.R_reads' hr4)
        have HO4 := Lib.hid (Kd.R_below HO3.out hb4)
        have HB4 := Lib.hid (HB3.out.trans (hb4.mono HB3.out.size))
        clear hr4 hb4
        refine hK.out _ _ ⟨(HB4.out.cell (p := ⟨gb, 1, none⟩) HGB.out |>.trans HY1.out), (HB4.out.cell (p := ⟨gb, 3, none⟩) HGB.out |>.trans HY3.out)⟩ (fun hHeld => ?_)
        clear hK K
        refine norm_ (a' := ?_) ?_ ?_
        rotate_left
        · show Act.put _ (some 108) _ = _
          simp only [Act.put, List.setIfInBounds_toArray, List.set_cons_zero, List.set_cons_succ, i64_w, i32_w]
          rfl
        refine one_ (i := 9) (N := some 109) #[true, true, true, true, true, true, true, true, true, true, false] rfl rfl (by kernel_rfl) (by decide) (fun K hK => ?_)
        refine Kd.R_append_rows_step k41 (Rr := k41.K w4) (w0 := wS) wS.heap.size (by rfl) (.tmp 102) (.tmp 108) 38 41 (.agg #[.int .i64 0, .int .i64 0, .string ⟨#[]⟩]) 32 (by rfl) Try.underlying38 info41 rfl (by decide) (by omega) v1 fl (sent f d.2.1 d.2.2.2) A4 (sent f d.2.1 d.2.2.2).length c4 (fun k => wS.heap.size ≤ k) (fun _ => False) (by rfl) (by rfl) HO4.out HR4.out.2.2 ?km9 (fun _ h => h.elim) ?fresh9 HB4.out HB4.out.size ?len9 ?_
        case km9 => intro y cs h; rw [k41_open h]; exact k41_mkM _ _ _ y
        case fresh9 => exact fun k hk => Nat.le_trans HB4.out.size hk
        case len9 => have := HFL4.out; have := HSN.out; omega
        intro v5 w5 hown hbel hgr hat
        have HO5 := Lib.hid hown
        have HB5 := Lib.hid hbel
        clear hown hbel hgr hat
        refine hK.out _ _ ⟨(HB5.out.cell (p := ⟨gb, 1, none⟩) HGB.out |>.trans HY1.out), (HB5.out.cell (p := ⟨gb, 3, none⟩) HGB.out |>.trans HY3.out)⟩ (fun hHeld => ?_)
        clear hK K
        refine norm_ (a' := ?_) ?_ ?_
        rotate_left
        · show Act.put _ (some 109) _ = _
          simp only [Act.put, List.setIfInBounds_toArray, List.set_cons_zero, List.set_cons_succ, i64_w, i32_w]
          rfl
        refine pure_ (i := 10) (N := some 8) (v := ?_) (a' := ?_) #[true, true, true, true, true, true, true, true, true, true, true] rfl rfl (by kernel_rfl) (fun _ _ _ h => h) (Or.inl ⟨by rfl, ?_⟩) ?_ ?_
        rotate_left
        · intro w'
          go_simp
          with_reducible rfl
        rotate_left
        · simp only [Act.put, List.setIfInBounds_toArray, List.set_cons_zero, List.set_cons_succ, i64_w, i32_w]
          rfl
        refine done_ (by kernel_rfl) ?_
        obtain ⟨A5, c5, rfl⟩ := Kd.R_slice HO5.out
        have HN5 := Lib.hid (HNS.out.below HB5.out)
        have HR5 := Lib.hid (Kd.R_lower HO5.out HBS.out.size)
        have HBw5 := Lib.hid (HBS.out.trans (HB5.out.mono HBS.out.size))
        have HF5 : Hid (((fl ++ sent f d.2.1 d.2.2.2).length : Int) ≤ 260 * (i + 1)) := Lib.hid (by rw [List.length_append]; have := HSN.out; have := HFL.out; omega)
        have HNE5 : Hid (∀ k, k < wS.heap.size → ¬ wS.heap.size ≤ k) := Lib.hid (fun k h1 h2 => by omega)
        clear HO5 HB5 HO4 HB4 HO3 HB3 HR4 hHeld
        go_wp2_with fail
        go_meet
        case rel => exact ⟨fl ++ sent f d.2.1 d.2.2.2, A5, c5, _, _, by first | rfl | simp, HN5, HR5, HNE5, HBw5, HF5⟩
      case rest =>
        obtain ⟨fl', A', c', okN', okR', rfl, HNx, HRx, HNEx, HBx, HFx⟩ := hcut
        go_wp2_with fail
        refine (net_All _ _ _ _ _ _ HNx.out).mono ?_
        rintro e wA ⟨vA, rfl, hrA, hbA⟩
        obtain ⟨AA, cA, rfl⟩ := Kd.R_slice hrA
        have HRA := Lib.hid (Kd.R_reads' hrA)
        have HRL := Lib.hid (Kd.R_reads' (Kd.R_below HRx.out hbA))
        have HBA := Lib.hid (HBx.out.trans (hbA.mono HBx.out.size))
        have HNA := Lib.hid (HNx.out.bound.below hbA)
        have HRxA := Lib.hid (Kd.R_below HRx.out hbA)
        clear hrA hbA
        go_wp2_with fail
        refine (becketref18_Same.calls 100001 AA cA fl' A' c' fl' true _ HRA.out.2.2 HRA.out.2.1 HRL.out.2.2 HRL.out.2.1 (same_f _ (by have := HFx.out; have := HII.out; omega))).mono ?_
        rintro e wZ ⟨rfl, hdZ⟩
        have HBZ := Lib.hid (HBA.out.trans (hdZ.below.mono HBA.out.size))
        have HNZ := Lib.hid (HNA.out.below hdZ.below)
        have HRZ := Lib.hid (Kd.R_below HRxA.out hdZ.below)
        have hwi : wrap64 (i + 1) = i + 1 := by have := HII.out; unfold wrap64; omega
        clear hdZ
        go_wp2_with fail
        go_roundg k1
        case measure => omega
        case rel => exact ⟨fl', A', c', i + 1, _, okR', rfl, by first | (rw [hwi]; done) | rfl, Lib.hid (by have := HI.out; omega), HFx, HNZ, HRZ, Lib.hid (fun k h1 h2 => HNEx.out k h1.1 h2), HBZ⟩
end Go.Proofs.Ytkaoojcafefjjaa.Net
