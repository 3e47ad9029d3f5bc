-- Cut by a program of this session (wip/shake.py) out of a text of this seat: what this claim doesn't reach is struck out. Lean checks it.
import Derived.Test.YtkaoojcafefjjaaNetL1Co
import Derived.Lib.Hide
import Derived.BigRegion
namespace Go.Proofs.Ytkaoojcafefjjaa.Net
open Go.RowKit Go.Proofs.Ytkaoojcafefjjaa.Ms Go.Proofs.YtkaoojcafefjjaaW.PrintWords Go.Proofs.YtkaoojcafefjjaaW.PrintLast Go.Proofs.YtkaoojcafefjjaaW.PrintMore
attribute [local go_sem] Go.Proofs.Ytkaoojcafefjjaa.Ms.eqlErr Go.Proofs.Ytkaoojcafefjjaa.Ms.neqErr Go.Proofs.Ytkaoojcafefjjaa.Ms.eqlErrNil Go.Proofs.Ytkaoojcafefjjaa.Ms.neqErrNil
set_option linter.unusedVariables false
set_option linter.unusedSimpArgs false
set_option maxHeartbeats 16000000 in
set_option maxRecDepth 100000 in
attribute [local go_sem high] Go.Proofs.Ytkaoojcafefjjaa.Ms.eqA41 in
theorem once_calls (f from_ : Int) (A0 : Option Addr) (c0 : Nat) (os : List S31) (A3 : Option Addr) (c3 : Nat) (order : List Int) (w : World) (hO : Kd.C k31 w A0 os.length os) (h3 : Kd.C (Kd.int .i64) w A3 order.length order) (hr3 : ∀ x ∈ order, -9223372036854775808 ≤ x ∧ x ≤ 9223372036854775807) :
    Calls Try.prog 3 #[.int .i64 f, .int .i64 from_, .slice A0 os.length c0, .slice A3 order.length c3] w fun e w' => e = .returned (.bool true) ∧ Below w.heap.size w w' := by
  have HO := Lib.hid hO
  have H3 := Lib.hid h3
  have HR3 := Lib.hid hr3
  clear hO h3 hr3
  go_enter Try.func3, Try.ntmps3
  go_wp2_with fail
  refine (up_calls _).mono ?_
  rintro e w1 ⟨rfl, hb1⟩
  have HB1 := Lib.hid hb1
  clear hb1
  by_cases q1 : f < 1
  · have t1 : decide (f < 1) = true := by simpa using q1
    clear q1
    go_wp2
    go_ret
    exact ⟨rfl, HB1.out⟩
  have t1 : decide (f < 1) = false := by simpa using q1
  by_cases q2 : 4 < f
  · have t2 : decide (4 < f) = true := by simpa using q2
    clear q1 q2
    go_wp2
    go_ret
    exact ⟨rfl, HB1.out⟩
  have t2 : decide (4 < f) = false := by simpa using q2
  have HF1 : Hid (1 ≤ f) := Lib.hid (by omega)
  have HF4 : Hid (f ≤ 4) := Lib.hid (by omega)
  clear q1 q2
  by_cases q3 : 20 < (os.length : Int)
  · have t3 : decide (20 < (os.length : Int)) = true := by simpa using q3
    clear q3
    go_wp2
    go_ret
    exact ⟨rfl, HB1.out⟩
  have t3 : decide (20 < (os.length : Int)) = false := by simpa using q3
  have HL : Hid (os.length ≤ 20) := Lib.hid (by omega)
  clear q3
  go_wp2_with fail
  clear t1 t2 t3
  go_loopg [10] os.length (fun kq v10 w' => ∃ j : Nat, v10 = .int .i64 (j : Int) ∧ Hid (j + kq = os.length) ∧ Hid (Below w.heap.size w w'))
  case atStart => exact ⟨0, rfl, Lib.hid (by omega), HB1⟩
  case round =>
    obtain ⟨j, rfl, HJ, HB⟩ := hrel
    by_cases hj : j < os.length
    · have hd : decide (j < os.length) = true := by simpa using hj
      cases gk with
      | zero => have := HJ.out; omega
      | succ k1 =>
      obtain ⟨ad, A6, c6, A7, c7, rfl, x0, x1, x2, x3, x4, x5, x6, x7, l6, g6, l7, g7⟩ := at_T31 (Kd.C_below HO.out HB.out) (j : Int) (by omega) (by omega)
      rw [Int.toNat_natCast] at x0 x1 x2 x3 x4 x5 x6 x7
      have hwj : wrap64 ((j : Int) + 1) = ((j + 1 : Nat) : Int) := by have := HL.out; unfold wrap64; omega
      generalize rd_T31 os (j : Int) = o at x0 x1 x2 x3 x4 x5 x6 x7 l6 g6 l7 g7
      have HL6 := Lib.hid l6
      have HG6 := Lib.hid g6
      have HL7 := Lib.hid l7
      have HG7 := Lib.hid g7
      have HJJ := Lib.hid hj
      clear l6 g6 l7 g7 hj
      go_wp2_with fail
      refine (becketref12_Short.calls 1000 o.f1.f0 o.f1.f1 o.f1.f2 o.f1.f3 o.f1.f4 A6 c6 o.f1.f5 A7 c7 o.f1.f6 (MsgP.shortM o.f1.f4 o.f1.f5 o.f1.f6) _ HG6.out HL6.out HG7.out HL7.out (MsgP.Short_f _ _ _ _ _ _ _ 1000 (by decide))).mono ?_
      rintro e w2 ⟨rfl, hb2⟩
      have HB2 := Lib.hid (HB.out.trans (hb2.mono HB.out.size))
      clear hb2 x0 x1 x2 x3 x4 x5 x6 x7 HG6 HG7 HL6 HL7
      cases hs : MsgP.shortM o.f1.f4 o.f1.f5 o.f1.f6 with
      | false =>
        go_wp2
        go_ret
        exact ⟨rfl, HB2.out⟩
      | true =>
        go_wp2_with fail
        go_roundg k1
        case measure => omega
        case rel => exact ⟨j + 1, by first | (rw [hwj]; done) | (simp; done), Lib.hid (by have := HJ.out; omega), HB2⟩
    have hd : decide (j < os.length) = false := by simpa using hj
    clear hj
    go_wp2_with fail
    refine (net_New wr f HF1.out HF4.out).mono ?_
    rintro e w2 ⟨rfl, hn2, hb2⟩
    obtain ⟨g, hg⟩ : ∃ g, g = wr.heap.size := ⟨_, rfl⟩
    rw [← hg] at hn2 ⊢
    have HG := Lib.hid hg
    have HN2 := Lib.hid hn2
    have HB2 := Lib.hid hb2
    have HGE : Hid (w.heap.size ≤ g) := Lib.hid (by rw [hg]; exact HB.out.size)
    clear hn2 hb2 hg
    go_wp2_with fail
    refine (net_Send w2 g (fun k => k = g) g f [] HN2.out (by have := HN2.out.glt; omega) from_ A0 c0 os (fun W _ hb => Kd.C_below (Kd.C_below HO.out HB.out) (HB2.out.trans (by rw [← HG.out]; exact hb))) HF1.out HF4.out (by have := HL.out; simp; omega)).mono ?_
    rintro e w3 ⟨rfl, hn3⟩
    rw [List.nil_append] at hn3
    obtain ⟨L, hLd⟩ : ∃ L, L = sent f from_ os := ⟨_, rfl⟩
    have HLL : Hid (L.length ≤ 260) := Lib.hid (by have := sent_len HF4.out from_ os; rw [← hLd] at this; have := HL.out; omega)
    rw [← hLd] at hn3
    have HN3 := Lib.hid hn3.1.bound
    have HB3 := Lib.hid (HB2.out.trans (by rw [← HG.out]; exact hn3.2.2))
    clear hn3 HN2 HB2 hLd
    go_wp2_with fail
    refine (net_All _ _ _ _ _ _ HN3.out).mono ?_
    rintro e w4 ⟨v4, rfl, hr4, hb4⟩
    obtain ⟨A4, c4, rfl⟩ := Kd.R_slice hr4
    have HR4 := Lib.hid (Kd.R_mono (ok' := fun k => w3.heap.size ≤ k ∧ k < w4.heap.size) (Kd.R_bound hr4) (fun k hk => ⟨hk.2.1, hk.2.2.1⟩))
    have HN4 : Hid (NetAt w4 g (fun k => k < w3.heap.size) g f L) := Lib.hid ((HN3.out.below hb4).mono (fun k hk => hk.2.2))
    have HB4 := Lib.hid (HB3.out.trans (hb4.mono HB3.out.size))
    have HS4 := Lib.hid hb4.size
    clear hr4 hb4 HN3 HB3
    go_wp2_with fail
    refine (net_All _ _ _ _ _ _ HN4.out).mono ?_
    rintro e w5 ⟨v5, rfl, hr5, hb5⟩
    obtain ⟨A5, c5, rfl⟩ := Kd.R_slice hr5
    have HR5 := Lib.hid (Kd.R_mono (ok' := fun k => w4.heap.size ≤ k ∧ k < w5.heap.size) (Kd.R_bound hr5) (fun k hk => ⟨hk.2.1, hk.2.2.1⟩))
    have HR45 := Lib.hid (Kd.R_below HR4.out hb5)
    have HN5 := Lib.hid (HN4.out.below hb5)
    have HB5 := Lib.hid (HB4.out.trans (hb5.mono HB4.out.size))
    have HS5 := Lib.hid hb5.size
    have HF5 : Hid (0 < L.length → ∃ gr, A5 = some ⟨gr, 0, none⟩ ∧ w4.heap.size ≤ gr ∧ gr < w5.heap.size ∧ ∃ cur, w5.heap[gr]? = some (.cells cur 41 (0, 0)) ∧ cur.size = c5 * 3 ∧ L.length ≤ c5) := Lib.hid (fun hp => by
      obtain ⟨gr, cap, he, q1, q2, _⟩ := Kd.R_form hr5 hp
      injection he with e1 e2 e3
      subst e1 e3
      obtain ⟨_, _, cur, hcur, hsz⟩ := R_cells hr5
      exact ⟨gr, rfl, q1, q2, cur, hcur, hsz, (Kd.R_reads' hr5).2.1⟩)
    have HC5 : Hid (∀ gr, A5 = some ⟨gr, 0, none⟩ → ∃ cur, w5.heap[gr]? = some (.cells cur 41 (0, 0)) ∧ cur.size = c5 * 3) := Lib.hid (fun gr he => by
      subst he
      obtain ⟨_, _, cur, h1, h2⟩ := R_cells hr5
      exact ⟨cur, h1, h2⟩)
    have HW5 := Lib.hid (HB.out.trans (HB5.out.mono HB.out.size))
    have HW4 : Hid (w.heap.size ≤ w4.heap.size) := Lib.hid (Nat.le_trans HB.out.size HB4.out.size)
    clear hr5 hb5 HR4 HN4 HB4 HR5 HB5
    go_wp2_with fail
    go_loopg [16] L.length (fun kq v16 w' => ∃ j : Nat, v16 = .int .i64 (j : Int) ∧ Hid (j + kq = L.length) ∧ Hid (Kept w5 w' (fun k => w4.heap.size ≤ k ∧ k < w5.heap.size)) ∧ Hid (Below w4.heap.size w5 w') ∧ Hid (∀ gr, A5 = some ⟨gr, 0, none⟩ → ∃ cur, w'.heap[gr]? = some (.cells cur 41 (0, 0)) ∧ cur.size = c5 * 3))
    case atStart => exact ⟨0, rfl, Lib.hid (by omega), Lib.hid (Kept.refl _ _), Lib.hid (Below.refl _ _), HC5⟩
    case round =>
      obtain ⟨j2, rfl, HJ2, HK2, HBJ, HC2⟩ := hrel
      by_cases hj : j2 < L.length
      · have hd2 : decide (j2 < L.length) = true := by simpa using hj
        cases gk with
        | zero => have := HJ2.out; omega
        | succ k1 =>
        obtain ⟨gr, hA5, hg4, hg5, _⟩ := HF5.out (by omega)
        obtain ⟨cur, hcur, hsz⟩ := HC2.out gr hA5
        have hc5 : L.length ≤ c5 := by obtain ⟨_, _, _, _, _, _, _, h⟩ := HF5.out (by omega); exact h
        have z0 : wr.cell? ⟨gr, j2 * 3, none⟩ = some cur[j2 * 3] := by rw [blk_cell hcur, Array.getElem?_eq_getElem (by omega)]
        have z1 : wr.cell? ⟨gr, j2 * 3 + 1, none⟩ = some cur[j2 * 3 + 1] := by rw [blk_cell hcur, Array.getElem?_eq_getElem (by omega)]
        have z2 : wr.cell? ⟨gr, j2 * 3 + 2, none⟩ = some cur[j2 * 3 + 2] := by rw [blk_cell hcur, Array.getElem?_eq_getElem (by omega)]
        have y0 := blk_frozen hcur (j2 * 3)
        have y1 := blk_frozen hcur (j2 * 3 + 1)
        have y2 := blk_frozen hcur (j2 * 3 + 2)
        have hwj : wrap64 ((j2 : Int) + 1) = ((j2 + 1 : Nat) : Int) := by have := HLL.out; unfold wrap64; omega
        generalize cur[j2 * 3] = u0 at z0
        generalize cur[j2 * 3 + 1] = u1 at z1
        generalize cur[j2 * 3 + 2] = u2 at z2
        have HCU := Lib.hid hcur
        have HSZ := Lib.hid hsz
        have HG4 := Lib.hid (And.intro hg4 hg5)
        have HA5 := Lib.hid hA5
        have HJJ := Lib.hid hj
        subst hA5
        clear hcur hsz hg4 hg5 hj hc5
        go_wp2_with fail
        go_roundg k1
        case measure => omega
        case rel =>
          refine ⟨j2 + 1, by first | (rw [hwj]; done) | (simp; done), Lib.hid (by have := HJ2.out; omega), Lib.hid ?_, Lib.hid ?_, Lib.hid (fun gr2 he => ?_)⟩
          · exact Kept.setCell (p := ⟨gr, j2 * 3 + 2, none⟩) (Kept.setCell (p := ⟨gr, j2 * 3 + 1, none⟩) (Kept.setCell (p := ⟨gr, j2 * 3, none⟩) HK2.out (.inl HG4.out) _) (.inl HG4.out) _) (.inl HG4.out) _
          · exact Below.setCell (p := ⟨gr, j2 * 3 + 2, none⟩) (Below.setCell (p := ⟨gr, j2 * 3 + 1, none⟩) (Below.setCell (p := ⟨gr, j2 * 3, none⟩) HBJ.out HG4.out.1 _) HG4.out.1 _) HG4.out.1 _
          · injection he with he
            injection he with he _ _
            subst he
            exact ⟨_, blk_set (blk_set (blk_set HCU.out _ _) _ _) _ _, by simp only [Array.size_setIfInBounds]; exact HSZ.out⟩
      have hd2 : decide (j2 < L.length) = false := by simpa using hj
      have HR6 := Lib.hid (Kd.R_kept HR45.out HK2.out (fun k hk h => by have := hk.2; have := h.1; omega))
      have HN6 := Lib.hid (HN5.out.kept HK2.out (fun k hk h => by have := h.1; have := HS4.out; omega))
      have HBZ := Lib.hid (HW5.out.trans (HBJ.out.mono HW4.out))
      have HSW : Hid (w3.heap.size ≤ wr.heap.size) := Lib.hid (Nat.le_trans HS4.out (Nat.le_trans HS5.out HK2.out.1))
      clear hj HK2 HC2 HC5 HF5 HR45 HN5 HBJ HW5 HW4
      go_wp2_with (at_builtin; refine Kd.R_append_rows k41 (Rr := k41.K wr) (w0 := wr) wr.heap.size rfl (.tmp 78) (.tmp 79) 38 41 (.agg #[.int .i64 0, .int .i64 0, .string ⟨#[]⟩]) 32 rfl Try.underlying38 info41 rfl (by decide) (by omega) _ [] L A4 L.length c4 (fun _ => True) (fun _ => False) rfl rfl ?own ?src ?km (fun _ h => h.elim) (fun _ _ => trivial) ?bel ?base ?len ?go)
      case own => exact ⟨fun _ _ => trivial, [], World.ownsRow_made wr #[] 0 (Nat.le_refl _) (by simp [maxLen]) rfl, Reps.none _ _⟩
      case src => exact Kd.C_below (Kd.R_reads' HR6.out).2.2 ((Below.refl _ _).alloc (Nat.le_refl _) _)
      case km => intro x cs h; rw [k41_open h]; exact k41_mkM _ _ _ x
      case bel => exact (Below.refl _ _).alloc (Nat.le_refl _) _
      case base => simp
      case len => have := HLL.out; simp; omega
      case go =>
        intro v6 w6 hown hb6 hgr6 hat6
        obtain ⟨A7, c7, rfl⟩ := Kd.R_slice hown
        have HR7 : Hid (Kd.R k41 41 w6 w.heap.size (fun k => wr.heap.size ≤ k) (.slice A7 L.length c7) L) := Lib.hid (Kd.R_lower (Kd.R_mono (Kd.R_bound hown) (fun k hk => hk.2.1)) HBZ.out.size)
        have HN7 := Lib.hid (HN6.out.below hb6)
        have HB7 := Lib.hid (HBZ.out.trans (hb6.mono HBZ.out.size))
        clear hown hb6 hgr6 hat6 HR6 HN6 HBZ
        go_wp2_with fail
        go_loopg [15, 17] 300 (fun kq v15 v17 w' => ∃ (fl : List S41) (A : Option Addr) (c : Nat) (i : Int) (okN okR : Nat → Prop), v15 = .slice A fl.length c ∧ v17 = .int .i64 i ∧ Hid (i = 300 - (kq : Int) ∧ kq ≤ 300) ∧ Hid (fl.length ≤ 260) ∧ Hid (NetAt w' g okN g f fl) ∧ Hid (Kd.R k41 41 w' w.heap.size okR (.slice A fl.length c) fl) ∧ Hid (∀ k, okN k → ¬ okR k) ∧ Hid (Below w.heap.size w w'))
        case atStart => exact ⟨L, A7, c7, 0, _, _, rfl, rfl, Lib.hid (by omega), HLL, HN7, HR7, Lib.hid (fun k h1 h2 => by have := HSW.out; omega), HB7⟩
        case round =>
          obtain ⟨fl, A, c, i, okN, okR, rfl, rfl, HI, HFL, HNl, HRl, HNE, HBl⟩ := hrel
          have hi0 : 0 ≤ i := by have := HI.out; omega
          by_cases hin : i < (order.length : Int) ∧ i < 300 ∧ 0 < fl.length
          rotate_left
          · have hx : decide (i < (order.length : Int)) = false ∨ (decide (i < (order.length : Int)) = true ∧ decide (i < 300) = false) ∨ (decide (i < (order.length : Int)) = true ∧ decide (i < 300) = true ∧ decide (0 < fl.length) = false) := by
              by_cases h1 : i < (order.length : Int)
              · by_cases h2 : i < 300
                · have h3 : ¬ 0 < fl.length := fun h => hin ⟨h1, h2, h⟩
                  exact .inr (.inr ⟨by simpa using h1, by simpa using h2, by simpa using h3⟩)
                · exact .inr (.inl ⟨by simpa using h1, by simpa using h2⟩)
              · exact .inl (by simpa using h1)
            clear hin hi0
            rcases hx with t1 | ⟨t1, t2⟩ | ⟨t1, t2, t3⟩
            all_goals
              go_wp2_with fail
              refine (net_All _ _ _ _ _ _ HNl.out).mono ?_
              rintro e wA ⟨vA, rfl, hrA, hbA⟩
              obtain ⟨AA, cA, rfl⟩ := Kd.R_slice hrA
              have HRA := Lib.hid (Kd.R_reads' hrA)
              have HRL := Lib.hid (Kd.R_reads' (Kd.R_below HRl.out hbA))
              have HBA := Lib.hid (HBl.out.trans (hbA.mono HBl.out.size))
              clear hrA hbA
              go_wp2_with fail
              refine (becketref18_Same.calls 100001 AA cA fl A c fl true _ HRA.out.2.2 HRA.out.2.1 HRL.out.2.2 HRL.out.2.1 (same_f _ (by have := HFL.out; omega))).mono ?_
              rintro e wS ⟨rfl, hdS⟩
              have HBS := Lib.hid (HBA.out.trans (hdS.below.mono HBA.out.size))
              clear hdS
              go_wp2
              go_ret
              exact ⟨rfl, HBS.out⟩
          obtain ⟨hi1, hi2, hfl⟩ := hin
          have t1 : decide (i < (order.length : Int)) = true := by simpa using hi1
          have t2 : decide (i < 300) = true := by simpa using hi2
          have t3 : decide (0 < fl.length) = true := by simpa using hfl
          cases gk with
          | zero => have := HI.out; omega
          | succ k1 =>
          obtain ⟨ad, cs, rfl, _, hK, hc⟩ := Kd.C_get (Kd.C_below H3.out HBl.out) (0 : Int) i hi0 hi1
          have hK' : cs = [.int .i64 (order.getD i.toNat 0)] := hK
          have ho : wr.cell? (ad.add i.toNat) = some (.int .i64 (order.getD i.toNat 0)) := by
            have h9 : wr.cell? (ad.add (i.toNat * 1 + 0)) = some (.int .i64 (order.getD i.toNat 0)) := hc 0 _ (by rw [hK']; rfl)
            rwa [Nat.mul_one, Nat.add_zero] at h9
          have hrg : -9223372036854775808 ≤ order.getD i.toNat 0 ∧ order.getD i.toNat 0 ≤ 9223372036854775807 := by
            rw [List.getD_eq_getElem?_getD, List.getElem?_eq_getElem (by omega)]
            exact HR3.out _ (List.getElem_mem _)
          generalize order.getD i.toNat 0 = oi at ho hrg
          obtain ⟨k, hk, hpk⟩ := pick_f oi hrg fl.length hfl
          have HK := Lib.hid hk
          have HPK := Lib.hid hpk
          have hwi : wrap64 (i + 1) = i + 1 := by unfold wrap64; omega
          have HII := Lib.hid (And.intro hi0 hi2)
          clear hK hK' hc hrg hpk hi2 hfl
          go_wp2_with fail
          refine (becketlaw18_pick.calls oi fl.length (k : Int) _ HPK.out).mono ?_
          rintro e wp ⟨rfl, hdp⟩
          have hbp := hdp.below
          have HNp : Hid (NetAt wp g (fun k => okN k ∧ g ≤ k ∧ k < wr.heap.size) g f fl) := Lib.hid (HNl.out.bound.below hbp)
          have HRp : Hid (Kd.R k41 41 wp w.heap.size (fun k => okR k ∧ k < wr.heap.size) (.slice A fl.length c) fl) := Lib.hid (Kd.R_below (Kd.R_mono (Kd.R_bound HRl.out) (fun k hk => ⟨hk.1, hk.2.2.1⟩)) hbp)
          have HBp := Lib.hid (HBl.out.trans (hbp.mono HBl.out.size))
          have HSp := Lib.hid hbp.size
          clear hdp hbp HNl HRl HBl ho
          go_wp2_with fail
          refine (net_Take wp g _ g f fl HNp.out (by have := HNp.out.glt; omega) k HK.out).mono ?_
          rintro e w7 ⟨rfl, hn7⟩
          obtain ⟨x, hx⟩ : ∃ x, x = rd_T41 fl (k : Int) := ⟨_, rfl⟩
          rw [← hx]
          have HX := Lib.hid hx
          have HN8 : Hid (NetAt w7 g (fun k => k < w7.heap.size ∧ ¬ (okR k ∧ k < wr.heap.size)) g f (fl.eraseIdx k)) := Lib.hid (hn7.1.bound.mono (fun j hj => ⟨hj.2.2, fun h => by
            rcases hj.1 with h2 | h2
            · exact HNE.out j h2.1 h.1
            · have := HSp.out; have := h.2; omega⟩))
          have HR8 := Lib.hid (Kd.R_kept HRp.out hn7.2.1 (fun j hj h => HNE.out j h.1 hj.1))
          have HB8 := Lib.hid (HBp.out.trans (hn7.2.2.mono HGE.out))
          clear hn7 hx HNp HRp HBp
          go_wp2_with fail
          have hX8 := heap_alloc_new w7 (.cells #[.int .i64 x.f0, .int .i64 x.f1, .string x.f2] 41)
          have hBl8 : Below w7.heap.size w7 (w7.alloc (.cells #[.int .i64 x.f0, .int .i64 x.f1, .string x.f2] 41)) := (Below.refl _ w7).alloc (Nat.le_refl _) _
          generalize w7.alloc (.cells #[.int .i64 x.f0, .int .i64 x.f1, .string x.f2] 41) = wt at hX8 hBl8 ⊢
          obtain ⟨b1, hb1⟩ : ∃ b1, b1 = w7.heap.size := ⟨_, rfl⟩
          rw [← hb1] at hX8 ⊢
          have hR := Kd.R_below HR8.out hBl8
          obtain ⟨gw, cap, he, hgw1, hgw2, cells0, hcells0⟩ := Kd.R_form hR (by have := HK.out; omega)
          injection he with e1 e2 e3
          subst e1 e3
          obtain ⟨hw0, hw1, hw2⟩ := at_cells (c := c) (Kd.R_reads' hR).2.2 k HK.out
          rw [← HX.out] at hw0 hw1 hw2
          have HC00 : Hid (wt.cell? ⟨b1, 0, none⟩ = some (.int .i64 x.f0)) := Lib.hid ((blk_cell hX8 0).trans rfl)
          have HC01 : Hid (wt.cell? ⟨b1, 1, none⟩ = some (.int .i64 x.f1)) := Lib.hid ((blk_cell hX8 1).trans rfl)
          have HC02 : Hid (wt.cell? ⟨b1, 2, none⟩ = some (.string x.f2)) := Lib.hid ((blk_cell hX8 2).trans rfl)
          have HC10 := Lib.hid hw0
          have HC11 := Lib.hid hw1
          have HC12 := Lib.hid hw2
          have HRT := Lib.hid (Kd.R_reads' (Kd.R_drew hR))
          have HNT := Lib.hid ((HN8.out.below hBl8).drew)
          have HBT : Hid (Below w.heap.size w wt.drew) := Lib.hid ((HB8.out.trans (hBl8.mono HB8.out.size)).drew)
          have HST : Hid (w7.heap.size ≤ wt.drew.heap.size) := Lib.hid hBl8.size
          have hkz : (0 : Int) ≤ (k : Int) := by omega
          have hkl : (k : Int) < (fl.length : Int) := by omega
          clear hX8 hBl8 hb1 hR hw0 hw1 hw2 hgw1 hgw2 hcells0 cells0 e2 HN8 HR8 HB8
          refine start_ (n := 10) (S := fun w' => w'.cell? ⟨b1, 0, none⟩ = some (.int .i64 x.f0) ∧ w'.cell? ⟨b1, 1, none⟩ = some (.int .i64 x.f1) ∧ w'.cell? ⟨b1, 2, none⟩ = some (.string x.f2) ∧ w'.cell? ⟨gw, k * 3, none⟩ = some (.int .i64 x.f0) ∧ w'.cell? ⟨gw, k * 3 + 1, none⟩ = some (.int .i64 x.f1) ∧ w'.cell? ⟨gw, k * 3 + 2, none⟩ = some (.string x.f2)) (ds := []) #[false, false, false, false, false, false, false, false, false, false] (by kernel_rfl) rfl rfl ⟨HC00.out, HC01.out, HC02.out, HC10.out, HC11.out, HC12.out⟩ (fun hHeld => ?_)
          refine pure_ (i := 0) (N := some 109) (v := ?_) (a' := ?_) #[true, false, false, false, false, false, false, false, false, false] rfl rfl (by kernel_rfl) (fun _ _ _ h => h) (Or.inl ⟨by rfl, ?_⟩) ?_ ?_
          rotate_left
          · intro w'
            go_simp
            with_reducible rfl
          rotate_left
          · simp only [Act.put, List.setIfInBounds_toArray, List.set_cons_zero, List.set_cons_succ, i64_w, i32_w]
            rfl
          refine pure_ (i := 1) (N := some 110) (v := ?_) (a' := ?_) #[true, true, false, false, false, false, false, false, false, false] rfl rfl (by kernel_rfl) (fun _ _ _ h => h) (Or.inl ⟨by rfl, ?_⟩) ?_ ?_
          rotate_left
          · intro w'
            go_simp
            with_reducible rfl
          rotate_left
          · simp only [Act.put, List.setIfInBounds_toArray, List.set_cons_zero, List.set_cons_succ, i64_w, i32_w]
            rfl
          refine pure_ (i := 2) (N := some 111) (v := ?_) (a' := ?_) #[true, true, true, false, false, false, false, false, false, false] rfl rfl (by kernel_rfl) (fun _ _ _ h => h) (Or.inl ⟨by rfl, ?_⟩) ?_ ?_
          rotate_left
          · intro w'
            go_simp
            with_reducible rfl
          rotate_left
          · simp only [Act.put, List.setIfInBounds_toArray, List.set_cons_zero, List.set_cons_succ, i64_w, i32_w]
            rfl
          refine pure_ (i := 4) (N := some 113) (v := ?_) (a' := ?_) #[true, true, true, false, true, false, false, false, false, false] rfl rfl (by kernel_rfl) (fun _ _ _ h => h) (Or.inl ⟨by rfl, ?_⟩) ?_ ?_
          rotate_left
          · intro w'
            go_simp
            with_reducible rfl
          rotate_left
          · simp only [Act.put, List.setIfInBounds_toArray, List.set_cons_zero, List.set_cons_succ, i64_w, i32_w]
            rfl
          refine pure_ (i := 5) (N := some 114) (v := ?_) (a' := ?_) #[true, true, true, false, true, true, false, false, false, false] rfl rfl (by kernel_rfl) (fun _ _ _ h => h) (Or.inl ⟨by rfl, ?_⟩) ?_ ?_
          rotate_left
          · intro w'
            go_simp
            with_reducible rfl
          rotate_left
          · simp only [Act.put, List.setIfInBounds_toArray, List.set_cons_zero, List.set_cons_succ, i64_w, i32_w]
            rfl
          refine pure_ (i := 6) (N := some 115) (v := ?_) (a' := ?_) #[true, true, true, false, true, true, true, false, false, false] rfl rfl (by kernel_rfl) (fun _ _ _ h => h) (Or.inl ⟨by rfl, ?_⟩) ?_ ?_
          rotate_left
          · intro w'
            go_simp
            with_reducible rfl
          rotate_left
          · simp only [Act.put, List.setIfInBounds_toArray, List.set_cons_zero, List.set_cons_succ, i64_w, i32_w]
            rfl
          refine take_ (i := 3) (N := some 112) (v := ?_) (a' := ?_) #[true, true, true, true, true, true, true, false, false, false] rfl rfl (by kernel_rfl) (fun _ _ _ h => h) (Or.inl ⟨by rfl, ?_⟩) hHeld ?_ ?_
          rotate_left
          · rintro w' ⟨s0, s1, s2, s3, s4, s5⟩
            go_simp
            with_reducible rfl
          rotate_left
          · simp only [Act.put, List.setIfInBounds_toArray, List.set_cons_zero, List.set_cons_succ, i64_w, i32_w]
            rfl
          refine take_ (i := 7) (N := some 116) (v := ?_) (a' := ?_) #[true, true, true, true, true, true, true, true, false, false] rfl rfl (by kernel_rfl) (fun _ _ _ h => h) (Or.inl ⟨by rfl, ?_⟩) hHeld ?_ ?_
          rotate_left
          · rintro w' ⟨s0, s1, s2, s3, s4, s5⟩
            go_simp
            with_reducible rfl
          rotate_left
          · simp only [Act.put, List.setIfInBounds_toArray, List.set_cons_zero, List.set_cons_succ, i64_w, i32_w]
            rfl
          refine pure_ (i := 8) (N := some 117) (v := ?_) (a' := ?_) #[true, true, true, true, true, true, true, true, true, false] rfl rfl (by kernel_rfl) (fun _ _ _ h => h) (Or.inl ⟨by rfl, ?_⟩) ?_ ?_
          rotate_left
          · intro w'
            go_simp
            with_reducible rfl
          rotate_left
          · simp only [Act.put, List.setIfInBounds_toArray, List.set_cons_zero, List.set_cons_succ, i64_w, i32_w]
            rfl
          refine pure_ (i := 9) (N := some 118) (v := ?_) (a' := ?_) #[true, true, true, true, true, true, true, true, true, true] rfl rfl (by kernel_rfl) (fun _ _ _ h => h) (Or.inl ⟨by rfl, ?_⟩) ?_ ?_
          rotate_left
          · intro w'
            go_simp
            with_reducible rfl
          rotate_left
          · simp only [Act.put, List.setIfInBounds_toArray, List.set_cons_zero, List.set_cons_succ, i64_w, i32_w]
            rfl
          refine done_ (by kernel_rfl) ?_
          go_wp2_with fail
          refine (becketref18_Without.calls 100001 (some ⟨gw, 0, none⟩) c fl (k : Int) (fl.eraseIdx k) _ HRT.out.2.2 HRT.out.2.1 (without_f fl (by have := HFL.out; omega) k)).mono ?_
          rintro e w9 ⟨v9, rfl, hr9, hb9⟩
          obtain ⟨A9, c9, rfl⟩ := Kd.R_slice hr9
          have HN9 := Lib.hid (HNT.out.below hb9)
          have HR9 : Hid (Kd.R k41 41 w9 w.heap.size (fun k => wt.drew.heap.size ≤ k) (.slice A9 (fl.eraseIdx k).length c9) (fl.eraseIdx k)) := Lib.hid (Kd.R_lower (Kd.R_mono (Kd.R_bound hr9) (fun j hj => hj.2.1)) HBT.out.size)
          have HB9 := Lib.hid (HBT.out.trans (hb9.mono HBT.out.size))
          have HNE9 : Hid (∀ j, (j < w7.heap.size ∧ ¬ (okR j ∧ j < wr.heap.size)) → ¬ wt.drew.heap.size ≤ j) := Lib.hid (fun j h1 h2 => by have := HST.out; omega)
          have HF9 : Hid ((fl.eraseIdx k).length ≤ 260) := Lib.hid (by have := HFL.out; rw [List.length_eraseIdx_of_lt HK.out]; omega)
          clear hr9 hb9 HNT HRT HBT
          go_wp2_with fail
          go_roundg k1
          case measure => omega
          case rel => exact ⟨fl.eraseIdx k, A9, c9, i + 1, _, _, rfl, by first | (rw [hwi]; done) | rfl, Lib.hid (by have := HI.out; omega), HF9, HN9, HR9, HNE9, HB9⟩
end Go.Proofs.Ytkaoojcafefjjaa.Net
