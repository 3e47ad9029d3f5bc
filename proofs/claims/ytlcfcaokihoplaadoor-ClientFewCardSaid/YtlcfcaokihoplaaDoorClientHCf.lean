-- Cut by a program of this session (wip/shake.py) out of a text of this seat: what this claim doesn't reach is struck out. Lean checks it.
import Derived.Test.YtlcfcaokihoplaaDoorClientGCf
namespace Go.Proofs.YtlcfcaokihoplaaDoor.Cli
open Go.RowKit Go.Proofs.YtlcfcaokihoplaaDoor.Ms Go.Proofs.YtlcfcaokihoplaaDoorW.PrintWords Go.Proofs.YtlcfcaokihoplaaDoorW.PrintLast Go.Proofs.YtlcfcaokihoplaaDoorW.PrintMore
attribute [local go_sem] Go.Proofs.YtlcfcaokihoplaaDoor.Ms.eqlErr Go.Proofs.YtlcfcaokihoplaaDoor.Ms.neqErr Go.Proofs.YtlcfcaokihoplaaDoor.Ms.eqlErrNil Go.Proofs.YtlcfcaokihoplaaDoor.Ms.neqErrNil
set_option linter.unusedVariables false
set_option linter.unusedSimpArgs false
theorem client_Ask1 (w : World) (B : Nat) (ok : Nat → Prop) (g : Nat) (f id t : Int) (wt : Bool) (body : ByteArray) (vs : List S70) (h : ClientAt w B ok g f id t wt body vs) (ht : 0 ≤ t ∧ t ≤ 1000)
    (kd n : Int) (nm pt : ByteArray) (A : Option Addr) (c : Nat) (ks : List ByteArray) (hks : Kd.C Kd.string w A ks.length ks) (hc : ks.length ≤ c) (hs : PureO.shortB nm pt ks = true) :
    Calls Tryd.prog 8 #[.pointer (some ⟨g, 0, none⟩), .agg #[.int .i64 kd, .string nm, .string pt, .slice A ks.length c, .int .i64 n]] w fun e w' =>
      ∃ (mv ev : Value) (t' : Int) (wt' : Bool) (body' : ByteArray) (vs' : List S70), e = .returned (.tuple #[mv, ev]) ∧ (vs' = vs ∨ vs' = []) ∧ ClientTo w w' B ok g f id t' wt' body' vs' := by
  obtain ⟨h1, h2, h3, h4⟩ := PureO.shortB_iff hs
  refine (client_Ask w B ok g f id t wt body vs h ht kd n nm pt A c ks hks hc (by omega) (by omega) h3 (fun x hx => by have := h4 x hx; omega)).mono ?_
  rintro e w' (⟨_, rfl, hc⟩ | ⟨er, _, rfl, hc⟩)
  · exact ⟨_, _, _, _, _, _, rfl, .inr rfl, hc⟩
  · exact ⟨_, _, _, _, _, _, rfl, .inl rfl, hc⟩
set_option maxHeartbeats 16000000 in
set_option maxRecDepth 100000 in
theorem few_calls (f kd n : Int) (nm pt : ByteArray) (A0 : Option Addr) (c0 : Nat) (ks : List ByteArray) (A2 : Option Addr) (c2 : Nat) (lr : List Int) (A3 : Option Addr) (c3 : Nat) (ms : List MG) (w : World)
    (hks : Kd.C Kd.string w A0 ks.length ks) (hc : ks.length ≤ c0) (hl : Kd.C (Kd.int .i64) w A2 lr.length lr) (hm : Msgs w A3 ms.length ms) :
    Calls Tryd.prog 3 #[.int .i64 f, .agg #[.int .i64 kd, .string nm, .string pt, .slice A0 ks.length c0, .int .i64 n], .slice A2 lr.length c2, .slice A3 ms.length c3] w fun e w' => e = .returned (.bool true) ∧ Below w.heap.size w w' := by
  have HKS := Lib.hid hks
  have HC := Lib.hid hc
  have HL := Lib.hid hl
  have HM := Lib.hid hm
  clear hks hc hl hm
  go_enter Tryd.func3, Tryd.ntmps3
  go_wp2_with fail
  obtain ⟨bo, hbo⟩ : ∃ bo, bo = w.heap.size := ⟨_, rfl⟩
  have hX := heap_alloc_new w (.cells #[.int .i64 kd, .string nm, .string pt, .slice A0 ks.length c0, .int .i64 n] 24)
  have hBa : Below w.heap.size w (w.alloc (.cells #[.int .i64 kd, .string nm, .string pt, .slice A0 ks.length c0, .int .i64 n] 24)) := (Below.refl _ w).alloc (Nat.le_refl _) _
  generalize w.alloc (.cells #[.int .i64 kd, .string nm, .string pt, .slice A0 ks.length c0, .int .i64 n] 24) = wa at hX hBa ⊢
  rw [← hbo] at hX ⊢
  refine (up_calls wa).mono ?_
  rintro e w1 ⟨rfl, hb1⟩
  have hX1 := blk_below hX hb1
  have HB1 := Lib.hid (hBa.trans (hb1.mono hBa.size))
  have o0 : w1.cell? ⟨bo, 0, none⟩ = some (.int .i64 kd) := (blk_cell hX1 0).trans rfl
  have o1 : w1.cell? ⟨bo, 1, none⟩ = some (.string nm) := (blk_cell hX1 1).trans rfl
  have o2 : w1.cell? ⟨bo, 2, none⟩ = some (.string pt) := (blk_cell hX1 2).trans rfl
  have o3 : w1.cell? ⟨bo, 3, none⟩ = some (.slice A0 ks.length c0) := (blk_cell hX1 3).trans rfl
  have o4 : w1.cell? ⟨bo, 4, none⟩ = some (.int .i64 n) := (blk_cell hX1 4).trans rfl
  have HX1 := Lib.hid hX1
  clear hX hBa hb1 hX1 hbo
  go_wp2_with fail
  refine (becketref08_Short.calls 1000 kd nm pt A0 c0 ks n (PureO.shortB nm pt ks) _ (Kd.C_below HKS.out HB1.out) HC.out (PureO.short_f 1000 kd n nm pt ks (by decide))).mono ?_
  rintro e w2 ⟨rfl, hb2⟩
  have HX2 := Lib.hid (blk_below HX1.out hb2)
  have HB2 := Lib.hid (HB1.out.trans (hb2.mono HB1.out.size))
  clear hb2 HB1 HX1 o0 o1 o2 o3 o4
  by_cases hno : f < 1 ∨ 4 < f ∨ f < (lr.length : Int) ∨ PureO.shortB nm pt ks = false
  · have t : decide (f < 1) = true ∨ (decide (f < 1) = false ∧ decide (4 < f) = true) ∨ (decide (f < 1) = false ∧ decide (4 < f) = false ∧ decide (f < (lr.length : Int)) = true) ∨ (decide (f < 1) = false ∧ decide (4 < f) = false ∧ decide (f < (lr.length : Int)) = false ∧ PureO.shortB nm pt ks = false) := by
      by_cases a : f < 1
      · exact .inl (by simpa using a)
      by_cases b : 4 < f
      · exact .inr (.inl ⟨by simpa using a, by simpa using b⟩)
      by_cases c : f < (lr.length : Int)
      · exact .inr (.inr (.inl ⟨by simpa using a, by simpa using b, by simpa using c⟩))
      · exact .inr (.inr (.inr ⟨by simpa using a, by simpa using b, by simpa using c, by rcases hno with h | h | h | h <;> first | omega | exact h⟩))
    clear hno
    rcases t with t1 | ⟨t1, t2⟩ | ⟨t1, t2, t3⟩ | ⟨t1, t2, t3, t4⟩
    all_goals
      try rw [t4]
      go_wp2
      go_ret
      exact ⟨rfl, HB2.out⟩
  have t1 : decide (f < 1) = false := by simp; omega
  have t2 : decide (4 < f) = false := by simp; omega
  have t3 : decide (f < (lr.length : Int)) = false := by simp; omega
  have t4 : PureO.shortB nm pt ks = true := by cases h : PureO.shortB nm pt ks with | true => rfl | false => exact absurd (.inr (.inr (.inr h))) hno
  have HF : Hid (1 ≤ f ∧ f ≤ 4 ∧ (lr.length : Int) ≤ f) := Lib.hid (by omega)
  have HSH := Lib.hid t4
  rw [t4]
  clear hno t4
  go_wp2_with fail
  refine (client_New w2 f 3 HF.out.1 HF.out.2.1 (by decide) (by decide)).mono ?_
  rintro e w3 ⟨rfl, hn3, hb3⟩
  have hX3 := blk_below HX2.out hb3
  have o0 : w3.cell? ⟨bo, 0, none⟩ = some (.int .i64 kd) := (blk_cell hX3 0).trans rfl
  have o1 : w3.cell? ⟨bo, 1, none⟩ = some (.string nm) := (blk_cell hX3 1).trans rfl
  have o2 : w3.cell? ⟨bo, 2, none⟩ = some (.string pt) := (blk_cell hX3 2).trans rfl
  have o3 : w3.cell? ⟨bo, 3, none⟩ = some (.slice A0 ks.length c0) := (blk_cell hX3 3).trans rfl
  have o4 : w3.cell? ⟨bo, 4, none⟩ = some (.int .i64 n) := (blk_cell hX3 4).trans rfl
  have HN3 := Lib.hid hn3
  have HB3 := Lib.hid (HB2.out.trans (hb3.mono HB2.out.size))
  have HG : Hid (w.heap.size ≤ w2.heap.size) := Lib.hid HB2.out.size
  obtain ⟨g, hg⟩ : ∃ g, g = w2.heap.size := ⟨_, rfl⟩
  rw [← hg] at HN3 ⊢
  have HGE := Lib.hid hg
  clear hn3 hb3 hX3 HX2 HB2 hg t1 t2 t3
  go_wp2_with fail
  refine (client_Ask1 w3 g (fun k => k = g) g f 3 0 false ⟨#[]⟩ [] HN3.out (by decide) kd n nm pt A0 c0 ks (Kd.C_below HKS.out HB3.out) HC.out HSH.out).mono ?_
  rintro e w4 ⟨mv, ev, t, wt, body, vs, rfl, hvs, hc4, hk4, hb4⟩
  obtain rfl : vs = [] := hvs.elim id id
  have HN4 := Lib.hid hc4
  have HB4 := Lib.hid (HB3.out.trans (hb4.mono (by rw [HGE.out]; exact HG.out)))
  clear hvs hc4 hk4 hb4 HN3 HB3 o0 o1 o2 o3 o4
  go_wp2_with fail
  go_loopg [13] 100 (fun kq v13 w' => ∃ (i : Nat) (t : Int) (wt : Bool) (body : ByteArray) (vs : List S70) (okN : Nat → Prop), v13 = .int .i64 (i : Int) ∧ Hid (i + kq = 100) ∧ Hid (ClientAt w' g okN g f 3 t wt body vs) ∧ Hid (∀ v ∈ vs, v.f0 ∈ lr) ∧ Hid (vs.length ≤ i) ∧ Hid (Below w.heap.size w w'))
  case atStart => exact ⟨0, t, wt, body, [], _, rfl, Lib.hid (by omega), HN4, Lib.hid (by simp), Lib.hid (by simp), HB4⟩
  case round =>
    clear HN4 HB4
    obtain ⟨i, t, wt, body, vs, okN, rfl, HI, HN, HV, HVL, HB⟩ := hrel
    by_cases hin : i < ms.length ∧ i < 100
    rotate_left
    · have hx : decide (i < ms.length) = false ∨ (decide (i < ms.length) = true ∧ decide ((i : Int) < 100) = false) := by
        by_cases h1 : i < ms.length
        · exact .inr ⟨by simpa using h1, by simp; omega⟩
        · exact .inl (by simpa using h1)
      clear hin
      rcases hx with t1 | ⟨t1, t2⟩
      all_goals
        go_wp2
        go_ret
        exact ⟨rfl, HB.out⟩
    obtain ⟨hi1, hi2⟩ := hin
    have t1 : decide (i < ms.length) = true := by simpa using hi1
    have t2 : decide ((i : Int) < 100) = true := by simp; omega
    cases gk with
    | zero => have := HI.out; omega
    | succ k1 =>
    obtain ⟨ad, rfl, m, A6, c6, A7, c7, hfr, hrow, x0, x1, x2, x3, x4, x5, x6⟩ := Msgs.get (HM.out.below HB.out) (i : Int) (by omega) (by omega)
    rw [Int.toNat_natCast] at x0 x1 x2 x3 x4 x5 x6
    have hwi : wrap64 ((i : Int) + 1) = ((i + 1 : Nat) : Int) := by unfold wrap64; omega
    have HFR := Lib.hid hfr
    have HROW := Lib.hid hrow
    have HI2 := Lib.hid hi2
    clear hfr hrow
    go_wp2_with fail
    obtain ⟨bm, hbm⟩ : ∃ bm, bm = wr.heap.size := ⟨_, rfl⟩
    have hX := heap_alloc_new wr (.cells #[.int .i64 m.kd, .int .i64 m.fr, .int .i64 m.vw, .int .i64 m.sq, .string m.bd, .slice A6 m.ps.length c6, .slice A7 m.cs.length c7] 37)
    have hBa : Below wr.heap.size wr (wr.alloc (.cells #[.int .i64 m.kd, .int .i64 m.fr, .int .i64 m.vw, .int .i64 m.sq, .string m.bd, .slice A6 m.ps.length c6, .slice A7 m.cs.length c7] 37)) := (Below.refl _ wr).alloc (Nat.le_refl _) _
    generalize wr.alloc (.cells #[.int .i64 m.kd, .int .i64 m.fr, .int .i64 m.vw, .int .i64 m.sq, .string m.bd, .slice A6 m.ps.length c6, .slice A7 m.cs.length c7] 37) = wb at hX hBa ⊢
    rw [← hbm] at hX ⊢
    refine (becketref12_Short.calls 1000 m.kd m.fr m.vw m.sq m.bd A6 c6 m.ps A7 c7 m.cs (CliP.shortM m.bd m.ps m.cs) wb (Kd.C_below HROW.out.2.1 hBa) HROW.out.1 (Kd.C_below HROW.out.2.2.2 hBa) HROW.out.2.2.1 (CliP.Short_f _ _ _ _ _ _ _ 1000 (by decide))).mono ?_
    rintro e w5 ⟨rfl, hb5⟩
    have hX5 := blk_below hX hb5
    have hB5 := hBa.trans (hb5.mono hBa.size)
    have HN5 : Hid (ClientAt w5 g (fun k => okN k ∧ g ≤ k ∧ k < bm) g f 3 t wt body vs) := Lib.hid (by rw [hbm]; exact HN.out.bound.below hB5)
    have HB5 := Lib.hid (HB.out.trans (hB5.mono HB.out.size))
    have HX5 := Lib.hid hX5
    have HGB : Hid (g < bm) := Lib.hid (by rw [hbm]; exact HN.out.glt)
    have HWG : Hid (w.heap.size ≤ g) := Lib.hid (by rw [HGE.out]; exact HG.out)
    have m0 : w5.cell? ⟨bm, 0, none⟩ = some (.int .i64 m.kd) := (blk_cell hX5 0).trans rfl
    have m1 : w5.cell? ⟨bm, 1, none⟩ = some (.int .i64 m.fr) := (blk_cell hX5 1).trans rfl
    have m2 : w5.cell? ⟨bm, 2, none⟩ = some (.int .i64 m.vw) := (blk_cell hX5 2).trans rfl
    have m3 : w5.cell? ⟨bm, 3, none⟩ = some (.int .i64 m.sq) := (blk_cell hX5 3).trans rfl
    have m4 : w5.cell? ⟨bm, 4, none⟩ = some (.string m.bd) := (blk_cell hX5 4).trans rfl
    have m5 : w5.cell? ⟨bm, 5, none⟩ = some (.slice A6 m.ps.length c6) := (blk_cell hX5 5).trans rfl
    have m6 : w5.cell? ⟨bm, 6, none⟩ = some (.slice A7 m.cs.length c7) := (blk_cell hX5 6).trans rfl
    clear hX hBa hb5 hX5 hB5 hbm HROW x0 x1 x2 x3 x4 x5 x6 HB HN t1 t2 hi1 hi2
    cases hs : CliP.shortM m.bd m.ps m.cs with
    | false =>
      clear hs
      go_wp2
      go_ret
      exact ⟨rfl, HB5.out⟩
    | true =>
    have HBD := Lib.hid (shortM_body hs)
    clear hs
    by_cases hz : lr.length = 0
    · have t3 : ((lr.length : Int) == 0) = true := by simpa using hz
      clear hz
      go_wp2
      go_ret
      exact ⟨rfl, HB5.out⟩
    have t3 : ((lr.length : Int) == 0) = false := by simpa using hz
    obtain ⟨r, hr, hpk⟩ := CliP.pick_f m.fr HFR.out lr.length (by omega)
    have HPK := Lib.hid hpk
    have HRL := Lib.hid hr
    clear hz hpk hr
    go_wp2_with fail
    refine (becketlaw19_pick.calls m.fr (lr.length : Int) (r : Int) w5 HPK.out).mono ?_
    rintro e w6 ⟨rfl, hd6⟩
    have hb6 := hd6.below
    have HX6 := Lib.hid (blk_below HX5.out hb6)
    have HN6 := Lib.hid (HN5.out.below hb6)
    have HB6 := Lib.hid (HB5.out.trans (hb6.mono HB5.out.size))
    clear hd6 hb6 m0 m1 m2 m3 m4 m5 m6 HX5 HN5 HB5 t3
    obtain ⟨al, rfl, hL⟩ := Kd.at_int (Kd.C_below HL.out HB6.out) (r : Int) (by omega) (by have := HRL.out; omega)
    rw [Int.toNat_natCast] at hL
    have hmem : rd lr (r : Int) ∈ lr := by
      have h1 := HRL.out
      have : rd lr (r : Int) = lr[r] := by simp [rd, h1]
      rw [this]
      exact List.getElem_mem _
    have HMEM := Lib.hid hmem
    generalize rd lr (r : Int) = who at hL hmem HMEM
    have t4 : decide (r < lr.length) = true := by have := HRL.out; simpa using this
    have m0 : w6.cell? ⟨bm, 0, none⟩ = some (.int .i64 m.kd) := (blk_cell HX6.out 0).trans rfl
    have m1 : w6.cell? ⟨bm, 1, none⟩ = some (.int .i64 m.fr) := (blk_cell HX6.out 1).trans rfl
    have m2 : w6.cell? ⟨bm, 2, none⟩ = some (.int .i64 m.vw) := (blk_cell HX6.out 2).trans rfl
    have m3 : w6.cell? ⟨bm, 3, none⟩ = some (.int .i64 m.sq) := (blk_cell HX6.out 3).trans rfl
    have m4 : w6.cell? ⟨bm, 4, none⟩ = some (.string m.bd) := (blk_cell HX6.out 4).trans rfl
    have m5 : w6.cell? ⟨bm, 5, none⟩ = some (.slice A6 m.ps.length c6) := (blk_cell HX6.out 5).trans rfl
    have m6 : w6.cell? ⟨bm, 6, none⟩ = some (.slice A7 m.cs.length c7) := (blk_cell HX6.out 6).trans rfl
    have fz := blk_frozen HX6.out 1
    clear hmem
    go_wp2_with fail
    have hK7 : Kept w6 (w6.setCell ⟨bm, 1, none⟩ (.int .i64 who)) (fun k => k = bm) := Kept.setCell (p := ⟨bm, 1, none⟩) (Kept.refl w6 (fun k => k = bm)) (.inl rfl) _
    have hB7 : Below w.heap.size w (w6.setCell ⟨bm, 1, none⟩ (.int .i64 who)) := Below.setCell (p := ⟨bm, 1, none⟩) HB6.out (by have := HGB.out; have := HWG.out; show w.heap.size ≤ bm; omega) _
    clear m0 m1 m2 m3 m4 m5 m6 fz hL t4
    generalize w6.setCell ⟨bm, 1, none⟩ (.int .i64 who) = w7 at hK7 hB7 ⊢
    have HN7 := Lib.hid (HN6.out.kept hK7 (fun k hk e => by have := hk.2.2; omega))
    have HB7 := Lib.hid hB7
    clear hK7 hB7 HN6 HB6 HX6
    refine (client_On w7 g _ g f 3 t wt body vs HN7.out (by have := HN7.out.glt; omega) ⟨HF.out.1, HF.out.2.1⟩ (by have := HVL.out; have := HI2.out; omega) m.kd who m.vw m.sq m.bd HBD.out A6 m.ps.length c6 A7 m.cs.length c7).mono ?_
    rintro e w8 ⟨is, av, vs', rfl, hc8, hno, hyes, hz, htk⟩
    have hvs : (∀ v ∈ vs', v.f0 ∈ lr) ∧ vs'.length ≤ i + 1 := by
      cases ht : onTake f t wt vs m.kd who m.sq with
      | false =>
        rw [(hno ht).2]
        exact ⟨HV.out, by have := HVL.out; omega⟩
      | true =>
        rw [hyes ht]
        refine ⟨fun v hv => ?_, by have := HVL.out; simp; omega⟩
        rcases List.mem_append.1 hv with h | h
        · exact HV.out v h
        · rw [List.mem_singleton] at h
          rw [h]
          exact HMEM.out
    cases is with
    | true =>
      exfalso
      obtain ⟨_, h1, _⟩ := htk rfl
      have := few_who m.bd vs' lr hvs.1
      have := HF.out
      omega
    | false =>
    obtain rfl := hz rfl
    have HN8 := Lib.hid hc8.1
    have HB8 := Lib.hid (HB7.out.trans (hc8.2.2.mono HWG.out))
    have HVS := Lib.hid hvs
    clear hc8 hno hyes hz htk hvs HN7 HB7
    unfold accZ
    go_wp2_with fail
    go_roundg k1
    case measure => omega
    case rel => exact ⟨i + 1, t, _, body, vs', _, by first | (rw [hwi]; done) | (simp; done), Lib.hid (by have := HI.out; omega), Lib.hid (HN8.out.below ((Below.refl _ w8).alloc (Nat.le_refl _) _)), Lib.hid HVS.out.1, Lib.hid HVS.out.2, Lib.hid (HB8.out.alloc HB8.out.size _)⟩
end Go.Proofs.YtlcfcaokihoplaaDoor.Cli
