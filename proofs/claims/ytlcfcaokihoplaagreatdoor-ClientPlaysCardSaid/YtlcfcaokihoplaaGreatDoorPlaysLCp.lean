-- Cut.
import Derived.Test.YtlcfcaokihoplaaGreatDoorPlaysOCp
namespace Go.Proofs.YtlcfcaokihoplaaGreatDoor.Cli
open Go.RowKit Go.Proofs.YtlcfcaokihoplaaGreatDoor.Ms Go.Proofs.YzW.PrintWords Go.Proofs.YzW.PrintLast Go.Proofs.YzW.PrintMore
attribute [local go_sem] Go.Proofs.YtlcfcaokihoplaaGreatDoor.Ms.eqlErr Go.Proofs.YtlcfcaokihoplaaGreatDoor.Ms.neqErr Go.Proofs.YtlcfcaokihoplaaGreatDoor.Ms.eqlErrNil Go.Proofs.YtlcfcaokihoplaaGreatDoor.Ms.neqErrNil
set_option linter.unusedVariables false
set_option linter.unusedSimpArgs false
set_option maxHeartbeats 32000000 in
set_option maxRecDepth 100000 in
theorem plays_calls (f id : Int) (A2 : Option Addr) (c2 : Nat) (ds : List DG) (w : World) (hD : Deeds w A2 ds.length ds) :
  Calls Tryz.prog 3 #[.int .i64 f, .int .i64 id, .slice A2 ds.length c2] w fun e w' => e = .returned (.bool true) ∧ Below w.heap.size w w' := by
 have HD := Lib.hid hD
 clear hD
 go_enter Tryz.func3, Tryz.ntmps3
 go_wp2_with fail
 refine (up_calls _).mono ?_
 rintro e w1 ⟨rfl, hb1⟩
 have HB1 := Lib.hid hb1
 clear hb1
 by_cases hno : f < 1 ∨ 4 < f ∨ id < 0 ∨ 7 < id
 ·have t : decide (f < 1) = true ∨ (decide (f < 1) = false ∧ decide (4 < f) = true) ∨ (decide (f < 1) = false ∧ decide (4 < f) = false ∧ decide (id < 0) = true) ∨ (decide (f < 1) = false ∧ decide (4 < f) = false ∧ decide (id < 0) = false ∧ decide (7 < id) = true) := by
   by_cases a : f < 1
   ·exact .inl (by simpa using a)
   by_cases b : 4 < f
   ·exact .inr (.inl ⟨by simpa using a, by simpa using b⟩)
   by_cases c : id < 0
   ·exact .inr (.inr (.inl ⟨by simpa using a, by simpa using b, by simpa using c⟩))
   ·exact .inr (.inr (.inr ⟨by simpa using a, by simpa using b, by simpa using c, by simp; omega⟩))
  have HNO := Lib.hid hno
  clear hno
  go_wp2_with fail
  refine (client_New_no w1 f id HNO.out).mono ?_
  rintro e w2 ⟨rfl, hb2⟩
  have HB2 := Lib.hid (HB1.out.trans (hb2.mono HB1.out.size))
  clear hb2
  rcases t with t1 | ⟨t1, t2⟩ | ⟨t1, t2, t3⟩ | ⟨t1, t2, t3, t4⟩
  all_goals
   go_wp2
   go_ret
   exact ⟨rfl, HB2.out⟩
 have t1 : decide (f < 1) = false := by simp; omega
 have t2 : decide (4 < f) = false := by simp; omega
 have t3 : decide (id < 0) = false := by simp; omega
 have t4 : decide (7 < id) = false := by simp; omega
 have HF : Hid (1 ≤ f ∧ f ≤ 4) := Lib.hid (by omega)
 have HI : Hid (0 ≤ id ∧ id ≤ 7) := Lib.hid (by omega)
 clear hno
 go_wp2_with fail
 refine (client_New w1 f id HF.out.1 HF.out.2 HI.out.1 HI.out.2).mono ?_
 rintro e w3 ⟨rfl, hn3, hb3⟩
 have HN3 := Lib.hid hn3
 have HB3 := Lib.hid (HB1.out.trans (hb3.mono HB1.out.size))
 have HG : Hid (w.heap.size ≤ w1.heap.size) := Lib.hid HB1.out.size
 obtain ⟨gC, hg⟩ : ∃ gC, gC = w1.heap.size := ⟨_, rfl⟩
 rw [← hg] at HN3 ⊢
 have HGC : Hid (w.heap.size ≤ gC) := Lib.hid (by rw [hg]; exact HG.out)
 clear hn3 hb3 HB1 hg HG
 go_wp2_with fail
 obtain ⟨gM, hgM⟩ : ∃ gM, gM = w3.heap.size := ⟨_, rfl⟩
 have hX := heap_alloc_new w3 (.cells #[.int .i64 f, .int .i64 id, .int .i64 0, .bool false, .string ⟨#[]⟩, .slice none 0 0, .slice none 0 0] 34)
 have hBa : Below w3.heap.size w3 (w3.alloc (.cells #[.int .i64 f, .int .i64 id, .int .i64 0, .bool false, .string ⟨#[]⟩, .slice none 0 0, .slice none 0 0] 34)) := (Below.refl _ w3).alloc (Nat.le_refl _) _
 have hs4 : (w3.alloc (.cells #[.int .i64 f, .int .i64 id, .int .i64 0, .bool false, .string ⟨#[]⟩, .slice none 0 0, .slice none 0 0] 34)).heap.size = w3.heap.size + 1 := by simp
 generalize w3.alloc (.cells #[.int .i64 f, .int .i64 id, .int .i64 0, .bool false, .string ⟨#[]⟩, .slice none 0 0, .slice none 0 0] 34) = w4 at hX hBa hs4 ⊢
 rw [← hgM] at hX hs4 ⊢
 have hglt := HN3.out.glt
 have HBO : Hid (Both w4 gC gM (fun k => k < w4.heap.size) f id 0 false ⟨#[]⟩ [] 0 false ⟨#[]⟩ [] []) := Lib.hid ⟨fun k => k = gC, fun k => k = gM, HN3.out.below hBa, ⟨Nat.le_refl _, rfl, by simp, by simp, .slice none 0 0, .slice none 0 0, hX, Kd.R_nil _ _ _ _ _, Kd.R_nil _ _ _ _ _⟩, fun k hk => by have h1 : k = gC := hk; omega, fun k hk => by have h1 : k = gM := hk; omega, fun k hk hk' => by have h1 : k = gC := hk; have h2 : k = gM := hk'; omega⟩
 have HB4 := Lib.hid (HB3.out.trans (hBa.mono HB3.out.size))
 have HGM : Hid (w.heap.size ≤ gM) := Lib.hid (by rw [hgM]; exact HB3.out.size)
 clear hX hBa hs4 hglt hgM HN3 HB3 t1 t2 t3 t4
 go_loopg [11] 80 (fun kq v11 w' => ∃ (i : Nat) (t : Int) (wt : Bool) (body : ByteArray) (vs : List S80), v11 = .int .i64 (i : Int) ∧ Hid (i + kq = 80) ∧ Hid (0 ≤ t ∧ t ≤ i) ∧ Hid (Both w' gC gM (fun k => k < w'.heap.size) f id t wt body vs t wt body (vs.map fun v => v.f0) (vs.map fun v => v.f1)) ∧ Hid ((vs.map fun v => v.f0).Nodup) ∧ Hid (vs.length ≤ i) ∧ Hid (Below w.heap.size w w'))
 case atStart => exact ⟨0, 0, false, _, [], rfl, Lib.hid (by omega), Lib.hid (by omega), HBO, Lib.hid (by simp), Lib.hid (by simp), HB4⟩
 case round =>
  clear HBO HB4
  obtain ⟨i, t, wt, body, vs, rfl, HI80, HT, HBO, HND, HVL, HB⟩ := hrel
  by_cases hin : i < ds.length ∧ i < 80
  rotate_left
  ·have hx : decide (i < ds.length) = false ∨ (decide (i < ds.length) = true ∧ decide ((i : Int) < 80) = false) := by
    by_cases h1 : i < ds.length
    ·exact .inr ⟨by simpa using h1, by simp; omega⟩
    ·exact .inl (by simpa using h1)
   clear hin
   rcases hx with t1 | ⟨t1, t2⟩
   all_goals
    go_wp2
    go_ret
    exact ⟨rfl, HB.out⟩
  obtain ⟨hi1, hi2⟩ := hin
  have t1 : decide (i < ds.length) = true := by simpa using hi1
  have t2 : decide ((i : Int) < 80) = true := by simp; omega
  cases gk with
  | zero => have := HI80.out; omega
  | succ k1 =>
  obtain ⟨ad, rfl, d, A0, c0, A6, c6, A7, c7, hwh, hks, hps, hcs, x0, hx⟩ := Deeds.get (ch_.imp_ HD.out HB.out (fun _ _ h => h)) (i : Int) (by omega) (by omega)
  rw [Int.toNat_natCast] at x0 hx
  have x1 : wr.cell? ⟨(ad.add (i * 13)).block, (ad.add (i * 13)).off + 1, none⟩ = some (.int .i64 d.kd) := hx 0 _ rfl
  have x2 : wr.cell? ⟨(ad.add (i * 13)).block, (ad.add (i * 13)).off + 2, none⟩ = some (.string d.nm) := hx 1 _ rfl
  have x3 : wr.cell? ⟨(ad.add (i * 13)).block, (ad.add (i * 13)).off + 3, none⟩ = some (.string d.pt) := hx 2 _ rfl
  have x4 : wr.cell? ⟨(ad.add (i * 13)).block, (ad.add (i * 13)).off + 4, none⟩ = some (.slice A0 d.ks.length c0) := hx 3 _ rfl
  have x5 : wr.cell? ⟨(ad.add (i * 13)).block, (ad.add (i * 13)).off + 5, none⟩ = some (.int .i64 d.n) := hx 4 _ rfl
  have x6 : wr.cell? ⟨(ad.add (i * 13)).block, (ad.add (i * 13)).off + 6, none⟩ = some (.int .i64 d.m.kd) := hx 5 _ rfl
  have x7 : wr.cell? ⟨(ad.add (i * 13)).block, (ad.add (i * 13)).off + 7, none⟩ = some (.int .i64 d.m.fr) := hx 6 _ rfl
  have x8 : wr.cell? ⟨(ad.add (i * 13)).block, (ad.add (i * 13)).off + 8, none⟩ = some (.int .i64 d.m.vw) := hx 7 _ rfl
  have x9 : wr.cell? ⟨(ad.add (i * 13)).block, (ad.add (i * 13)).off + 9, none⟩ = some (.int .i64 d.m.sq) := hx 8 _ rfl
  have x10 : wr.cell? ⟨(ad.add (i * 13)).block, (ad.add (i * 13)).off + 10, none⟩ = some (.string d.m.bd) := hx 9 _ rfl
  have x11 : wr.cell? ⟨(ad.add (i * 13)).block, (ad.add (i * 13)).off + 11, none⟩ = some (.slice A6 d.m.ps.length c6) := hx 10 _ rfl
  have x12 : wr.cell? ⟨(ad.add (i * 13)).block, (ad.add (i * 13)).off + 12, none⟩ = some (.slice A7 d.m.cs.length c7) := hx 11 _ rfl
  have hwi : wrap64 ((i : Int) + 1) = ((i + 1 : Nat) : Int) := by unfold wrap64; omega
  have HWH := Lib.hid hwh
  have HKS := Lib.hid hks
  have HPS := Lib.hid hps
  have HCS := Lib.hid hcs
  have HI2 := Lib.hid hi2
  clear hwh hks hps hcs hx
  go_wp2_with fail
  obtain ⟨bd, hbd⟩ : ∃ bd, bd = wr.heap.size := ⟨_, rfl⟩
  have hX := heap_alloc_new wr (.cells #[.int .i64 d.what, .int .i64 d.kd, .string d.nm, .string d.pt, .slice A0 d.ks.length c0, .int .i64 d.n, .int .i64 d.m.kd, .int .i64 d.m.fr, .int .i64 d.m.vw, .int .i64 d.m.sq, .string d.m.bd, .slice A6 d.m.ps.length c6, .slice A7 d.m.cs.length c7] 42)
  have hBa : Below wr.heap.size wr (wr.alloc (.cells #[.int .i64 d.what, .int .i64 d.kd, .string d.nm, .string d.pt, .slice A0 d.ks.length c0, .int .i64 d.n, .int .i64 d.m.kd, .int .i64 d.m.fr, .int .i64 d.m.vw, .int .i64 d.m.sq, .string d.m.bd, .slice A6 d.m.ps.length c6, .slice A7 d.m.cs.length c7] 42)) := (Below.refl _ wr).alloc (Nat.le_refl _) _
  generalize wr.alloc (.cells #[.int .i64 d.what, .int .i64 d.kd, .string d.nm, .string d.pt, .slice A0 d.ks.length c0, .int .i64 d.n, .int .i64 d.m.kd, .int .i64 d.m.fr, .int .i64 d.m.vw, .int .i64 d.m.sq, .string d.m.bd, .slice A6 d.m.ps.length c6, .slice A7 d.m.cs.length c7] 42) = wb at hX hBa ⊢
  rw [← hbd] at hX ⊢
  refine (ao_.calls 1000 d.kd d.nm d.pt A0 c0 d.ks d.n (PureO.shortB d.nm d.pt d.ks) wb (Kd.C_below HKS.out.2 (HB.out.trans (hBa.mono HB.out.size))) HKS.out.1 (PureO.short_f 1000 d.kd d.n d.nm d.pt d.ks (by decide))).mono ?_
  rintro e w5 ⟨rfl, hb5⟩
  have hX5 := s_ hX hb5
  have hB5 := hBa.trans (hb5.mono hBa.size)
  have HX5 := Lib.hid hX5
  have HBr5 := Lib.hid hB5
  have HBD := Lib.hid hbd
  clear hX hBa hb5 hB5 hbd x0 x1 x2 x3 x4 x5 x6 x7 x8 x9 x10 x11 x12 t1 t2 hi1 hi2
  have d0 : w5.cell? ⟨bd, 0, none⟩ = some (.int .i64 d.what) := (b_ hX5 0).trans rfl
  have d1 : w5.cell? ⟨bd, 1, none⟩ = some (.int .i64 d.kd) := (b_ hX5 1).trans rfl
  have d2 : w5.cell? ⟨bd, 2, none⟩ = some (.string d.nm) := (b_ hX5 2).trans rfl
  have d3 : w5.cell? ⟨bd, 3, none⟩ = some (.string d.pt) := (b_ hX5 3).trans rfl
  have d4 : w5.cell? ⟨bd, 4, none⟩ = some (.slice A0 d.ks.length c0) := (b_ hX5 4).trans rfl
  have d5 : w5.cell? ⟨bd, 5, none⟩ = some (.int .i64 d.n) := (b_ hX5 5).trans rfl
  have d6 : w5.cell? ⟨bd, 6, none⟩ = some (.int .i64 d.m.kd) := (b_ hX5 6).trans rfl
  have d7 : w5.cell? ⟨bd, 7, none⟩ = some (.int .i64 d.m.fr) := (b_ hX5 7).trans rfl
  have d8 : w5.cell? ⟨bd, 8, none⟩ = some (.int .i64 d.m.vw) := (b_ hX5 8).trans rfl
  have d9 : w5.cell? ⟨bd, 9, none⟩ = some (.int .i64 d.m.sq) := (b_ hX5 9).trans rfl
  have d10 : w5.cell? ⟨bd, 10, none⟩ = some (.string d.m.bd) := (b_ hX5 10).trans rfl
  have d11 : w5.cell? ⟨bd, 11, none⟩ = some (.slice A6 d.m.ps.length c6) := (b_ hX5 11).trans rfl
  have d12 : w5.cell? ⟨bd, 12, none⟩ = some (.slice A7 d.m.cs.length c7) := (b_ hX5 12).trans rfl
  clear hX5
  go_wp2_with fail
  refine (ai_.calls 1000 d.m.kd d.m.fr d.m.vw d.m.sq d.m.bd A6 c6 d.m.ps A7 c7 d.m.cs (CliP.shortM d.m.bd d.m.ps d.m.cs) w5 (Kd.C_below HPS.out.2 (HB.out.trans (HBr5.out.mono HB.out.size))) HPS.out.1 (Kd.C_below HCS.out.2 (HB.out.trans (HBr5.out.mono HB.out.size))) HCS.out.1 (CliP.Short_f _ _ _ _ _ _ _ 1000 (by decide))).mono ?_
  rintro e w6 ⟨rfl, hb6⟩
  have hB6 := HBr5.out.trans (hb6.mono HBr5.out.size)
  have hX6 := s_ HX5.out hb6
  have HX6 := Lib.hid hX6
  have HBO6 : Hid (Both w6 gC gM (fun k => k < bd) f id t wt body vs t wt body (vs.map fun v => v.f0) (vs.map fun v => v.f1)) := Lib.hid (by rw [HBD.out]; exact HBO.out.below hB6)
  have HB6 := Lib.hid (HB.out.trans (hB6.mono HB.out.size))
  have HKS6 := Lib.hid (Kd.C_below HKS.out.2 HB6.out)
  clear d0 d1 d2 d3 d4 d5 d6 d7 d8 d9 d10 d11 d12 hb6 hB6 HX5 HBr5 HBO HB HBD
  by_cases hsh : PureO.shortB d.nm d.pt d.ks = true ∧ CliP.shortM d.m.bd d.m.ps d.m.cs = true
  rotate_left
  ·have hq : PureO.shortB d.nm d.pt d.ks = false ∨ (PureO.shortB d.nm d.pt d.ks = true ∧ CliP.shortM d.m.bd d.m.ps d.m.cs = false) := by
    cases h1 : PureO.shortB d.nm d.pt d.ks with
    | false => exact .inl rfl
    | true => exact .inr ⟨rfl, by cases h2 : CliP.shortM d.m.bd d.m.ps d.m.cs with | false => rfl | true => exact absurd ⟨h1, h2⟩ hsh⟩
   clear hsh hX6
   rcases hq with q1 | ⟨q1, q2⟩
   all_goals
    rw [q1]
    try rw [q2]
    go_wp2
    go_ret
    exact ⟨rfl, HB6.out⟩
  obtain ⟨q1, q2⟩ := hsh
  have HSH := Lib.hid (PureO.shortB_iff q1)
  have HSB := Lib.hid (shortM_body q2)
  rw [q1, q2]
  clear q1 q2
  obtain ⟨r, hr, hpk⟩ := CliP.pick_f d.what HWH.out 5 (by decide)
  have HPK := Lib.hid hpk
  clear hpk
  have d0 : w6.cell? ⟨bd, 0, none⟩ = some (.int .i64 d.what) := (b_ hX6 0).trans rfl
  have d1 : w6.cell? ⟨bd, 1, none⟩ = some (.int .i64 d.kd) := (b_ hX6 1).trans rfl
  have d2 : w6.cell? ⟨bd, 2, none⟩ = some (.string d.nm) := (b_ hX6 2).trans rfl
  have d3 : w6.cell? ⟨bd, 3, none⟩ = some (.string d.pt) := (b_ hX6 3).trans rfl
  have d4 : w6.cell? ⟨bd, 4, none⟩ = some (.slice A0 d.ks.length c0) := (b_ hX6 4).trans rfl
  have d5 : w6.cell? ⟨bd, 5, none⟩ = some (.int .i64 d.n) := (b_ hX6 5).trans rfl
  have d6 : w6.cell? ⟨bd, 6, none⟩ = some (.int .i64 d.m.kd) := (b_ hX6 6).trans rfl
  have d7 : w6.cell? ⟨bd, 7, none⟩ = some (.int .i64 d.m.fr) := (b_ hX6 7).trans rfl
  have d8 : w6.cell? ⟨bd, 8, none⟩ = some (.int .i64 d.m.vw) := (b_ hX6 8).trans rfl
  have d9 : w6.cell? ⟨bd, 9, none⟩ = some (.int .i64 d.m.sq) := (b_ hX6 9).trans rfl
  have d10 : w6.cell? ⟨bd, 10, none⟩ = some (.string d.m.bd) := (b_ hX6 10).trans rfl
  have d11 : w6.cell? ⟨bd, 11, none⟩ = some (.slice A6 d.m.ps.length c6) := (b_ hX6 11).trans rfl
  have d12 : w6.cell? ⟨bd, 12, none⟩ = some (.slice A7 d.m.cs.length c7) := (b_ hX6 12).trans rfl
  clear hX6
  go_wp2_with fail
  refine (dk_.calls d.what 5 (r : Int) w6 HPK.out).mono ?_
  rintro e w7 ⟨rfl, hd7⟩
  have hb7 := hd7.below
  have hX7 := s_ HX6.out hb7
  have HX7 := Lib.hid hX7
  have HBO7 := Lib.hid (HBO6.out.below hb7)
  have HS7 : Hid (bd < w7.heap.size) := Lib.hid (bj_ hX7)
  have HB7 := Lib.hid (HB6.out.trans (hb7.mono HB6.out.size))
  have HKS7 := Lib.hid (Kd.C_below HKS6.out hb7)
  clear hd7 hb7 d0 d1 d2 d3 d4 d5 d6 d7 d8 d9 d10 d11 d12 HX6 HBO6 HB6 HKS6
  have d0 : w7.cell? ⟨bd, 0, none⟩ = some (.int .i64 d.what) := (b_ hX7 0).trans rfl
  have d1 : w7.cell? ⟨bd, 1, none⟩ = some (.int .i64 d.kd) := (b_ hX7 1).trans rfl
  have d2 : w7.cell? ⟨bd, 2, none⟩ = some (.string d.nm) := (b_ hX7 2).trans rfl
  have d3 : w7.cell? ⟨bd, 3, none⟩ = some (.string d.pt) := (b_ hX7 3).trans rfl
  have d4 : w7.cell? ⟨bd, 4, none⟩ = some (.slice A0 d.ks.length c0) := (b_ hX7 4).trans rfl
  have d5 : w7.cell? ⟨bd, 5, none⟩ = some (.int .i64 d.n) := (b_ hX7 5).trans rfl
  have d6 : w7.cell? ⟨bd, 6, none⟩ = some (.int .i64 d.m.kd) := (b_ hX7 6).trans rfl
  have d7 : w7.cell? ⟨bd, 7, none⟩ = some (.int .i64 d.m.fr) := (b_ hX7 7).trans rfl
  have d8 : w7.cell? ⟨bd, 8, none⟩ = some (.int .i64 d.m.vw) := (b_ hX7 8).trans rfl
  have d9 : w7.cell? ⟨bd, 9, none⟩ = some (.int .i64 d.m.sq) := (b_ hX7 9).trans rfl
  have d10 : w7.cell? ⟨bd, 10, none⟩ = some (.string d.m.bd) := (b_ hX7 10).trans rfl
  have d11 : w7.cell? ⟨bd, 11, none⟩ = some (.slice A6 d.m.ps.length c6) := (b_ hX7 11).trans rfl
  have d12 : w7.cell? ⟨bd, 12, none⟩ = some (.slice A7 d.m.cs.length c7) := (b_ hX7 12).trans rfl
  clear hX7
  by_cases hr0 : r = 0
  ·subst hr0
   clear d6 d7 d8 d9 d10 d11 d12 hr
   go_wp2_with fail
   have HT8 := HT.out
   have HI8 := HI2.out
   obtain ⟨okC, hC, hgC, hto⟩ := HBO7.out.c
   have HTO := Lib.hid hto
   clear hto
   refine (client_Ask w7 gC okC gC f id t wt body vs hC (by omega) d.kd d.n d.nm d.pt A0 c0 d.ks HKS7.out HKS.out.1 (by have := HSH.out; omega) (by have := HSH.out; omega) HSH.out.2.2.1 (fun x hx => by have := HSH.out.2.2.2 x hx; omega)).mono ?_
   clear hC
   rintro e w8 (⟨hask, rfl, hc8⟩ | ⟨er, hask, rfl, hc8⟩)
   ·obtain ⟨hb8, hk8, hl8⟩ := HTO.out _ _ _ _ _ hc8
    have hX8 := dd_ HX7.out hk8 (by omega)
    have HX8 := Lib.hid hX8
    have hlt8 := bj_ hX8
    have HBO8 := Lib.hid hb8.bound
    have HB8 := Lib.hid (HB7.out.trans (hl8.mono HGC.out))
    have e1 : w8.cell? ⟨bd, 1, none⟩ = some (.int .i64 d.kd) := (b_ hX8 1).trans rfl
    have e2 : w8.cell? ⟨bd, 2, none⟩ = some (.string d.nm) := (b_ hX8 2).trans rfl
    have e3 : w8.cell? ⟨bd, 3, none⟩ = some (.string d.pt) := (b_ hX8 3).trans rfl
    have e4 : w8.cell? ⟨bd, 4, none⟩ = some (.slice A0 d.ks.length c0) := (b_ hX8 4).trans rfl
    have e5 : w8.cell? ⟨bd, 5, none⟩ = some (.int .i64 d.n) := (b_ hX8 5).trans rfl
    have HASK := Lib.hid hask
    clear hc8 hb8 hk8 hl8 hask HTO HBO7 HB7 HKS7 HX7 hX8 d0 d1 d2 d3 d4 d5
    unfold msgQ
    go_wp2_with fail
    obtain ⟨nb, hnb⟩ : ∃ nb, nb = newBody id t d.kd d.n d.nm d.pt d.ks := ⟨_, rfl⟩
    have HNB := Lib.hid hnb
    rw [← hnb] at HBO8 ⊢
    clear hnb
    obtain ⟨bx, hbx⟩ : ∃ bx, bx = w8.heap.size := ⟨_, rfl⟩
    have hXx := heap_alloc_new w8 (.cells #[.int .i64 1, .int .i64 id, .int .i64 0, .int .i64 0, .string nb, .slice none 0 0, .slice none 0 0] 40)
    have hBx : Below w8.heap.size w8 (w8.alloc (.cells #[.int .i64 1, .int .i64 id, .int .i64 0, .int .i64 0, .string nb, .slice none 0 0, .slice none 0 0] 40)) := (Below.refl _ w8).alloc (Nat.le_refl _) _
    generalize w8.alloc (.cells #[.int .i64 1, .int .i64 id, .int .i64 0, .int .i64 0, .string nb, .slice none 0 0, .slice none 0 0] 40) = wx at hXx hBx ⊢
    rw [← hbx] at hXx HBO8 ⊢
    have HXx := Lib.hid hXx
    have HBOx := HBO8.out.below hBx
    have HBx := Lib.hid (HB8.out.trans (hBx.mono HB8.out.size))
    obtain ⟨okR, hR, hgR, hto⟩ := HBOx.m
    have HTO := Lib.hid hto
    clear hto hXx hBx hbx HBO8 HB8 e1 e2 e3 e4 e5 hlt8 HBOx
    refine (ref_Ask wx gM okR gM f id t wt body _ _ hR (by omega) d.kd d.n d.nm d.pt A0 c0 d.ks (fun W hW => Kd.C_below HKS.out.2 (HBx.out.trans (hW.mono HGM.out))) HKS.out.1 (by have := HSH.out; omega) (by have := HSH.out; omega) HSH.out.2.2.1 (fun x hx => by have := HSH.out.2.2.2 x hx; omega)).mono ?_
    clear hR
    rintro e w9 (⟨_, rfl, hc9⟩ | ⟨er, hask', _, _⟩)
    rotate_left
    ·rw [HASK.out] at hask'
     cases hask'
    rw [← HNB.out] at hc9 ⊢
    obtain ⟨hb9, hk9, hl9⟩ := HTO.out _ _ _ _ _ _ hc9
    have hX9 := dd_ HXx.out hk9 (by omega)
    have HX9 := Lib.hid hX9
    have hlt9 := bj_ hX9
    have HBO9 := Lib.hid hb9.bound
    have HB9 := Lib.hid (HBx.out.trans (hl9.mono HGM.out))
    have x0 : w9.cell? ⟨bx, 0, none⟩ = some (.int .i64 1) := (b_ hX9 0).trans rfl
    have x1 : w9.cell? ⟨bx, 1, none⟩ = some (.int .i64 id) := (b_ hX9 1).trans rfl
    have x2 : w9.cell? ⟨bx, 2, none⟩ = some (.int .i64 0) := (b_ hX9 2).trans rfl
    have x3 : w9.cell? ⟨bx, 3, none⟩ = some (.int .i64 0) := (b_ hX9 3).trans rfl
    have x4 : w9.cell? ⟨bx, 4, none⟩ = some (.string nb) := (b_ hX9 4).trans rfl
    have x5 : w9.cell? ⟨bx, 5, none⟩ = some (.slice none 0 0) := (b_ hX9 5).trans rfl
    have x6 : w9.cell? ⟨bx, 6, none⟩ = some (.slice none 0 0) := (b_ hX9 6).trans rfl
    clear hc9 hb9 hk9 hl9 HTO HBx HXx hX9
    unfold msgQ
    go_wp2_with fail
    refine (same_nil _ 1 id 0 0 nb).mono ?_
    rintro e w10 ⟨rfl, hb10⟩
    have hba := (Below.refl w9.heap.size w9).alloc (Nat.le_refl _) (.cells #[.int .i64 1, .int .i64 id, .int .i64 0, .int .i64 0, .string nb, .slice none 0 0, .slice none 0 0] 40)
    have hb910 := hba.trans (hb10.mono hba.size)
    have hs910 := hb910.size
    have HBO10 : Hid (Both w10 gC gM (fun k => k < w10.heap.size) f id (t + 1) true nb [] (t + 1) true nb [] []) := Lib.hid ((HBO9.out.below hb910).mono (fun k hk => by have h1 : k < w9.heap.size := hk; omega))
    have HB10 := Lib.hid (HB9.out.trans (hb910.mono HB9.out.size))
    clear hba hb910 hs910 hb10 HBO9 HB9 x0 x1 x2 x3 x4 x5 x6 hlt9 HX9
    go_wp2_with fail
    refine (code_nil _).mono ?_
    rintro e w11 ⟨rfl, rfl⟩
    go_wp2_with fail
    go_roundg k1
    case measure => omega
    case rel => exact ⟨i + 1, t + 1, true, nb, [], by first | (rw [hwi]; done) | (simp; done), Lib.hid (by have := HI80.out; omega), Lib.hid (by have := HT.out; omega), HBO10, Lib.hid (by simp), Lib.hid (by simp), HB10⟩
   ·obtain ⟨hb8, hk8, hl8⟩ := HTO.out _ _ _ _ _ hc8
    have hX8 := dd_ HX7.out hk8 (by omega)
    have HX8 := Lib.hid hX8
    have hlt8 := bj_ hX8
    have HBO8 := Lib.hid hb8.bound
    have HB8 := Lib.hid (HB7.out.trans (hl8.mono HGC.out))
    have e1 : w8.cell? ⟨bd, 1, none⟩ = some (.int .i64 d.kd) := (b_ hX8 1).trans rfl
    have e2 : w8.cell? ⟨bd, 2, none⟩ = some (.string d.nm) := (b_ hX8 2).trans rfl
    have e3 : w8.cell? ⟨bd, 3, none⟩ = some (.string d.pt) := (b_ hX8 3).trans rfl
    have e4 : w8.cell? ⟨bd, 4, none⟩ = some (.slice A0 d.ks.length c0) := (b_ hX8 4).trans rfl
    have e5 : w8.cell? ⟨bd, 5, none⟩ = some (.int .i64 d.n) := (b_ hX8 5).trans rfl
    have HASK := Lib.hid hask
    have HER : Hid (er = 6 ∨ er = 1) := Lib.hid ((askErr_some (by omega) hask).elim (fun h => .inl h.2) (fun h => .inr h.2))
    clear hc8 hb8 hk8 hl8 hask HTO HBO7 HB7 HKS7 HX7 hX8 d0 d1 d2 d3 d4 d5
    unfold msgZ
    go_wp2_with fail
    obtain ⟨bx, hbx⟩ : ∃ bx, bx = w8.heap.size := ⟨_, rfl⟩
    have hXx := heap_alloc_new w8 (.cells #[.int .i64 0, .int .i64 0, .int .i64 0, .int .i64 0, .string ⟨#[]⟩, .slice none 0 0, .slice none 0 0] 40)
    have hBx : Below w8.heap.size w8 (w8.alloc (.cells #[.int .i64 0, .int .i64 0, .int .i64 0, .int .i64 0, .string ⟨#[]⟩, .slice none 0 0, .slice none 0 0] 40)) := (Below.refl _ w8).alloc (Nat.le_refl _) _
    generalize w8.alloc (.cells #[.int .i64 0, .int .i64 0, .int .i64 0, .int .i64 0, .string ⟨#[]⟩, .slice none 0 0, .slice none 0 0] 40) = wx at hXx hBx ⊢
    rw [← hbx] at hXx HBO8 ⊢
    have HXx := Lib.hid hXx
    have HBOx := HBO8.out.below hBx
    have HBx := Lib.hid (HB8.out.trans (hBx.mono HB8.out.size))
    obtain ⟨okR, hR, hgR, hto⟩ := HBOx.m
    have HTO := Lib.hid hto
    clear hto hXx hBx hbx HBO8 HB8 e1 e2 e3 e4 e5 hlt8 HBOx
    refine (ref_Ask wx gM okR gM f id t wt body _ _ hR (by omega) d.kd d.n d.nm d.pt A0 c0 d.ks (fun W hW => Kd.C_below HKS.out.2 (HBx.out.trans (hW.mono HGM.out))) HKS.out.1 (by have := HSH.out; omega) (by have := HSH.out; omega) HSH.out.2.2.1 (fun x hx => by have := HSH.out.2.2.2 x hx; omega)).mono ?_
    clear hR
    rintro e w9 (⟨hask', _, _⟩ | ⟨er2, hask', rfl, hc9⟩)
    ·rw [HASK.out] at hask'
     cases hask'
    obtain rfl : er = er2 := by
     rw [HASK.out] at hask'
     exact Option.some.inj hask'
    clear hask'
    obtain ⟨hb9, hk9, hl9⟩ := HTO.out _ _ _ _ _ _ hc9
    have hX9 := dd_ HXx.out hk9 (by omega)
    have HX9 := Lib.hid hX9
    have hlt9 := bj_ hX9
    have HBO9 := Lib.hid hb9.bound
    have HB9 := Lib.hid (HBx.out.trans (hl9.mono HGM.out))
    have x0 : w9.cell? ⟨bx, 0, none⟩ = some (.int .i64 0) := (b_ hX9 0).trans rfl
    have x1 : w9.cell? ⟨bx, 1, none⟩ = some (.int .i64 0) := (b_ hX9 1).trans rfl
    have x2 : w9.cell? ⟨bx, 2, none⟩ = some (.int .i64 0) := (b_ hX9 2).trans rfl
    have x3 : w9.cell? ⟨bx, 3, none⟩ = some (.int .i64 0) := (b_ hX9 3).trans rfl
    have x4 : w9.cell? ⟨bx, 4, none⟩ = some (.string ⟨#[]⟩) := (b_ hX9 4).trans rfl
    have x5 : w9.cell? ⟨bx, 5, none⟩ = some (.slice none 0 0) := (b_ hX9 5).trans rfl
    have x6 : w9.cell? ⟨bx, 6, none⟩ = some (.slice none 0 0) := (b_ hX9 6).trans rfl
    clear hc9 hb9 hk9 hl9 HTO HBx HXx hX9
    unfold msgZ
    go_wp2_with fail
    refine (same_nil _ 0 0 0 0 ⟨#[]⟩).mono ?_
    rintro e w10 ⟨rfl, hb10⟩
    have hba := (Below.refl w9.heap.size w9).alloc (Nat.le_refl _) (.cells #[.int .i64 0, .int .i64 0, .int .i64 0, .int .i64 0, .string ⟨#[]⟩, .slice none 0 0, .slice none 0 0] 40)
    have hb910 := hba.trans (hb10.mono hba.size)
    have hs910 := hb910.size
    have HBO10 : Hid (Both w10 gC gM (fun k => k < w10.heap.size) f id t wt body vs t wt body (vs.map fun v => v.f0) (vs.map fun v => v.f1)) := Lib.hid ((HBO9.out.below hb910).mono (fun k hk => by have h1 : k < w9.heap.size := hk; omega))
    have HB10 := Lib.hid (HB9.out.trans (hb910.mono HB9.out.size))
    clear hba hb910 hs910 hb10 HBO9 HB9 x0 x1 x2 x3 x4 x5 x6 hlt9 HX9
    go_wp2_with fail
    refine (code_some _ er (by have := HER.out; omega) (by have := HER.out; omega)).mono ?_
    rintro e w11 ⟨rfl, rfl⟩
    go_wp2_with fail
    go_roundg k1
    case measure => omega
    case rel => exact ⟨i + 1, t, wt, body, vs, by first | (rw [hwi]; done) | (simp; done), Lib.hid (by have := HI80.out; omega), Lib.hid (by have := HT.out; omega), HBO10, HND, Lib.hid (by have := HVL.out; omega), HB10⟩
  by_cases hr4 : r = 4
  ·subst hr4
   clear d0 d1 d2 d3 d4 d5 d6 d7 d8 d9 d10 d11 d12 hr hr0
   go_wp2_with fail
   obtain ⟨okC, hC, hgC, _⟩ := HBO7.out.c
   cases wt with
   | true =>
    refine (client_Again w7 gC okC gC f id t true body vs hC).mono ?_
    rintro e w8 ⟨rfl, hb8⟩
    rw [if_pos rfl]
    have HBO8 := Lib.hid (HBO7.out.below hb8)
    have HB8 := Lib.hid (HB7.out.trans (hb8.mono HB7.out.size))
    clear hC hb8 HBO7 HB7 HKS7 HX7
    obtain ⟨okR, hR, hgR, _⟩ := HBO8.out.m
    obtain ⟨Ar, cr, Ar', cr', hgr, _⟩ := hR.open_
    have hgml := bj_ hgr
    have HGR := Lib.hid hgr
    have g3 : w8.cell? ⟨gM, 3, none⟩ = some (.bool true) := (b_ hgr 3).trans rfl
    have HR8 := Lib.hid hR
    clear hR hgr
    unfold msgQ
    go_wp2_with fail
    have hXx := heap_alloc_new w8 (.cells #[.int .i64 1, .int .i64 id, .int .i64 0, .int .i64 0, .string body, .slice none 0 0, .slice none 0 0] 40)
    have hBx : Below w8.heap.size w8 (w8.alloc (.cells #[.int .i64 1, .int .i64 id, .int .i64 0, .int .i64 0, .string body, .slice none 0 0, .slice none 0 0] 40)) := (Below.refl _ w8).alloc (Nat.le_refl _) _
    obtain ⟨bx, hbx⟩ : ∃ bx, bx = w8.heap.size := ⟨_, rfl⟩
    generalize w8.alloc (.cells #[.int .i64 1, .int .i64 id, .int .i64 0, .int .i64 0, .string body, .slice none 0 0, .slice none 0 0] 40) = wx at hXx hBx ⊢
    rw [← hbx] at hXx ⊢
    have HXX := Lib.hid hXx
    have HGX := Lib.hid (s_ HGR.out hBx)
    have HRX := Lib.hid (HR8.out.below hBx)
    have HBOX := Lib.hid (HBO8.out.below hBx)
    have HBX := Lib.hid (HB8.out.trans (hBx.mono HB8.out.size))
    clear hXx hBx hbx HGR HR8 HBO8 HB8 g3 hgml
    refine start_ (n := 26) (S := fun w' => w'.cell? ⟨gM, 3, none⟩ = some (.bool true) ∧ w'.cell? ⟨bx, 0, none⟩ = some (.int .i64 1) ∧ w'.cell? ⟨bx, 1, none⟩ = some (.int .i64 id) ∧ w'.cell? ⟨bx, 2, none⟩ = some (.int .i64 0) ∧ w'.cell? ⟨bx, 3, none⟩ = some (.int .i64 0) ∧ w'.cell? ⟨bx, 4, none⟩ = some (.string body) ∧ w'.cell? ⟨bx, 5, none⟩ = some (.slice none 0 0) ∧ w'.cell? ⟨bx, 6, none⟩ = some (.slice none 0 0)) (ds := []) #[F_, F_, F_, F_, F_, F_, F_, F_, F_, F_, F_, F_, F_, F_, F_, F_, F_, F_, F_, F_, F_, F_, F_, F_, F_, F_] (by kernel_rfl) rfl rfl ⟨((b_ (o_ HGX.out) 3).trans rfl), ((b_ (o_ HXX.out) 0).trans rfl), ((b_ (o_ HXX.out) 1).trans rfl), ((b_ (o_ HXX.out) 2).trans rfl), ((b_ (o_ HXX.out) 3).trans rfl), ((b_ (o_ HXX.out) 4).trans rfl), ((b_ (o_ HXX.out) 5).trans rfl), ((b_ (o_ HXX.out) 6).trans rfl)⟩ (fun hHeld => ?_)
    refine ay_ (i := 0) (N := some 172) (v := ?_) (a' := ?_) #[T_, F_, F_, F_, F_, F_, F_, F_, F_, F_, F_, F_, F_, F_, F_, F_, F_, F_, F_, F_, F_, F_, F_, F_, F_, F_] rfl rfl (by kernel_rfl) (fun _ _ _ h => h) (Or.inl ⟨by rfl, ?_⟩) ?_ ?_
    rotate_left
    ·intro w'
     go_simp
     with_reducible rfl
    rotate_left
    ·simp only [Act.put, sA_, sB_, sC_, af_, ag_]
     rfl
    refine ay_ (i := 1) (N := some 173) (v := ?_) (a' := ?_) #[T_, T_, F_, F_, F_, F_, F_, F_, F_, F_, F_, F_, F_, F_, F_, F_, F_, F_, F_, F_, F_, F_, F_, F_, F_, F_] rfl rfl (by kernel_rfl) (fun _ _ _ h => h) (Or.inl ⟨by rfl, ?_⟩) ?_ ?_
    rotate_left
    ·intro w'
     go_simp
     with_reducible rfl
    rotate_left
    ·simp only [Act.put, sA_, sB_, sC_, af_, ag_]
     rfl
    refine ay_ (i := 2) (N := some 174) (v := ?_) (a' := ?_) #[T_, T_, T_, F_, F_, F_, F_, F_, F_, F_, F_, F_, F_, F_, F_, F_, F_, F_, F_, F_, F_, F_, F_, F_, F_, F_] rfl rfl (by kernel_rfl) (fun _ _ _ h => h) (Or.inl ⟨by rfl, ?_⟩) ?_ ?_
    rotate_left
    ·intro w'
     go_simp
     with_reducible rfl
    rotate_left
    ·simp only [Act.put, sA_, sB_, sC_, af_, ag_]
     rfl
    refine ay_ (i := 3) (N := some 175) (v := ?_) (a' := ?_) #[T_, T_, T_, T_, F_, F_, F_, F_, F_, F_, F_, F_, F_, F_, F_, F_, F_, F_, F_, F_, F_, F_, F_, F_, F_, F_] rfl rfl (by kernel_rfl) (fun _ _ _ h => h) (Or.inl ⟨by rfl, ?_⟩) ?_ ?_
    rotate_left
    ·intro w'
     go_simp
     with_reducible rfl
    rotate_left
    ·simp only [Act.put, sA_, sB_, sC_, af_, ag_]
     rfl
    refine take_ (i := 4) (N := some 176) (v := ?_) (a' := ?_) #[T_, T_, T_, T_, T_, F_, F_, F_, F_, F_, F_, F_, F_, F_, F_, F_, F_, F_, F_, F_, F_, F_, F_, F_, F_, F_] rfl rfl (by kernel_rfl) (fun _ _ _ h => h) (Or.inl ⟨by rfl, ?_⟩) hHeld ?_ ?_
    rotate_left
    ·rintro w' ⟨s0, s1, s2, s3, s4, s5, s6, s7⟩
     go_simp
     with_reducible rfl
    rotate_left
    ·simp only [Act.put, sA_, sB_, sC_, af_, ag_]
     rfl
    refine ay_ (i := 5) (N := some 177) (v := ?_) (a' := ?_) #[T_, T_, T_, T_, T_, T_, F_, F_, F_, F_, F_, F_, F_, F_, F_, F_, F_, F_, F_, F_, F_, F_, F_, F_, F_, F_] rfl rfl (by kernel_rfl) (fun _ _ _ h => h) (Or.inl ⟨by rfl, ?_⟩) ?_ ?_
    rotate_left
    ·intro w'
     go_simp
     with_reducible rfl
    rotate_left
    ·simp only [Act.put, sA_, sB_, sC_, af_, ag_]
     rfl
    refine ay_ (i := 6) (N := some 178) (v := ?_) (a' := ?_) #[T_, T_, T_, T_, T_, T_, T_, F_, F_, F_, F_, F_, F_, F_, F_, F_, F_, F_, F_, F_, F_, F_, F_, F_, F_, F_] rfl rfl (by kernel_rfl) (fun _ _ _ h => h) (Or.inl ⟨by rfl, ?_⟩) ?_ ?_
    rotate_left
    ·intro w'
     go_simp
     with_reducible rfl
    rotate_left
    ·simp only [Act.put, sA_, sB_, sC_, af_, ag_]
     rfl
    refine ay_ (i := 7) (N := some 179) (v := ?_) (a' := ?_) #[T_, T_, T_, T_, T_, T_, T_, T_, F_, F_, F_, F_, F_, F_, F_, F_, F_, F_, F_, F_, F_, F_, F_, F_, F_, F_] rfl rfl (by kernel_rfl) (fun _ _ _ h => h) (Or.inl ⟨by rfl, ?_⟩) ?_ ?_
    rotate_left
    ·intro w'
     go_simp
     with_reducible rfl
    rotate_left
    ·simp only [Act.put, sA_, sB_, sC_, af_, ag_]
     rfl
    refine ay_ (i := 8) (N := some 180) (v := ?_) (a' := ?_) #[T_, T_, T_, T_, T_, T_, T_, T_, T_, F_, F_, F_, F_, F_, F_, F_, F_, F_, F_, F_, F_, F_, F_, F_, F_, F_] rfl rfl (by kernel_rfl) (fun _ _ _ h => h) (Or.inl ⟨by rfl, ?_⟩) ?_ ?_
    rotate_left
    ·intro w'
     go_simp
     with_reducible rfl
    rotate_left
    ·simp only [Act.put, sA_, sB_, sC_, af_, ag_]
     rfl
    refine ay_ (i := 10) (N := some 182) (v := ?_) (a' := ?_) #[T_, T_, T_, T_, T_, T_, T_, T_, T_, F_, T_, F_, F_, F_, F_, F_, F_, F_, F_, F_, F_, F_, F_, F_, F_, F_] rfl rfl (by kernel_rfl) (fun _ _ _ h => h) (Or.inl ⟨by rfl, ?_⟩) ?_ ?_
    rotate_left
    ·intro w'
     go_simp
     with_reducible rfl
    rotate_left
    ·simp only [Act.put, sA_, sB_, sC_, af_, ag_]
     rfl
    refine take_ (i := 9) (N := some 181) (v := ?_) (a' := ?_) #[T_, T_, T_, T_, T_, T_, T_, T_, T_, T_, T_, F_, F_, F_, F_, F_, F_, F_, F_, F_, F_, F_, F_, F_, F_, F_] rfl rfl (by kernel_rfl) (fun _ _ _ h => h) (Or.inl ⟨by rfl, ?_⟩) hHeld ?_ ?_
    rotate_left
    ·rintro w' ⟨s0, s1, s2, s3, s4, s5, s6, s7⟩
     go_simp
     with_reducible rfl
    rotate_left
    ·simp only [Act.put, sA_, sB_, sC_, af_, ag_]
     rfl
    refine one_ (i := 11) (N := some 183) #[T_, T_, T_, T_, T_, T_, T_, T_, T_, T_, T_, T_, F_, F_, F_, F_, F_, F_, F_, F_, F_, F_, F_, F_, F_, F_] rfl rfl (by kernel_rfl) (by decide) (fun K hK => ?_)
    refine goes_ Tryz.func14 (by kernel_rfl) rfl #[.pointer (some ⟨gM, 0, none⟩)] (by rfl) rfl rfl (by simp only [List.map_toArray, List.map_cons, List.map_nil]; rfl) ?_
    with_reducible refine (ref_Again wx.drew gM okR gM f id t true body _ _ (HRX.out.below (Below.refl _ wx).drew)).mono ?_
    rintro e wA ⟨rfl, hbA⟩
    refine ⟨_, rfl, ?_⟩
    have HBA := Lib.hid ((Below.refl _ wx).drew.trans hbA : Below wx.heap.size wx wA)
    clear hbA
    refine hK.out _ _ ⟨((b_ (s_ HGX.out HBA.out) 3).trans rfl), ((b_ (s_ HXX.out HBA.out) 0).trans rfl), ((b_ (s_ HXX.out HBA.out) 1).trans rfl), ((b_ (s_ HXX.out HBA.out) 2).trans rfl), ((b_ (s_ HXX.out HBA.out) 3).trans rfl), ((b_ (s_ HXX.out HBA.out) 4).trans rfl), ((b_ (s_ HXX.out HBA.out) 5).trans rfl), ((b_ (s_ HXX.out HBA.out) 6).trans rfl)⟩ (fun hHeld => ?_)
    clear hK K
    refine norm_ (a' := ?_) ?_ ?_
    rotate_left
    ·show Act.put _ (some 183) _ = _
     simp only [Act.put, sA_, sB_, sC_, af_, ag_]
     rfl
    refine one_ (i := 12) (N := some 184) #[T_, T_, T_, T_, T_, T_, T_, T_, T_, T_, T_, T_, T_, F_, F_, F_, F_, F_, F_, F_, F_, F_, F_, F_, F_, F_] rfl rfl (by kernel_rfl) (by decide) (fun K hK => ?_)
    refine goes_ Tryz.func11 (by kernel_rfl) rfl #[.agg #[.int .i64 1, .int .i64 id, .int .i64 0, .int .i64 0, .string body, .slice none 0 0, .slice none 0 0], .agg #[.int .i64 1, .int .i64 id, .int .i64 0, .int .i64 0, .string body, .slice none 0 0, .slice none 0 0]] (by rfl) rfl rfl (by simp only [List.map_toArray, List.map_cons, List.map_nil]; rfl) ?_
    with_reducible refine (same_nil wA 1 id 0 0 body).mono ?_
    rintro e wB ⟨rfl, hbB⟩
    refine ⟨_, rfl, ?_⟩
    have HBB := Lib.hid (HBA.out.trans (hbB.mono HBA.out.size))
    clear hbB
    refine hK.out _ _ ⟨((b_ (s_ HGX.out HBB.out) 3).trans rfl), ((b_ (s_ HXX.out HBB.out) 0).trans rfl), ((b_ (s_ HXX.out HBB.out) 1).trans rfl), ((b_ (s_ HXX.out HBB.out) 2).trans rfl), ((b_ (s_ HXX.out HBB.out) 3).trans rfl), ((b_ (s_ HXX.out HBB.out) 4).trans rfl), ((b_ (s_ HXX.out HBB.out) 5).trans rfl), ((b_ (s_ HXX.out HBB.out) 6).trans rfl)⟩ (fun hHeld => ?_)
    clear hK K
    refine norm_ (a' := ?_) ?_ ?_
    rotate_left
    ·show Act.put _ (some 184) _ = _
     simp only [Act.put, sA_, sB_, sC_, af_, ag_]
     rfl
    refine ay_ (i := 13) (N := some 185) (v := ?_) (a' := ?_) #[T_, T_, T_, T_, T_, T_, T_, T_, T_, T_, T_, T_, T_, T_, F_, F_, F_, F_, F_, F_, F_, F_, F_, F_, F_, F_] rfl rfl (by kernel_rfl) (fun _ _ _ h => h) (Or.inl ⟨by rfl, ?_⟩) ?_ ?_
    rotate_left
    ·intro w'
     go_simp
     with_reducible rfl
    rotate_left
    ·simp only [Act.put, sA_, sB_, sC_, af_, ag_]
     rfl
    refine ay_ (i := 14) (N := some 186) (v := ?_) (a' := ?_) #[T_, T_, T_, T_, T_, T_, T_, T_, T_, T_, T_, T_, T_, T_, T_, F_, F_, F_, F_, F_, F_, F_, F_, F_, F_, F_] rfl rfl (by kernel_rfl) (fun _ _ _ h => h) (Or.inl ⟨by rfl, ?_⟩) ?_ ?_
    rotate_left
    ·intro w'
     go_simp
     with_reducible rfl
    rotate_left
    ·simp only [Act.put, sA_, sB_, sC_, af_, ag_]
     rfl
    refine ay_ (i := 15) (N := some 187) (v := ?_) (a' := ?_) #[T_, T_, T_, T_, T_, T_, T_, T_, T_, T_, T_, T_, T_, T_, T_, T_, F_, F_, F_, F_, F_, F_, F_, F_, F_, F_] rfl rfl (by kernel_rfl) (fun _ _ _ h => h) (Or.inl ⟨by rfl, ?_⟩) ?_ ?_
    rotate_left
    ·intro w'
     go_simp
     with_reducible rfl
    rotate_left
    ·simp only [Act.put, sA_, sB_, sC_, af_, ag_]
     rfl
    refine ay_ (i := 16) (N := some 188) (v := ?_) (a' := ?_) #[T_, T_, T_, T_, T_, T_, T_, T_, T_, T_, T_, T_, T_, T_, T_, T_, T_, F_, F_, F_, F_, F_, F_, F_, F_, F_] rfl rfl (by kernel_rfl) (fun _ _ _ h => h) (Or.inl ⟨by rfl, ?_⟩) ?_ ?_
    rotate_left
    ·intro w'
     go_simp
     with_reducible rfl
    rotate_left
    ·simp only [Act.put, sA_, sB_, sC_, af_, ag_]
     rfl
    refine ay_ (i := 17) (N := some 189) (v := ?_) (a' := ?_) #[T_, T_, T_, T_, T_, T_, T_, T_, T_, T_, T_, T_, T_, T_, T_, T_, T_, T_, F_, F_, F_, F_, F_, F_, F_, F_] rfl rfl (by kernel_rfl) (fun _ _ _ h => h) (Or.inl ⟨by rfl, ?_⟩) ?_ ?_
    rotate_left
    ·intro w'
     go_simp
     with_reducible rfl
    rotate_left
    ·simp only [Act.put, sA_, sB_, sC_, af_, ag_]
     rfl
    refine ay_ (i := 18) (N := some 190) (v := ?_) (a' := ?_) #[T_, T_, T_, T_, T_, T_, T_, T_, T_, T_, T_, T_, T_, T_, T_, T_, T_, T_, T_, F_, F_, F_, F_, F_, F_, F_] rfl rfl (by kernel_rfl) (fun _ _ _ h => h) (Or.inl ⟨by rfl, ?_⟩) ?_ ?_
    rotate_left
    ·intro w'
     go_simp
     with_reducible rfl
    rotate_left
    ·simp only [Act.put, sA_, sB_, sC_, af_, ag_]
     rfl
    refine ay_ (i := 19) (N := some 191) (v := ?_) (a' := ?_) #[T_, T_, T_, T_, T_, T_, T_, T_, T_, T_, T_, T_, T_, T_, T_, T_, T_, T_, T_, T_, F_, F_, F_, F_, F_, F_] rfl rfl (by kernel_rfl) (fun _ _ _ h => h) (Or.inl ⟨by rfl, ?_⟩) ?_ ?_
    rotate_left
    ·intro w'
     go_simp
     with_reducible rfl
    rotate_left
    ·simp only [Act.put, sA_, sB_, sC_, af_, ag_]
     rfl
    refine ay_ (i := 20) (N := some 192) (v := undef) (a' := ?_) #[T_, T_, T_, T_, T_, T_, T_, T_, T_, T_, T_, T_, T_, T_, T_, T_, T_, T_, T_, T_, T_, F_, F_, F_, F_, F_] rfl rfl (by kernel_rfl) (fun _ _ _ h => h) (Or.inr ⟨by rfl, rfl⟩) ?_ ?_
    rotate_left
    ·simp only [Act.put, sA_, sB_, sC_, af_, ag_]
     rfl
    refine ay_ (i := 21) (N := some 193) (v := undef) (a' := ?_) #[T_, T_, T_, T_, T_, T_, T_, T_, T_, T_, T_, T_, T_, T_, T_, T_, T_, T_, T_, T_, T_, T_, F_, F_, F_, F_] rfl rfl (by kernel_rfl) (fun _ _ _ h => h) (Or.inr ⟨by rfl, rfl⟩) ?_ ?_
    rotate_left
    ·simp only [Act.put, sA_, sB_, sC_, af_, ag_]
     rfl
    refine ay_ (i := 22) (N := some 194) (v := undef) (a' := ?_) #[T_, T_, T_, T_, T_, T_, T_, T_, T_, T_, T_, T_, T_, T_, T_, T_, T_, T_, T_, T_, T_, T_, T_, F_, F_, F_] rfl rfl (by kernel_rfl) (fun _ _ _ h => h) (Or.inr ⟨by rfl, rfl⟩) ?_ ?_
    rotate_left
    ·simp only [Act.put, sA_, sB_, sC_, af_, ag_]
     rfl
    refine ay_ (i := 23) (N := some 195) (v := undef) (a' := ?_) #[T_, T_, T_, T_, T_, T_, T_, T_, T_, T_, T_, T_, T_, T_, T_, T_, T_, T_, T_, T_, T_, T_, T_, T_, F_, F_] rfl rfl (by kernel_rfl) (fun _ _ _ h => h) (Or.inr ⟨by rfl, rfl⟩) ?_ ?_
    rotate_left
    ·simp only [Act.put, sA_, sB_, sC_, af_, ag_]
     rfl
    refine ay_ (i := 24) (N := some 196) (v := ?_) (a' := ?_) #[T_, T_, T_, T_, T_, T_, T_, T_, T_, T_, T_, T_, T_, T_, T_, T_, T_, T_, T_, T_, T_, T_, T_, T_, T_, F_] rfl rfl (by kernel_rfl) (fun _ _ _ h => h) (Or.inl ⟨by rfl, ?_⟩) ?_ ?_
    rotate_left
    ·intro w'
     go_simp
     with_reducible rfl
    rotate_left
    ·simp only [Act.put, sA_, sB_, sC_, af_, ag_]
     rfl
    refine ay_ (i := 25) (N := some 197) (v := ?_) (a' := ?_) #[T_, T_, T_, T_, T_, T_, T_, T_, T_, T_, T_, T_, T_, T_, T_, T_, T_, T_, T_, T_, T_, T_, T_, T_, T_, T_] rfl rfl (by kernel_rfl) (fun _ _ _ h => h) (Or.inl ⟨by rfl, ?_⟩) ?_ ?_
    rotate_left
    ·intro w'
     go_simp
     with_reducible rfl
    rotate_left
    ·simp only [Act.put, sA_, sB_, sC_, af_, ag_]
     rfl
    refine done_ (by kernel_rfl) ?_
    have HBO9 : Hid (Both wB gC gM (fun k => k < wB.heap.size) f id t true body vs t true body (vs.map fun v => v.f0) (vs.map fun v => v.f1)) := Lib.hid ((HBOX.out.below HBB.out).bound)
    have HB9 := Lib.hid (HBX.out.trans (HBB.out.mono HBX.out.size))
    clear HBB HBOX HBX HXX HGX HRX hHeld
    go_wp2_with fail
    go_roundg k1
    case measure => omega
    case rel => exact ⟨i + 1, t, true, body, vs, by first | (rw [hwi]; done) | (simp; done), Lib.hid (by have := HI80.out; omega), Lib.hid (by have := HT.out; omega), HBO9, HND, Lib.hid (by have := HVL.out; omega), HB9⟩
   | false =>
    refine (client_Again w7 gC okC gC f id t false body vs hC).mono ?_
    rintro e w8 ⟨rfl, hb8⟩
    rw [if_neg (by decide)]
    have HBO8 := Lib.hid (HBO7.out.below hb8)
    have HB8 := Lib.hid (HB7.out.trans (hb8.mono HB7.out.size))
    clear hC hb8 HBO7 HB7 HKS7 HX7
    obtain ⟨okR, hR, hgR, _⟩ := HBO8.out.m
    obtain ⟨Ar, cr, Ar', cr', hgr, _⟩ := hR.open_
    have hgml := bj_ hgr
    have HGR := Lib.hid hgr
    have g3 : w8.cell? ⟨gM, 3, none⟩ = some (.bool false) := (b_ hgr 3).trans rfl
    have HR8 := Lib.hid hR
    clear hR hgr
    unfold msgZ
    go_wp2_with fail
    have hXx := heap_alloc_new w8 (.cells #[.int .i64 0, .int .i64 0, .int .i64 0, .int .i64 0, .string ⟨#[]⟩, .slice none 0 0, .slice none 0 0] 40)
    have hBx : Below w8.heap.size w8 (w8.alloc (.cells #[.int .i64 0, .int .i64 0, .int .i64 0, .int .i64 0, .string ⟨#[]⟩, .slice none 0 0, .slice none 0 0] 40)) := (Below.refl _ w8).alloc (Nat.le_refl _) _
    obtain ⟨bx, hbx⟩ : ∃ bx, bx = w8.heap.size := ⟨_, rfl⟩
    generalize w8.alloc (.cells #[.int .i64 0, .int .i64 0, .int .i64 0, .int .i64 0, .string ⟨#[]⟩, .slice none 0 0, .slice none 0 0] 40) = wx at hXx hBx ⊢
    rw [← hbx] at hXx ⊢
    have HXX := Lib.hid hXx
    have HGX := Lib.hid (s_ HGR.out hBx)
    have HRX := Lib.hid (HR8.out.below hBx)
    have HBOX := Lib.hid (HBO8.out.below hBx)
    have HBX := Lib.hid (HB8.out.trans (hBx.mono HB8.out.size))
    clear hXx hBx hbx HGR HR8 HBO8 HB8 g3 hgml
    refine start_ (n := 26) (S := fun w' => w'.cell? ⟨gM, 3, none⟩ = some (.bool false) ∧ w'.cell? ⟨bx, 0, none⟩ = some (.int .i64 0) ∧ w'.cell? ⟨bx, 1, none⟩ = some (.int .i64 0) ∧ w'.cell? ⟨bx, 2, none⟩ = some (.int .i64 0) ∧ w'.cell? ⟨bx, 3, none⟩ = some (.int .i64 0) ∧ w'.cell? ⟨bx, 4, none⟩ = some (.string ⟨#[]⟩) ∧ w'.cell? ⟨bx, 5, none⟩ = some (.slice none 0 0) ∧ w'.cell? ⟨bx, 6, none⟩ = some (.slice none 0 0)) (ds := []) #[F_, F_, F_, F_, F_, F_, F_, F_, F_, F_, F_, F_, F_, F_, F_, F_, F_, F_, F_, F_, F_, F_, F_, F_, F_, F_] (by kernel_rfl) rfl rfl ⟨((b_ (o_ HGX.out) 3).trans rfl), ((b_ (o_ HXX.out) 0).trans rfl), ((b_ (o_ HXX.out) 1).trans rfl), ((b_ (o_ HXX.out) 2).trans rfl), ((b_ (o_ HXX.out) 3).trans rfl), ((b_ (o_ HXX.out) 4).trans rfl), ((b_ (o_ HXX.out) 5).trans rfl), ((b_ (o_ HXX.out) 6).trans rfl)⟩ (fun hHeld => ?_)
    refine ay_ (i := 0) (N := some 172) (v := ?_) (a' := ?_) #[T_, F_, F_, F_, F_, F_, F_, F_, F_, F_, F_, F_, F_, F_, F_, F_, F_, F_, F_, F_, F_, F_, F_, F_, F_, F_] rfl rfl (by kernel_rfl) (fun _ _ _ h => h) (Or.inl ⟨by rfl, ?_⟩) ?_ ?_
    rotate_left
    ·intro w'
     go_simp
     with_reducible rfl
    rotate_left
    ·simp only [Act.put, sA_, sB_, sC_, af_, ag_]
     rfl
    refine ay_ (i := 1) (N := some 173) (v := ?_) (a' := ?_) #[T_, T_, F_, F_, F_, F_, F_, F_, F_, F_, F_, F_, F_, F_, F_, F_, F_, F_, F_, F_, F_, F_, F_, F_, F_, F_] rfl rfl (by kernel_rfl) (fun _ _ _ h => h) (Or.inl ⟨by rfl, ?_⟩) ?_ ?_
    rotate_left
    ·intro w'
     go_simp
     with_reducible rfl
    rotate_left
    ·simp only [Act.put, sA_, sB_, sC_, af_, ag_]
     rfl
    refine ay_ (i := 2) (N := some 174) (v := ?_) (a' := ?_) #[T_, T_, T_, F_, F_, F_, F_, F_, F_, F_, F_, F_, F_, F_, F_, F_, F_, F_, F_, F_, F_, F_, F_, F_, F_, F_] rfl rfl (by kernel_rfl) (fun _ _ _ h => h) (Or.inl ⟨by rfl, ?_⟩) ?_ ?_
    rotate_left
    ·intro w'
     go_simp
     with_reducible rfl
    rotate_left
    ·simp only [Act.put, sA_, sB_, sC_, af_, ag_]
     rfl
    refine ay_ (i := 3) (N := some 175) (v := ?_) (a' := ?_) #[T_, T_, T_, T_, F_, F_, F_, F_, F_, F_, F_, F_, F_, F_, F_, F_, F_, F_, F_, F_, F_, F_, F_, F_, F_, F_] rfl rfl (by kernel_rfl) (fun _ _ _ h => h) (Or.inl ⟨by rfl, ?_⟩) ?_ ?_
    rotate_left
    ·intro w'
     go_simp
     with_reducible rfl
    rotate_left
    ·simp only [Act.put, sA_, sB_, sC_, af_, ag_]
     rfl
    refine take_ (i := 4) (N := some 176) (v := ?_) (a' := ?_) #[T_, T_, T_, T_, T_, F_, F_, F_, F_, F_, F_, F_, F_, F_, F_, F_, F_, F_, F_, F_, F_, F_, F_, F_, F_, F_] rfl rfl (by kernel_rfl) (fun _ _ _ h => h) (Or.inl ⟨by rfl, ?_⟩) hHeld ?_ ?_
    rotate_left
    ·rintro w' ⟨s0, s1, s2, s3, s4, s5, s6, s7⟩
     go_simp
     with_reducible rfl
    rotate_left
    ·simp only [Act.put, sA_, sB_, sC_, af_, ag_]
     rfl
    refine ay_ (i := 5) (N := some 177) (v := ?_) (a' := ?_) #[T_, T_, T_, T_, T_, T_, F_, F_, F_, F_, F_, F_, F_, F_, F_, F_, F_, F_, F_, F_, F_, F_, F_, F_, F_, F_] rfl rfl (by kernel_rfl) (fun _ _ _ h => h) (Or.inl ⟨by rfl, ?_⟩) ?_ ?_
    rotate_left
    ·intro w'
     go_simp
     with_reducible rfl
    rotate_left
    ·simp only [Act.put, sA_, sB_, sC_, af_, ag_]
     rfl
    refine ay_ (i := 6) (N := some 178) (v := ?_) (a' := ?_) #[T_, T_, T_, T_, T_, T_, T_, F_, F_, F_, F_, F_, F_, F_, F_, F_, F_, F_, F_, F_, F_, F_, F_, F_, F_, F_] rfl rfl (by kernel_rfl) (fun _ _ _ h => h) (Or.inl ⟨by rfl, ?_⟩) ?_ ?_
    rotate_left
    ·intro w'
     go_simp
     with_reducible rfl
    rotate_left
    ·simp only [Act.put, sA_, sB_, sC_, af_, ag_]
     rfl
    refine ay_ (i := 7) (N := some 179) (v := ?_) (a' := ?_) #[T_, T_, T_, T_, T_, T_, T_, T_, F_, F_, F_, F_, F_, F_, F_, F_, F_, F_, F_, F_, F_, F_, F_, F_, F_, F_] rfl rfl (by kernel_rfl) (fun _ _ _ h => h) (Or.inl ⟨by rfl, ?_⟩) ?_ ?_
    rotate_left
    ·intro w'
     go_simp
     with_reducible rfl
    rotate_left
    ·simp only [Act.put, sA_, sB_, sC_, af_, ag_]
     rfl
    refine ay_ (i := 8) (N := some 180) (v := ?_) (a' := ?_) #[T_, T_, T_, T_, T_, T_, T_, T_, T_, F_, F_, F_, F_, F_, F_, F_, F_, F_, F_, F_, F_, F_, F_, F_, F_, F_] rfl rfl (by kernel_rfl) (fun _ _ _ h => h) (Or.inl ⟨by rfl, ?_⟩) ?_ ?_
    rotate_left
    ·intro w'
     go_simp
     with_reducible rfl
    rotate_left
    ·simp only [Act.put, sA_, sB_, sC_, af_, ag_]
     rfl
    refine ay_ (i := 9) (N := some 181) (v := undef) (a' := ?_) #[T_, T_, T_, T_, T_, T_, T_, T_, T_, T_, F_, F_, F_, F_, F_, F_, F_, F_, F_, F_, F_, F_, F_, F_, F_, F_] rfl rfl (by kernel_rfl) (fun _ _ _ h => h) (Or.inr ⟨by rfl, rfl⟩) ?_ ?_
    rotate_left
    ·simp only [Act.put, sA_, sB_, sC_, af_, ag_]
     rfl
    refine ay_ (i := 10) (N := some 182) (v := undef) (a' := ?_) #[T_, T_, T_, T_, T_, T_, T_, T_, T_, T_, T_, F_, F_, F_, F_, F_, F_, F_, F_, F_, F_, F_, F_, F_, F_, F_] rfl rfl (by kernel_rfl) (fun _ _ _ h => h) (Or.inr ⟨by rfl, rfl⟩) ?_ ?_
    rotate_left
    ·simp only [Act.put, sA_, sB_, sC_, af_, ag_]
     rfl
    refine ay_ (i := 11) (N := some 183) (v := undef) (a' := ?_) #[T_, T_, T_, T_, T_, T_, T_, T_, T_, T_, T_, T_, F_, F_, F_, F_, F_, F_, F_, F_, F_, F_, F_, F_, F_, F_] rfl rfl (by kernel_rfl) (fun _ _ _ h => h) (Or.inr ⟨by rfl, rfl⟩) ?_ ?_
    rotate_left
    ·simp only [Act.put, sA_, sB_, sC_, af_, ag_]
     rfl
    refine ay_ (i := 12) (N := some 184) (v := undef) (a' := ?_) #[T_, T_, T_, T_, T_, T_, T_, T_, T_, T_, T_, T_, T_, F_, F_, F_, F_, F_, F_, F_, F_, F_, F_, F_, F_, F_] rfl rfl (by kernel_rfl) (fun _ _ _ h => h) (Or.inr ⟨by rfl, rfl⟩) ?_ ?_
    rotate_left
    ·simp only [Act.put, sA_, sB_, sC_, af_, ag_]
     rfl
    refine ay_ (i := 13) (N := some 185) (v := undef) (a' := ?_) #[T_, T_, T_, T_, T_, T_, T_, T_, T_, T_, T_, T_, T_, T_, F_, F_, F_, F_, F_, F_, F_, F_, F_, F_, F_, F_] rfl rfl (by kernel_rfl) (fun _ _ _ h => h) (Or.inr ⟨by rfl, rfl⟩) ?_ ?_
    rotate_left
    ·simp only [Act.put, sA_, sB_, sC_, af_, ag_]
     rfl
    refine ay_ (i := 14) (N := some 186) (v := ?_) (a' := ?_) #[T_, T_, T_, T_, T_, T_, T_, T_, T_, T_, T_, T_, T_, T_, T_, F_, F_, F_, F_, F_, F_, F_, F_, F_, F_, F_] rfl rfl (by kernel_rfl) (fun _ _ _ h => h) (Or.inl ⟨by rfl, ?_⟩) ?_ ?_
    rotate_left
    ·intro w'
     go_simp
     with_reducible rfl
    rotate_left
    ·simp only [Act.put, sA_, sB_, sC_, af_, ag_]
     rfl
    refine ay_ (i := 15) (N := some 187) (v := ?_) (a' := ?_) #[T_, T_, T_, T_, T_, T_, T_, T_, T_, T_, T_, T_, T_, T_, T_, T_, F_, F_, F_, F_, F_, F_, F_, F_, F_, F_] rfl rfl (by kernel_rfl) (fun _ _ _ h => h) (Or.inl ⟨by rfl, ?_⟩) ?_ ?_
    rotate_left
    ·intro w'
     go_simp
     with_reducible rfl
    rotate_left
    ·simp only [Act.put, sA_, sB_, sC_, af_, ag_]
     rfl
    refine ay_ (i := 16) (N := some 188) (v := ?_) (a' := ?_) #[T_, T_, T_, T_, T_, T_, T_, T_, T_, T_, T_, T_, T_, T_, T_, T_, T_, F_, F_, F_, F_, F_, F_, F_, F_, F_] rfl rfl (by kernel_rfl) (fun _ _ _ h => h) (Or.inl ⟨by rfl, ?_⟩) ?_ ?_
    rotate_left
    ·intro w'
     go_simp
     with_reducible rfl
    rotate_left
    ·simp only [Act.put, sA_, sB_, sC_, af_, ag_]
     rfl
    refine ay_ (i := 17) (N := some 189) (v := ?_) (a' := ?_) #[T_, T_, T_, T_, T_, T_, T_, T_, T_, T_, T_, T_, T_, T_, T_, T_, T_, T_, F_, F_, F_, F_, F_, F_, F_, F_] rfl rfl (by kernel_rfl) (fun _ _ _ h => h) (Or.inl ⟨by rfl, ?_⟩) ?_ ?_
    rotate_left
    ·intro w'
     go_simp
     with_reducible rfl
    rotate_left
    ·simp only [Act.put, sA_, sB_, sC_, af_, ag_]
     rfl
    refine ay_ (i := 18) (N := some 190) (v := ?_) (a' := ?_) #[T_, T_, T_, T_, T_, T_, T_, T_, T_, T_, T_, T_, T_, T_, T_, T_, T_, T_, T_, F_, F_, F_, F_, F_, F_, F_] rfl rfl (by kernel_rfl) (fun _ _ _ h => h) (Or.inl ⟨by rfl, ?_⟩) ?_ ?_
    rotate_left
    ·intro w'
     go_simp
     with_reducible rfl
    rotate_left
    ·simp only [Act.put, sA_, sB_, sC_, af_, ag_]
     rfl
    refine ay_ (i := 19) (N := some 191) (v := ?_) (a' := ?_) #[T_, T_, T_, T_, T_, T_, T_, T_, T_, T_, T_, T_, T_, T_, T_, T_, T_, T_, T_, T_, F_, F_, F_, F_, F_, F_] rfl rfl (by kernel_rfl) (fun _ _ _ h => h) (Or.inl ⟨by rfl, ?_⟩) ?_ ?_
    rotate_left
    ·intro w'
     go_simp
     with_reducible rfl
    rotate_left
    ·simp only [Act.put, sA_, sB_, sC_, af_, ag_]
     rfl
    refine ay_ (i := 21) (N := some 193) (v := ?_) (a' := ?_) #[T_, T_, T_, T_, T_, T_, T_, T_, T_, T_, T_, T_, T_, T_, T_, T_, T_, T_, T_, T_, F_, T_, F_, F_, F_, F_] rfl rfl (by kernel_rfl) (fun _ _ _ h => h) (Or.inl ⟨by rfl, ?_⟩) ?_ ?_
    rotate_left
    ·intro w'
     go_simp
     with_reducible rfl
    rotate_left
    ·simp only [Act.put, sA_, sB_, sC_, af_, ag_]
     rfl
    refine take_ (i := 20) (N := some 192) (v := ?_) (a' := ?_) #[T_, T_, T_, T_, T_, T_, T_, T_, T_, T_, T_, T_, T_, T_, T_, T_, T_, T_, T_, T_, T_, T_, F_, F_, F_, F_] rfl rfl (by kernel_rfl) (fun _ _ _ h => h) (Or.inl ⟨by rfl, ?_⟩) hHeld ?_ ?_
    rotate_left
    ·rintro w' ⟨s0, s1, s2, s3, s4, s5, s6, s7⟩
     go_simp
     with_reducible rfl
    rotate_left
    ·simp only [Act.put, sA_, sB_, sC_, af_, ag_]
     rfl
    refine one_ (i := 22) (N := some 194) #[T_, T_, T_, T_, T_, T_, T_, T_, T_, T_, T_, T_, T_, T_, T_, T_, T_, T_, T_, T_, T_, T_, T_, F_, F_, F_] rfl rfl (by kernel_rfl) (by decide) (fun K hK => ?_)
    refine goes_ Tryz.func11 (by kernel_rfl) rfl #[.agg #[.int .i64 0, .int .i64 0, .int .i64 0, .int .i64 0, .string ⟨#[]⟩, .slice none 0 0, .slice none 0 0], .agg #[.int .i64 0, .int .i64 0, .int .i64 0, .int .i64 0, .string ⟨#[]⟩, .slice none 0 0, .slice none 0 0]] (by rfl) rfl rfl (by simp only [List.map_toArray, List.map_cons, List.map_nil]; rfl) ?_
    with_reducible refine (same_nil wx.drew 0 0 0 0 ⟨#[]⟩).mono ?_
    rintro e wB ⟨rfl, hbB⟩
    refine ⟨_, rfl, ?_⟩
    have HBB := Lib.hid ((Below.refl _ wx).drew.trans hbB : Below wx.heap.size wx wB)
    clear hbB
    refine hK.out _ _ ⟨((b_ (s_ HGX.out HBB.out) 3).trans rfl), ((b_ (s_ HXX.out HBB.out) 0).trans rfl), ((b_ (s_ HXX.out HBB.out) 1).trans rfl), ((b_ (s_ HXX.out HBB.out) 2).trans rfl), ((b_ (s_ HXX.out HBB.out) 3).trans rfl), ((b_ (s_ HXX.out HBB.out) 4).trans rfl), ((b_ (s_ HXX.out HBB.out) 5).trans rfl), ((b_ (s_ HXX.out HBB.out) 6).trans rfl)⟩ (fun hHeld => ?_)
    clear hK K
    refine norm_ (a' := ?_) ?_ ?_
    rotate_left
    ·show Act.put _ (some 194) _ = _
     simp only [Act.put, sA_, sB_, sC_, af_, ag_]
     rfl
    refine ay_ (i := 23) (N := some 195) (v := ?_) (a' := ?_) #[T_, T_, T_, T_, T_, T_, T_, T_, T_, T_, T_, T_, T_, T_, T_, T_, T_, T_, T_, T_, T_, T_, T_, T_, F_, F_] rfl rfl (by kernel_rfl) (fun _ _ _ h => h) (Or.inl ⟨by rfl, ?_⟩) ?_ ?_
    rotate_left
    ·intro w'
     go_simp
     with_reducible rfl
    rotate_left
    ·simp only [Act.put, sA_, sB_, sC_, af_, ag_]
     rfl
    refine ay_ (i := 24) (N := some 196) (v := ?_) (a' := ?_) #[T_, T_, T_, T_, T_, T_, T_, T_, T_, T_, T_, T_, T_, T_, T_, T_, T_, T_, T_, T_, T_, T_, T_, T_, T_, F_] rfl rfl (by kernel_rfl) (fun _ _ _ h => h) (Or.inl ⟨by rfl, ?_⟩) ?_ ?_
    rotate_left
    ·intro w'
     go_simp
     with_reducible rfl
    rotate_left
    ·simp only [Act.put, sA_, sB_, sC_, af_, ag_]
     rfl
    refine ay_ (i := 25) (N := some 197) (v := ?_) (a' := ?_) #[T_, T_, T_, T_, T_, T_, T_, T_, T_, T_, T_, T_, T_, T_, T_, T_, T_, T_, T_, T_, T_, T_, T_, T_, T_, T_] rfl rfl (by kernel_rfl) (fun _ _ _ h => h) (Or.inl ⟨by rfl, ?_⟩) ?_ ?_
    rotate_left
    ·intro w'
     go_simp
     with_reducible rfl
    rotate_left
    ·simp only [Act.put, sA_, sB_, sC_, af_, ag_]
     rfl
    refine done_ (by kernel_rfl) ?_
    have HBO9 : Hid (Both wB gC gM (fun k => k < wB.heap.size) f id t false body vs t false body (vs.map fun v => v.f0) (vs.map fun v => v.f1)) := Lib.hid ((HBOX.out.below HBB.out).bound)
    have HB9 := Lib.hid (HBX.out.trans (HBB.out.mono HBX.out.size))
    clear HBB HBOX HBX HXX HGX HRX hHeld
    go_wp2_with fail
    go_roundg k1
    case measure => omega
    case rel => exact ⟨i + 1, t, false, body, vs, by first | (rw [hwi]; done) | (simp; done), Lib.hid (by have := HI80.out; omega), Lib.hid (by have := HT.out; omega), HBO9, HND, Lib.hid (by have := HVL.out; omega), HB9⟩
  have t5 : ((r : Int) == 0) = false := by simpa using hr0
  have t6 : ((r : Int) == 4) = false := by
   rw [beq_eq_false_iff_ne]
   omega
  clear d0 d1 d2 d3 d4 d5 hr
  have HVL5 : Hid (vs.length ≤ 5000) := Lib.hid (by have := HVL.out; have := HI2.out; omega)
  by_cases hacc : ∃ c n ns ks es, eb_ f t wt vs d.m.kd d.m.fr d.m.sq = true ∧ Good d.m.bd c n ns ks es ∧ f < ((CliP.whoL d.m.bd [] (vs ++ [⟨d.m.fr, d.m.bd⟩])).length : Int)
  rotate_left
  ·have hF : ∀ c n ns ks es, eb_ f t wt vs d.m.kd d.m.fr d.m.sq = true → Good d.m.bd c n ns ks es → ((CliP.whoL d.m.bd [] (vs ++ [⟨d.m.fr, d.m.bd⟩])).length : Int) ≤ f := fun c n ns ks es h1 h2 => by
    by_cases h3 : f < ((CliP.whoL d.m.bd [] (vs ++ [⟨d.m.fr, d.m.bd⟩])).length : Int)
    ·exact absurd ⟨c, n, ns, ks, es, h1, h2, h3⟩ hacc
    ·omega
   have hnd2 : eb_ f t wt vs d.m.kd d.m.fr d.m.sq = true → ((vs ++ [(⟨d.m.fr, d.m.bd⟩ : S80)]).map fun v => v.f0).Nodup := fun h => nodup_more HND.out (onTake_yes h).2.2.2.2.2
   have hFR : ∀ c n ns ks es, eb_ f t wt vs d.m.kd d.m.fr d.m.sq = true → Good d.m.bd c n ns ks es → (cntB ((vs.map fun v => v.f1) ++ [d.m.bd]) d.m.bd : Int) ≤ f := fun c n ns ks es h1 h2 => by
    have h3 := hF c n ns ks es h1 h2
    rw [who_cnt _ _ _ (hnd2 h1) (by simp), List.map_append] at h3
    simpa using h3
   have HFF := Lib.hid hF
   have HFR := Lib.hid hFR
   obtain ⟨vs2, hvs2⟩ : ∃ vs2, vs2 = more (eb_ f t wt vs d.m.kd d.m.fr d.m.sq) vs d.m.fr d.m.bd := ⟨_, rfl⟩
   have HND2 : Hid ((vs2.map fun v => v.f0).Nodup) := Lib.hid (by
    rw [hvs2]
    unfold more
    split
    ·rename_i h; exact hnd2 h
    ·exact HND.out)
   have HVL2 : Hid (vs2.length ≤ i + 1) := Lib.hid (by
    rw [hvs2]
    unfold more
    have := HVL.out
    split
    ·simp; omega
    ·omega)
   have HV2 := Lib.hid hvs2
   clear hacc hF hnd2 hFR hvs2
   go_wp2_with fail
   obtain ⟨okC, hC, hgC, hto⟩ := HBO7.out.c
   have HTO := Lib.hid hto
   clear hto
   refine (client_OnF hC hgC HF.out HVL5.out HSB.out HFF.out).mono ?_
   clear hC
   rintro e w8 ⟨rfl, hc8⟩
   rw [← HV2.out] at hc8
   obtain ⟨hb8, hk8, hl8⟩ := HTO.out _ _ _ _ _ hc8
   have hX8 := dd_ HX7.out hk8 (by omega)
   have HX8 := Lib.hid hX8
   have hlt8 := bj_ hX8
   have HBO8 := Lib.hid hb8.bound
   have HB8 := Lib.hid (HB7.out.trans (hl8.mono HGC.out))
   have e6 : w8.cell? ⟨bd, 6, none⟩ = some (.int .i64 d.m.kd) := (b_ hX8 6).trans rfl
   have e7 : w8.cell? ⟨bd, 7, none⟩ = some (.int .i64 d.m.fr) := (b_ hX8 7).trans rfl
   have e8 : w8.cell? ⟨bd, 8, none⟩ = some (.int .i64 d.m.vw) := (b_ hX8 8).trans rfl
   have e9 : w8.cell? ⟨bd, 9, none⟩ = some (.int .i64 d.m.sq) := (b_ hX8 9).trans rfl
   have e10 : w8.cell? ⟨bd, 10, none⟩ = some (.string d.m.bd) := (b_ hX8 10).trans rfl
   have e11 : w8.cell? ⟨bd, 11, none⟩ = some (.slice A6 d.m.ps.length c6) := (b_ hX8 11).trans rfl
   have e12 : w8.cell? ⟨bd, 12, none⟩ = some (.slice A7 d.m.cs.length c7) := (b_ hX8 12).trans rfl
   clear hc8 hb8 hk8 hl8 HTO HBO7 HB7 HKS7 HX7 hX8 d6 d7 d8 d9 d10 d11 d12
   unfold accZ
   go_wp2_with fail
   obtain ⟨bx, hbx⟩ : ∃ bx, bx = w8.heap.size := ⟨_, rfl⟩
   have hXx := heap_alloc_new w8 (.cells #[.int .i64 0, .int .i64 0, .int .i64 0, .int .i64 0, .slice none 0 0, .slice none 0 0, .slice none 0 0] 59)
   have hBx : Below w8.heap.size w8 (w8.alloc (.cells #[.int .i64 0, .int .i64 0, .int .i64 0, .int .i64 0, .slice none 0 0, .slice none 0 0, .slice none 0 0] 59)) := (Below.refl _ w8).alloc (Nat.le_refl _) _
   generalize w8.alloc (.cells #[.int .i64 0, .int .i64 0, .int .i64 0, .int .i64 0, .slice none 0 0, .slice none 0 0, .slice none 0 0] 59) = wx at hXx hBx ⊢
   rw [← hbx] at hXx HBO8 ⊢
   have HXx := Lib.hid hXx
   have HBOx := HBO8.out.below hBx
   have HBx := Lib.hid (HB8.out.trans (hBx.mono HB8.out.size))
   obtain ⟨okR, hR, hgR, hto⟩ := HBOx.m
   have HTO := Lib.hid hto
   clear hto hXx hBx hbx HBO8 HB8 e6 e7 e8 e9 e10 e11 e12 hlt8 HBOx HX8
   refine (ref_OnF hR hgR HF.out HVL5.out HSB.out HFR.out).mono ?_
   clear hR
   rintro e w9 ⟨rfl, hc9⟩
   rw [← HV2.out] at hc9
   obtain ⟨hb9, hk9, hl9⟩ := HTO.out _ _ _ _ _ _ hc9
   have hX9 := dd_ HXx.out hk9 (by omega)
   have HX9 := Lib.hid hX9
   have hlt9 := bj_ hX9
   have HBO9 := Lib.hid hb9.bound
   have HB9 := Lib.hid (HBx.out.trans (hl9.mono HGM.out))
   have x0 : w9.cell? ⟨bx, 0, none⟩ = some (.int .i64 0) := (b_ hX9 0).trans rfl
   have x1 : w9.cell? ⟨bx, 1, none⟩ = some (.int .i64 0) := (b_ hX9 1).trans rfl
   have x2 : w9.cell? ⟨bx, 2, none⟩ = some (.int .i64 0) := (b_ hX9 2).trans rfl
   have x3 : w9.cell? ⟨bx, 3, none⟩ = some (.int .i64 0) := (b_ hX9 3).trans rfl
   have x4 : w9.cell? ⟨bx, 4, none⟩ = some (.slice none 0 0) := (b_ hX9 4).trans rfl
   have x5 : w9.cell? ⟨bx, 5, none⟩ = some (.slice none 0 0) := (b_ hX9 5).trans rfl
   have x6 : w9.cell? ⟨bx, 6, none⟩ = some (.slice none 0 0) := (b_ hX9 6).trans rfl
   clear hc9 hb9 hk9 hl9 HTO HBx HXx hX9
   unfold accZ
   go_wp2_with fail
   have hXy := heap_alloc_new w9 (.cells #[.int .i64 0, .int .i64 0, .int .i64 0, .int .i64 0, .slice none 0 0, .slice none 0 0, .slice none 0 0] 59)
   have hBy : Below w9.heap.size w9 (w9.alloc (.cells #[.int .i64 0, .int .i64 0, .int .i64 0, .int .i64 0, .slice none 0 0, .slice none 0 0, .slice none 0 0] 59)) := (Below.refl _ w9).alloc (Nat.le_refl _) _
   obtain ⟨bY, hbY⟩ : ∃ bY, bY = w9.heap.size := ⟨_, rfl⟩
   generalize w9.alloc (.cells #[.int .i64 0, .int .i64 0, .int .i64 0, .int .i64 0, .slice none 0 0, .slice none 0 0, .slice none 0 0] 59) = wy at hXy hBy ⊢
   have hsy := hBy.size
   have HBOy : Hid (Both wy gC gM (fun k => k < wy.heap.size) f id t wt body vs2 t wt body (vs2.map fun v => v.f0) (vs2.map fun v => v.f1)) := Lib.hid ((HBO9.out.below hBy).mono (fun k hk => by have h1 : k < w9.heap.size := hk; omega))
   have HBy := Lib.hid (HB9.out.trans (hBy.mono HB9.out.size))
   have HXy := Lib.hid (s_ HX9.out hBy)
   rw [← hbY] at hXy ⊢
   have HYy := Lib.hid hXy
   clear hXy hBy hbY hsy HBO9 HB9 HX9 x0 x1 x2 x3 x4 x5 x6 hlt9
   refine (Mf.becketref09_Alike.calls 140000 0 0 none 0 [] none 0 [] none 0 [] 0 0 none 0 [] none 0 [] none 0 [] true _ (Kd.C_nil _ _) (Nat.le_refl _) (Kd.C_nil _ _) (Nat.le_refl _) (Kd.C_nil _ _) (Nat.le_refl _) (Kd.C_nil _ _) (Nat.le_refl _) (Kd.C_nil _ _) (Nat.le_refl _) (Kd.C_nil _ _) (Nat.le_refl _) (MsgP.alike_f 0 0 [] [] [] (by decide) (by decide) (by decide) (by simp) 140000 (Nat.le_refl _))).mono ?_
   rintro e w10 ⟨rfl, hb10⟩
   have hx10 := s_ HXy.out hb10
   have hy10 := s_ HYy.out hb10
   have p0 : w10.cell? ⟨bx, 0, none⟩ = some (.int .i64 0) := (b_ hx10 0).trans rfl
   have p1 : w10.cell? ⟨bx, 1, none⟩ = some (.int .i64 0) := (b_ hx10 1).trans rfl
   have p2 : w10.cell? ⟨bY, 0, none⟩ = some (.int .i64 0) := (b_ hy10 0).trans rfl
   have p3 : w10.cell? ⟨bY, 1, none⟩ = some (.int .i64 0) := (b_ hy10 1).trans rfl
   have hs10 := hb10.size
   have HBO10 : Hid (Both w10 gC gM (fun k => k < w10.heap.size) f id t wt body vs2 t wt body (vs2.map fun v => v.f0) (vs2.map fun v => v.f1)) := Lib.hid ((HBOy.out.below hb10).mono (fun k hk => by have h1 : k < wy.heap.size := hk; omega))
   have HB10 := Lib.hid (HBy.out.trans (hb10.mono HBy.out.size))
   clear hx10 hy10 hb10 hs10 HBOy HBy HXy HYy
   go_wp2_with fail
   go_roundg k1
   case measure => omega
   case rel => exact ⟨i + 1, t, wt, body, vs2, by first | (rw [hwi]; done) | (simp; done), Lib.hid (by have := HI80.out; omega), Lib.hid (by have := HT.out; omega), HBO10, HND2, HVL2, HB10⟩
  ·obtain ⟨c, n, ns, ks, es, hT, hG, hq⟩ := hacc
   have hnd2 : ((vs ++ [(⟨d.m.fr, d.m.bd⟩ : S80)]).map fun v => v.f0).Nodup := nodup_more HND.out (onTake_yes hT).2.2.2.2.2
   have hqR : f < (cntB ((vs.map fun v => v.f1) ++ [d.m.bd]) d.m.bd : Int) := by
    rw [who_cnt _ _ _ hnd2 (by simp), List.map_append] at hq
    simpa using hq
   have HGD := Lib.hid hG
   have HTT := Lib.hid hT
   have HQQ := Lib.hid hq
   have HQR := Lib.hid hqR
   obtain ⟨vs2, hvs2⟩ : ∃ vs2, vs2 = vs ++ [(⟨d.m.fr, d.m.bd⟩ : S80)] := ⟨_, rfl⟩
   have HND2 : Hid ((vs2.map fun v => v.f0).Nodup) := Lib.hid (by rw [hvs2]; exact hnd2)
   have HVL2 : Hid (vs2.length ≤ i + 1) := Lib.hid (by rw [hvs2]; have := HVL.out; simp; omega)
   have HV2 := Lib.hid hvs2
   clear hG hT hq hqR hnd2 hvs2
   go_wp2_with fail
   obtain ⟨okC, okR, hC, hR, h3, h4, h5⟩ := HBO7.out
   have HR7 := Lib.hid hR
   have H3 := Lib.hid h3
   have H4 := Lib.hid h4
   have H5 := Lib.hid h5
   clear hR h3 h4 h5
   refine (client_OnT hC HF.out HVL5.out HTT.out HGD.out HQQ.out).mono ?_
   clear hC
   rintro e w8 ⟨av, rfl, ⟨X2, x2, X3, x3, X4, x4, rfl, hx2, hx3, hx4⟩, q1, q2, q3⟩
   rw [← HV2.out] at q1
   have hX8 := dd_ HX7.out q2 (fun h => by have h1 := (H3.out _ h).1; have h2 : bd < bd := h1; omega)
   have HX8 := Lib.hid hX8
   have hlt8 := bj_ hX8
   have hsz8 := q2.1
   have HR8 := Lib.hid (HR7.out.kept q2 (fun k hk hc => H5.out k hc hk))
   have HC8 := Lib.hid q1.bound
   have HB8 := Lib.hid (HB7.out.trans (q3.mono HGC.out))
   have HQ2 := Lib.hid hx2
   have HQ3 := Lib.hid hx3
   have HQ4 := Lib.hid hx4
   have HZ8 := Lib.hid hsz8
   have e6 : w8.cell? ⟨bd, 6, none⟩ = some (.int .i64 d.m.kd) := (b_ hX8 6).trans rfl
   have e7 : w8.cell? ⟨bd, 7, none⟩ = some (.int .i64 d.m.fr) := (b_ hX8 7).trans rfl
   have e8 : w8.cell? ⟨bd, 8, none⟩ = some (.int .i64 d.m.vw) := (b_ hX8 8).trans rfl
   have e9 : w8.cell? ⟨bd, 9, none⟩ = some (.int .i64 d.m.sq) := (b_ hX8 9).trans rfl
   have e10 : w8.cell? ⟨bd, 10, none⟩ = some (.string d.m.bd) := (b_ hX8 10).trans rfl
   have e11 : w8.cell? ⟨bd, 11, none⟩ = some (.slice A6 d.m.ps.length c6) := (b_ hX8 11).trans rfl
   have e12 : w8.cell? ⟨bd, 12, none⟩ = some (.slice A7 d.m.cs.length c7) := (b_ hX8 12).trans rfl
   clear q1 q2 q3 hx2 hx3 hx4 hsz8 HBO7 HB7 HKS7 HX7 hX8 d6 d7 d8 d9 d10 d11 d12 HR7
   go_wp2_with fail
   obtain ⟨bx, hbx⟩ : ∃ bx, bx = w8.heap.size := ⟨_, rfl⟩
   have hXx := heap_alloc_new w8 (.cells #[.int .i64 id, .int .i64 t, .int .i64 c, .int .i64 n, .slice X2 ns.length x2, .slice X3 ks.length x3, .slice X4 es.length x4] 59)
   have hBx : Below w8.heap.size w8 (w8.alloc (.cells #[.int .i64 id, .int .i64 t, .int .i64 c, .int .i64 n, .slice X2 ns.length x2, .slice X3 ks.length x3, .slice X4 es.length x4] 59)) := (Below.refl _ w8).alloc (Nat.le_refl _) _
   have hsx : (w8.alloc (.cells #[.int .i64 id, .int .i64 t, .int .i64 c, .int .i64 n, .slice X2 ns.length x2, .slice X3 ks.length x3, .slice X4 es.length x4] 59)).heap.size = w8.heap.size + 1 := by simp
   generalize w8.alloc (.cells #[.int .i64 id, .int .i64 t, .int .i64 c, .int .i64 n, .slice X2 ns.length x2, .slice X3 ks.length x3, .slice X4 es.length x4] 59) = wx at hXx hBx hsx ⊢
   rw [← hbx] at hXx hsx ⊢
   have HXx := Lib.hid hXx
   have HCx := Lib.hid (HC8.out.below hBx)
   have HRx := HR8.out.below hBx
   have hgM := HRx.glt
   have HBx := Lib.hid (HB8.out.trans (hBx.mono HB8.out.size))
   have HP2 := Lib.hid (And.intro HQ2.out.1 (Kd.R_below (Kd.R_bound HQ2.out.2) hBx))
   have HP3 := Lib.hid (And.intro HQ3.out.1 (Kd.R_below (Kd.R_bound HQ3.out.2) hBx))
   have HP4 := Lib.hid (And.intro HQ4.out.1 (Kd.S_below (Kd.S_bound HQ4.out.2) hBx))
   have HSX := Lib.hid hsx
   have HBXX := Lib.hid hbx
   clear hXx hBx hbx hsx HB8 e6 e7 e8 e9 e10 e11 e12 hlt8 HX8 HR8 HC8 HQ2 HQ3 HQ4
   refine (ref_OnT HRx HF.out HVL5.out HTT.out HGD.out HQR.out).mono ?_
   clear HRx
   rintro e w9 ⟨av, rfl, ⟨Y2, y2, Y3, y3, Y4, y4, rfl, hy2, hy3, hy4⟩, q1, q2, q3⟩
   rw [← HV2.out] at q1
   have hno : ∀ k, w7.heap.size ≤ k → ¬ okR k := fun k hk h => by have := (H4.out k h).2; omega
   have hX9 := dd_ HXx.out q2 (hno _ (by rw [HBXX.out]; exact HZ8.out))
   have HX9 := Lib.hid hX9
   have hlt9 := bj_ hX9
   have hsz9 := q2.1
   have hBO9 : Both w9 gC gM (fun k => k < w9.heap.size) f id t false body vs2 t false body (vs2.map fun v => v.f0) (vs2.map fun v => v.f1) := by
    refine ⟨_, _, HCx.out.kept q2 (fun k hk hr => hk.1.elim (fun h => H5.out k h hr) (fun h => hno k h hr)), q1.bound, fun k hk => ?_, fun k hk => ⟨hk.2.2, hk.2.2⟩, fun k hk hr => ?_⟩
    ·have h1 := hk.2.2
     have h2 := HSX.out
     have h3 := HBXX.out
     exact ⟨by show k < w9.heap.size; omega, by omega⟩
    ·have h1 := hk.2.2
     have h2 := HSX.out
     have h3 := HBXX.out
     rcases hr.1 with h | h
     ·exact hk.1.elim (fun h' => H5.out k h' h) (fun h' => hno k h' h)
     ·omega
   have HBO9 := Lib.hid hBO9
   have HB9 := Lib.hid (HBx.out.trans (q3.mono HGM.out))
   have HW2 := Lib.hid (And.intro HP2.out.1 (Kd.R_kept HP2.out.2 q2 (fun k hk => hno k hk.2.1)))
   have HW3 := Lib.hid (And.intro HP3.out.1 (Kd.R_kept HP3.out.2 q2 (fun k hk => hno k hk.2.1)))
   have HW4 := Lib.hid (And.intro HP4.out.1 (Kd.S_kept HP4.out.2 q2 (fun k hk => hno k hk.2.1)))
   have HV22 := Lib.hid hy2
   have HV23 := Lib.hid hy3
   have HV24 := Lib.hid hy4
   have z0 : w9.cell? ⟨bx, 0, none⟩ = some (.int .i64 id) := (b_ hX9 0).trans rfl
   have z1 : w9.cell? ⟨bx, 1, none⟩ = some (.int .i64 t) := (b_ hX9 1).trans rfl
   have z2 : w9.cell? ⟨bx, 2, none⟩ = some (.int .i64 c) := (b_ hX9 2).trans rfl
   have z3 : w9.cell? ⟨bx, 3, none⟩ = some (.int .i64 n) := (b_ hX9 3).trans rfl
   have z4 : w9.cell? ⟨bx, 4, none⟩ = some (.slice X2 ns.length x2) := (b_ hX9 4).trans rfl
   have z5 : w9.cell? ⟨bx, 5, none⟩ = some (.slice X3 ks.length x3) := (b_ hX9 5).trans rfl
   have z6 : w9.cell? ⟨bx, 6, none⟩ = some (.slice X4 es.length x4) := (b_ hX9 6).trans rfl
   clear q1 q2 q3 hno hX9 hsz9 hBO9 hy2 hy3 hy4 HP2 HP3 HP4 HBx HXx HCx hgM
   go_wp2_with fail
   have hXy := heap_alloc_new w9 (.cells #[.int .i64 id, .int .i64 t, .int .i64 c, .int .i64 n, .slice Y2 ns.length y2, .slice Y3 ks.length y3, .slice Y4 es.length y4] 59)
   have hBy : Below w9.heap.size w9 (w9.alloc (.cells #[.int .i64 id, .int .i64 t, .int .i64 c, .int .i64 n, .slice Y2 ns.length y2, .slice Y3 ks.length y3, .slice Y4 es.length y4] 59)) := (Below.refl _ w9).alloc (Nat.le_refl _) _
   obtain ⟨bY, hbY⟩ : ∃ bY, bY = w9.heap.size := ⟨_, rfl⟩
   generalize w9.alloc (.cells #[.int .i64 id, .int .i64 t, .int .i64 c, .int .i64 n, .slice Y2 ns.length y2, .slice Y3 ks.length y3, .slice Y4 es.length y4] 59) = wy at hXy hBy ⊢
   have hsy := hBy.size
   have HBOy : Hid (Both wy gC gM (fun k => k < wy.heap.size) f id t false body vs2 t false body (vs2.map fun v => v.f0) (vs2.map fun v => v.f1)) := Lib.hid ((HBO9.out.below hBy).mono (fun k hk => by have h1 : k < w9.heap.size := hk; omega))
   have HBy := Lib.hid (HB9.out.trans (hBy.mono HB9.out.size))
   have HXy := Lib.hid (s_ HX9.out hBy)
   have HByy := Lib.hid hBy
   rw [← hbY] at hXy ⊢
   have HYy := Lib.hid hXy
   clear hXy hBy hbY hsy HBO9 HB9 HX9 z0 z1 z2 z3 z4 z5 z6 hlt9
   refine (Mf.becketref09_Alike.calls 140000 c n X2 x2 ns X3 x3 ks X4 x4 es c n Y2 y2 ns Y3 y3 ks Y4 y4 es true wy (Kd.C_below (Kd.R_reads' HW2.out.2).2.2 HByy.out) HW2.out.1 (Kd.C_below (Kd.R_reads' HW3.out.2).2.2 HByy.out) HW3.out.1 (Kd.C_below (Kd.S_reads' HW4.out.2).2.2 HByy.out) HW4.out.1 (Kd.C_below (Kd.R_reads' HV22.out.2).2.2 HByy.out) HV22.out.1 (Kd.C_below (Kd.R_reads' HV23.out.2).2.2 HByy.out) HV23.out.1 (Kd.C_below (Kd.S_reads' HV24.out.2).2.2 HByy.out) HV24.out.1 (MsgP.alike_f c n ns ks es HGD.out.2.2.1 HGD.out.2.2.2.1 HGD.out.2.2.2.2.1 HGD.out.2.2.2.2.2 140000 (Nat.le_refl _))).mono ?_
   rintro e w10 ⟨rfl, hb10⟩
   have hx10 := s_ HXy.out hb10
   have hy10 := s_ HYy.out hb10
   have p0 : w10.cell? ⟨bx, 0, none⟩ = some (.int .i64 id) := (b_ hx10 0).trans rfl
   have p1 : w10.cell? ⟨bx, 1, none⟩ = some (.int .i64 t) := (b_ hx10 1).trans rfl
   have p2 : w10.cell? ⟨bY, 0, none⟩ = some (.int .i64 id) := (b_ hy10 0).trans rfl
   have p3 : w10.cell? ⟨bY, 1, none⟩ = some (.int .i64 t) := (b_ hy10 1).trans rfl
   have hs10 := hb10.size
   have HBO10 : Hid (Both w10 gC gM (fun k => k < w10.heap.size) f id t false body vs2 t false body (vs2.map fun v => v.f0) (vs2.map fun v => v.f1)) := Lib.hid ((HBOy.out.below hb10).mono (fun k hk => by have h1 : k < wy.heap.size := hk; omega))
   have HB10 := Lib.hid (HBy.out.trans (hb10.mono HBy.out.size))
   clear hx10 hy10 hb10 hs10 HBOy HBy HXy HYy
   go_wp2_with fail
   go_roundg k1
   case measure => omega
   case rel => exact ⟨i + 1, t, false, body, vs2, by first | (rw [hwi]; done) | (simp; done), Lib.hid (by have := HI80.out; omega), Lib.hid (by have := HT.out; omega), HBO10, HND2, HVL2, HB10⟩
end Go.Proofs.YtlcfcaokihoplaaGreatDoor.Cli
