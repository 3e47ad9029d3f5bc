-- Cut by a program of this session (wip/shake.py) out of a text of this seat: what this claim doesn't reach is struck out. Lean checks it.
import Derived.Test.YtlcfcaokihoplaaDoorClientGCo
namespace Go.Proofs.YtlcfcaokihoplaaDoor.Cli
open Go.RowKit Go.Proofs.YtlcfcaokihoplaaDoor.Ms Go.Proofs.YtlcfcaokihoplaaDoorW.PrintWords Go.Proofs.YtlcfcaokihoplaaDoorW.PrintLast Go.Proofs.YtlcfcaokihoplaaDoorW.PrintMore
attribute [local go_sem] Go.Proofs.YtlcfcaokihoplaaDoor.Ms.eqlErr Go.Proofs.YtlcfcaokihoplaaDoor.Ms.neqErr Go.Proofs.YtlcfcaokihoplaaDoor.Ms.eqlErrNil Go.Proofs.YtlcfcaokihoplaaDoor.Ms.neqErrNil
set_option linter.unusedVariables false
set_option linter.unusedSimpArgs false
structure DG where
  what : Int
  kd : Int
  nm : ByteArray
  pt : ByteArray
  ks : List ByteArray
  n : Int
  m : MG
def DeedR (W : World) (d : DG) (cs : List Value) : Prop :=
  ∃ A0 c0 A1 c1 A2 c2, cs = [.int .i64 d.what, .int .i64 d.kd, .string d.nm, .string d.pt, .slice A0 d.ks.length c0, .int .i64 d.n, .int .i64 d.m.kd, .int .i64 d.m.fr, .int .i64 d.m.vw, .int .i64 d.m.sq, .string d.m.bd, .slice A1 d.m.ps.length c1, .slice A2 d.m.cs.length c2] ∧ (-9223372036854775808 ≤ d.what ∧ d.what ≤ 9223372036854775807) ∧
    (d.ks.length ≤ c0 ∧ Kd.C Kd.string W A0 d.ks.length d.ks) ∧ (d.m.ps.length ≤ c1 ∧ Kd.C k80 W A1 d.m.ps.length d.m.ps) ∧ (d.m.cs.length ≤ c2 ∧ Kd.C k67 W A2 d.m.cs.length d.m.cs)
theorem DeedR.below {W W' : World} {d : DG} {cs : List Value} (h : DeedR W d cs) (hb : Below W.heap.size W W') : DeedR W' d cs := by
  obtain ⟨A0, c0, A1, c1, A2, c2, h1, h2, h3, h4, h5⟩ := h
  exact ⟨A0, c0, A1, c1, A2, c2, h1, h2, ⟨h3.1, Kd.C_below h3.2 hb⟩, ⟨h4.1, Kd.C_below h4.2 hb⟩, ⟨h5.1, Kd.C_below h5.2 hb⟩⟩
def Deeds (W : World) (A : Option Addr) (n : Nat) (ds : List DG) : Prop := ReadsRow (DeedR W) 13 W A n ds
theorem Deeds.below {W W' : World} {A : Option Addr} {n : Nat} {ds : List DG} (h : Deeds W A n ds) (hb : Below W.heap.size W W') : Deeds W' A n ds :=
  ReadsRow.imp_ h hb (fun _ _ h => h.below hb)
def deedCells (d : DG) (A0 : Option Addr) (c0 : Nat) (A1 : Option Addr) (c1 : Nat) (A2 : Option Addr) (c2 : Nat) : List Value := [.int .i64 d.what, .int .i64 d.kd, .string d.nm, .string d.pt, .slice A0 d.ks.length c0, .int .i64 d.n, .int .i64 d.m.kd, .int .i64 d.m.fr, .int .i64 d.m.vw, .int .i64 d.m.sq, .string d.m.bd, .slice A1 d.m.ps.length c1, .slice A2 d.m.cs.length c2]
theorem Deeds.get {W : World} {A : Option Addr} {ds : List DG} (h : Deeds W A ds.length ds) (i : Int) (h0 : 0 ≤ i) (h1 : i < ds.length) :
    ∃ ad, A = some ad ∧ ∃ (d : DG) (A0 : Option Addr) (c0 : Nat) (A1 : Option Addr) (c1 : Nat) (A2 : Option Addr) (c2 : Nat), (-9223372036854775808 ≤ d.what ∧ d.what ≤ 9223372036854775807) ∧
      (d.ks.length ≤ c0 ∧ Kd.C Kd.string W A0 d.ks.length d.ks) ∧ (d.m.ps.length ≤ c1 ∧ Kd.C k80 W A1 d.m.ps.length d.m.ps) ∧ (d.m.cs.length ≤ c2 ∧ Kd.C k67 W A2 d.m.cs.length d.m.cs) ∧
      W.cell? (ad.add (i.toNat * 13)) = some (.int .i64 d.what) ∧ ∀ j u, (deedCells d A0 c0 A1 c1 A2 c2)[j + 1]? = some u → W.cell? ⟨(ad.add (i.toNat * 13)).block, (ad.add (i.toNat * 13)).off + (j + 1), none⟩ = some u := by
  obtain ⟨ad, cs, e, hl, ⟨A0, c0, A1, c1, A2, c2, rfl, r1, r2, r3, r4⟩, hc⟩ := ReadsRow.get_ h ⟨0, 0, ⟨#[]⟩, ⟨#[]⟩, [], 0, ⟨0, 0, 0, 0, ⟨#[]⟩, [], []⟩⟩ i h0 h1
  refine ⟨ad, e, _, A0, c0, A1, c1, A2, c2, r1, r2, r3, r4, hc 0 _ rfl, fun j u hj => ?_⟩
  rw [← hc (j + 1) u hj, ← Addr.add_add]
  rfl
theorem askErr_none {wt : Bool} {t : Int} {may : Bool} (h : askErr wt t may = none) : wt = false := by
  unfold askErr at h
  cases wt with
  | false => rfl
  | true => rw [if_pos rfl] at h; cases h
theorem askErr_some {wt : Bool} {t er : Int} {may : Bool} (ht : t < 1000) (h : askErr wt t may = some er) : (wt = true ∧ er = 6) ∨ (wt = false ∧ er = 1) := by
  unfold askErr at h
  cases wt with
  | true => rw [if_pos rfl] at h; cases h; exact .inl ⟨rfl, rfl⟩
  | false =>
    rw [if_neg (by decide), if_neg (by omega)] at h
    cases may with
    | true => rw [if_pos rfl] at h; cases h
    | false => rw [if_neg (by decide)] at h; cases h; exact .inr ⟨rfl, rfl⟩
set_option maxHeartbeats 16000000 in
set_option maxRecDepth 100000 in
theorem once_calls (f : Int) (A1 : Option Addr) (c1 : Nat) (ds : List DG) (w : World) (hD : Deeds w A1 ds.length ds) :
    Calls Tryd.prog 4 #[.int .i64 f, .slice A1 ds.length c1] w fun e w' => e = .returned (.bool true) ∧ Below w.heap.size w w' := by
  have HD := Lib.hid hD
  clear hD
  go_enter Tryd.func4, Tryd.ntmps4
  go_wp2_with fail
  refine (up_calls _).mono ?_
  rintro e w1 ⟨rfl, hb1⟩
  have HB1 := Lib.hid hb1
  clear hb1
  by_cases hno : f < 1 ∨ 4 < f
  · have t : decide (f < 1) = true ∨ (decide (f < 1) = false ∧ decide (4 < f) = true) := by
      by_cases a : f < 1
      · exact .inl (by simpa using a)
      · exact .inr ⟨by simpa using a, by simp; omega⟩
    clear hno
    rcases t with t1 | ⟨t1, t2⟩
    all_goals
      go_wp2
      go_ret
      exact ⟨rfl, HB1.out⟩
  have t1 : decide (f < 1) = false := by simp; omega
  have t2 : decide (4 < f) = false := by simp; omega
  have HF : Hid (1 ≤ f ∧ f ≤ 4) := Lib.hid (by omega)
  clear hno
  go_wp2_with fail
  refine (client_New w1 f 2 HF.out.1 HF.out.2 (by decide) (by decide)).mono ?_
  rintro e w3 ⟨rfl, hn3, hb3⟩
  have HN3 := Lib.hid hn3
  have HB3 := Lib.hid (HB1.out.trans (hb3.mono HB1.out.size))
  have HG : Hid (w.heap.size ≤ w1.heap.size) := Lib.hid HB1.out.size
  obtain ⟨g, hg⟩ : ∃ g, g = w1.heap.size := ⟨_, rfl⟩
  rw [← hg] at HN3 ⊢
  have HGE := Lib.hid hg
  clear hn3 hb3 HB1 hg t1 t2
  go_wp2_with fail
  go_loopg [8, 9, 10] 80 (fun kq v8 v9 v10 w' => ∃ (i : Nat) (t : Int) (wt : Bool) (body : ByteArray) (vs : List S70) (okN : Nat → Prop), v8 = .bool wt ∧ v9 = .int .i64 t ∧ v10 = .int .i64 (i : Int) ∧ Hid (i + kq = 80) ∧ Hid (0 ≤ t ∧ t ≤ i) ∧ Hid (ClientAt w' g okN g f 2 t wt body vs) ∧ Hid (vs.length ≤ i) ∧ Hid (Below w.heap.size w w'))
  case atStart => exact ⟨0, 0, false, _, [], _, rfl, rfl, rfl, Lib.hid (by omega), Lib.hid (by omega), HN3, Lib.hid (by simp), HB3⟩
  case round =>
    clear HN3 HB3
    obtain ⟨i, t, wt, body, vs, okN, rfl, rfl, rfl, HI, HT, HN, HVL, HB⟩ := hrel
    by_cases hin : i < ds.length ∧ i < 80
    rotate_left
    · have hx : decide (i < ds.length) = false ∨ (decide (i < ds.length) = true ∧ decide ((i : Int) < 80) = false) := by
        by_cases h1 : i < ds.length
        · exact .inr ⟨by simpa using h1, by simp; omega⟩
        · exact .inl (by simpa using h1)
      clear hin
      rcases hx with t1 | ⟨t1, t2⟩
      all_goals
        go_wp2
        go_ret
        exact ⟨rfl, HB.out⟩
    obtain ⟨hi1, hi2⟩ := hin
    have t1 : decide (i < ds.length) = true := by simpa using hi1
    have t2 : decide ((i : Int) < 80) = true := by simp; omega
    cases gk with
    | zero => have := HI.out; omega
    | succ k1 =>
    obtain ⟨ad, rfl, d, A0, c0, A6, c6, A7, c7, hwh, hks, hps, hcs, x0, hx⟩ := Deeds.get (HD.out.below HB.out) (i : Int) (by omega) (by omega)
    rw [Int.toNat_natCast] at x0 hx
    have x1 : wr.cell? ⟨(ad.add (i * 13)).block, (ad.add (i * 13)).off + 1, none⟩ = some (.int .i64 d.kd) := hx 0 _ rfl
    have x2 : wr.cell? ⟨(ad.add (i * 13)).block, (ad.add (i * 13)).off + 2, none⟩ = some (.string d.nm) := hx 1 _ rfl
    have x3 : wr.cell? ⟨(ad.add (i * 13)).block, (ad.add (i * 13)).off + 3, none⟩ = some (.string d.pt) := hx 2 _ rfl
    have x4 : wr.cell? ⟨(ad.add (i * 13)).block, (ad.add (i * 13)).off + 4, none⟩ = some (.slice A0 d.ks.length c0) := hx 3 _ rfl
    have x5 : wr.cell? ⟨(ad.add (i * 13)).block, (ad.add (i * 13)).off + 5, none⟩ = some (.int .i64 d.n) := hx 4 _ rfl
    have x6 : wr.cell? ⟨(ad.add (i * 13)).block, (ad.add (i * 13)).off + 6, none⟩ = some (.int .i64 d.m.kd) := hx 5 _ rfl
    have x7 : wr.cell? ⟨(ad.add (i * 13)).block, (ad.add (i * 13)).off + 7, none⟩ = some (.int .i64 d.m.fr) := hx 6 _ rfl
    have x8 : wr.cell? ⟨(ad.add (i * 13)).block, (ad.add (i * 13)).off + 8, none⟩ = some (.int .i64 d.m.vw) := hx 7 _ rfl
    have x9 : wr.cell? ⟨(ad.add (i * 13)).block, (ad.add (i * 13)).off + 9, none⟩ = some (.int .i64 d.m.sq) := hx 8 _ rfl
    have x10 : wr.cell? ⟨(ad.add (i * 13)).block, (ad.add (i * 13)).off + 10, none⟩ = some (.string d.m.bd) := hx 9 _ rfl
    have x11 : wr.cell? ⟨(ad.add (i * 13)).block, (ad.add (i * 13)).off + 11, none⟩ = some (.slice A6 d.m.ps.length c6) := hx 10 _ rfl
    have x12 : wr.cell? ⟨(ad.add (i * 13)).block, (ad.add (i * 13)).off + 12, none⟩ = some (.slice A7 d.m.cs.length c7) := hx 11 _ rfl
    have hwi : wrap64 ((i : Int) + 1) = ((i + 1 : Nat) : Int) := by unfold wrap64; omega
    have HWH := Lib.hid hwh
    have HKS := Lib.hid hks
    have HPS := Lib.hid hps
    have HCS := Lib.hid hcs
    have HI2 := Lib.hid hi2
    clear hwh hks hps hcs hx
    go_wp2_with fail
    obtain ⟨bd, hbd⟩ : ∃ bd, bd = wr.heap.size := ⟨_, rfl⟩
    have hX := heap_alloc_new wr (.cells #[.int .i64 d.what, .int .i64 d.kd, .string d.nm, .string d.pt, .slice A0 d.ks.length c0, .int .i64 d.n, .int .i64 d.m.kd, .int .i64 d.m.fr, .int .i64 d.m.vw, .int .i64 d.m.sq, .string d.m.bd, .slice A6 d.m.ps.length c6, .slice A7 d.m.cs.length c7] 52)
    have hBa : Below wr.heap.size wr (wr.alloc (.cells #[.int .i64 d.what, .int .i64 d.kd, .string d.nm, .string d.pt, .slice A0 d.ks.length c0, .int .i64 d.n, .int .i64 d.m.kd, .int .i64 d.m.fr, .int .i64 d.m.vw, .int .i64 d.m.sq, .string d.m.bd, .slice A6 d.m.ps.length c6, .slice A7 d.m.cs.length c7] 52)) := (Below.refl _ wr).alloc (Nat.le_refl _) _
    generalize wr.alloc (.cells #[.int .i64 d.what, .int .i64 d.kd, .string d.nm, .string d.pt, .slice A0 d.ks.length c0, .int .i64 d.n, .int .i64 d.m.kd, .int .i64 d.m.fr, .int .i64 d.m.vw, .int .i64 d.m.sq, .string d.m.bd, .slice A6 d.m.ps.length c6, .slice A7 d.m.cs.length c7] 52) = wb at hX hBa ⊢
    rw [← hbd] at hX ⊢
    refine (becketref08_Short.calls 1000 d.kd d.nm d.pt A0 c0 d.ks d.n (PureO.shortB d.nm d.pt d.ks) wb (Kd.C_below HKS.out.2 hBa) HKS.out.1 (PureO.short_f 1000 d.kd d.n d.nm d.pt d.ks (by decide))).mono ?_
    rintro e w5 ⟨rfl, hb5⟩
    have hX5 := blk_below hX hb5
    have hB5 := hBa.trans (hb5.mono hBa.size)
    have HX5 := Lib.hid hX5
    have HBr5 := Lib.hid hB5
    have HBD := Lib.hid hbd
    clear hX hBa hb5 hB5 hbd x0 x1 x2 x3 x4 x5 x6 x7 x8 x9 x10 x11 x12 t1 t2 hi1 hi2
    have d0 : w5.cell? ⟨bd, 0, none⟩ = some (.int .i64 d.what) := (blk_cell hX5 0).trans rfl
    have d1 : w5.cell? ⟨bd, 1, none⟩ = some (.int .i64 d.kd) := (blk_cell hX5 1).trans rfl
    have d2 : w5.cell? ⟨bd, 2, none⟩ = some (.string d.nm) := (blk_cell hX5 2).trans rfl
    have d3 : w5.cell? ⟨bd, 3, none⟩ = some (.string d.pt) := (blk_cell hX5 3).trans rfl
    have d4 : w5.cell? ⟨bd, 4, none⟩ = some (.slice A0 d.ks.length c0) := (blk_cell hX5 4).trans rfl
    have d5 : w5.cell? ⟨bd, 5, none⟩ = some (.int .i64 d.n) := (blk_cell hX5 5).trans rfl
    have d6 : w5.cell? ⟨bd, 6, none⟩ = some (.int .i64 d.m.kd) := (blk_cell hX5 6).trans rfl
    have d7 : w5.cell? ⟨bd, 7, none⟩ = some (.int .i64 d.m.fr) := (blk_cell hX5 7).trans rfl
    have d8 : w5.cell? ⟨bd, 8, none⟩ = some (.int .i64 d.m.vw) := (blk_cell hX5 8).trans rfl
    have d9 : w5.cell? ⟨bd, 9, none⟩ = some (.int .i64 d.m.sq) := (blk_cell hX5 9).trans rfl
    have d10 : w5.cell? ⟨bd, 10, none⟩ = some (.string d.m.bd) := (blk_cell hX5 10).trans rfl
    have d11 : w5.cell? ⟨bd, 11, none⟩ = some (.slice A6 d.m.ps.length c6) := (blk_cell hX5 11).trans rfl
    have d12 : w5.cell? ⟨bd, 12, none⟩ = some (.slice A7 d.m.cs.length c7) := (blk_cell hX5 12).trans rfl
    clear hX5
    go_wp2_with fail
    refine (becketref12_Short.calls 1000 d.m.kd d.m.fr d.m.vw d.m.sq d.m.bd A6 c6 d.m.ps A7 c7 d.m.cs (CliP.shortM d.m.bd d.m.ps d.m.cs) w5 (Kd.C_below HPS.out.2 HBr5.out) HPS.out.1 (Kd.C_below HCS.out.2 HBr5.out) HCS.out.1 (CliP.Short_f _ _ _ _ _ _ _ 1000 (by decide))).mono ?_
    rintro e w6 ⟨rfl, hb6⟩
    have hB6 := HBr5.out.trans (hb6.mono HBr5.out.size)
    have hX6 := blk_below HX5.out hb6
    have HX6 := Lib.hid hX6
    have HN6 : Hid (ClientAt w6 g (fun k => okN k ∧ g ≤ k ∧ k < bd) g f 2 t wt body vs) := Lib.hid (by rw [HBD.out]; exact HN.out.bound.below hB6)
    have HB6 := Lib.hid (HB.out.trans (hB6.mono HB.out.size))
    have HKS6 := Lib.hid (Kd.C_below HKS.out.2 hB6)
    have HGB : Hid (g < bd) := Lib.hid (by rw [HBD.out]; exact HN.out.glt)
    have HWG : Hid (w.heap.size ≤ g) := Lib.hid (by rw [HGE.out]; exact HG.out)
    clear d0 d1 d2 d3 d4 d5 d6 d7 d8 d9 d10 d11 d12 hb6 hB6 HX5 HBr5 HN HB HBD
    by_cases hsh : PureO.shortB d.nm d.pt d.ks = true ∧ CliP.shortM d.m.bd d.m.ps d.m.cs = true
    rotate_left
    · have hq : PureO.shortB d.nm d.pt d.ks = false ∨ (PureO.shortB d.nm d.pt d.ks = true ∧ CliP.shortM d.m.bd d.m.ps d.m.cs = false) := by
        cases h1 : PureO.shortB d.nm d.pt d.ks with
        | false => exact .inl rfl
        | true => exact .inr ⟨rfl, by cases h2 : CliP.shortM d.m.bd d.m.ps d.m.cs with | false => rfl | true => exact absurd ⟨h1, h2⟩ hsh⟩
      clear hsh hX6
      rcases hq with q1 | ⟨q1, q2⟩
      all_goals
        rw [q1]
        try rw [q2]
        go_wp2
        go_ret
        exact ⟨rfl, HB6.out⟩
    obtain ⟨q1, q2⟩ := hsh
    have HSH := Lib.hid (PureO.shortB_iff q1)
    have HSB := Lib.hid (shortM_body q2)
    rw [q1, q2]
    clear q1 q2
    obtain ⟨r, hr, hpk⟩ := CliP.pick_f d.what HWH.out 5 (by decide)
    have HPK := Lib.hid hpk
    clear hpk
    have d0 : w6.cell? ⟨bd, 0, none⟩ = some (.int .i64 d.what) := (blk_cell hX6 0).trans rfl
    have d1 : w6.cell? ⟨bd, 1, none⟩ = some (.int .i64 d.kd) := (blk_cell hX6 1).trans rfl
    have d2 : w6.cell? ⟨bd, 2, none⟩ = some (.string d.nm) := (blk_cell hX6 2).trans rfl
    have d3 : w6.cell? ⟨bd, 3, none⟩ = some (.string d.pt) := (blk_cell hX6 3).trans rfl
    have d4 : w6.cell? ⟨bd, 4, none⟩ = some (.slice A0 d.ks.length c0) := (blk_cell hX6 4).trans rfl
    have d5 : w6.cell? ⟨bd, 5, none⟩ = some (.int .i64 d.n) := (blk_cell hX6 5).trans rfl
    have d6 : w6.cell? ⟨bd, 6, none⟩ = some (.int .i64 d.m.kd) := (blk_cell hX6 6).trans rfl
    have d7 : w6.cell? ⟨bd, 7, none⟩ = some (.int .i64 d.m.fr) := (blk_cell hX6 7).trans rfl
    have d8 : w6.cell? ⟨bd, 8, none⟩ = some (.int .i64 d.m.vw) := (blk_cell hX6 8).trans rfl
    have d9 : w6.cell? ⟨bd, 9, none⟩ = some (.int .i64 d.m.sq) := (blk_cell hX6 9).trans rfl
    have d10 : w6.cell? ⟨bd, 10, none⟩ = some (.string d.m.bd) := (blk_cell hX6 10).trans rfl
    have d11 : w6.cell? ⟨bd, 11, none⟩ = some (.slice A6 d.m.ps.length c6) := (blk_cell hX6 11).trans rfl
    have d12 : w6.cell? ⟨bd, 12, none⟩ = some (.slice A7 d.m.cs.length c7) := (blk_cell hX6 12).trans rfl
    clear hX6
    go_wp2_with fail
    refine (becketlaw19_pick.calls d.what 5 (r : Int) w6 HPK.out).mono ?_
    rintro e w7 ⟨rfl, hd7⟩
    have hb7 := hd7.below
    have hX7 := blk_below HX6.out hb7
    have HX7 := Lib.hid hX7
    have HN7 := Lib.hid (HN6.out.below hb7)
    have HB7 := Lib.hid (HB6.out.trans (hb7.mono HB6.out.size))
    have HKS7 := Lib.hid (Kd.C_below HKS6.out hb7)
    clear hd7 hb7 d0 d1 d2 d3 d4 d5 d6 d7 d8 d9 d10 d11 d12 HX6 HN6 HB6 HKS6
    have d0 : w7.cell? ⟨bd, 0, none⟩ = some (.int .i64 d.what) := (blk_cell hX7 0).trans rfl
    have d1 : w7.cell? ⟨bd, 1, none⟩ = some (.int .i64 d.kd) := (blk_cell hX7 1).trans rfl
    have d2 : w7.cell? ⟨bd, 2, none⟩ = some (.string d.nm) := (blk_cell hX7 2).trans rfl
    have d3 : w7.cell? ⟨bd, 3, none⟩ = some (.string d.pt) := (blk_cell hX7 3).trans rfl
    have d4 : w7.cell? ⟨bd, 4, none⟩ = some (.slice A0 d.ks.length c0) := (blk_cell hX7 4).trans rfl
    have d5 : w7.cell? ⟨bd, 5, none⟩ = some (.int .i64 d.n) := (blk_cell hX7 5).trans rfl
    have d6 : w7.cell? ⟨bd, 6, none⟩ = some (.int .i64 d.m.kd) := (blk_cell hX7 6).trans rfl
    have d7 : w7.cell? ⟨bd, 7, none⟩ = some (.int .i64 d.m.fr) := (blk_cell hX7 7).trans rfl
    have d8 : w7.cell? ⟨bd, 8, none⟩ = some (.int .i64 d.m.vw) := (blk_cell hX7 8).trans rfl
    have d9 : w7.cell? ⟨bd, 9, none⟩ = some (.int .i64 d.m.sq) := (blk_cell hX7 9).trans rfl
    have d10 : w7.cell? ⟨bd, 10, none⟩ = some (.string d.m.bd) := (blk_cell hX7 10).trans rfl
    have d11 : w7.cell? ⟨bd, 11, none⟩ = some (.slice A6 d.m.ps.length c6) := (blk_cell hX7 11).trans rfl
    have d12 : w7.cell? ⟨bd, 12, none⟩ = some (.slice A7 d.m.cs.length c7) := (blk_cell hX7 12).trans rfl
    clear hX7
    by_cases hr0 : r = 0
    · subst hr0
      clear d6 d7 d8 d9 d10 d11 d12 hr
      go_wp2_with fail
      have HT8 := HT.out
      have HI8 := HI2.out
      refine (client_Ask w7 g _ g f 2 t wt body vs HN7.out (by omega) d.kd d.n d.nm d.pt A0 c0 d.ks HKS7.out HKS.out.1 (by have := HSH.out; omega) (by have := HSH.out; omega) HSH.out.2.2.1 (fun x hx => by have := HSH.out.2.2.2 x hx; omega)).mono ?_
      rintro e w8 (⟨hask, rfl, hc8⟩ | ⟨er, hask, rfl, hc8⟩)
      · obtain rfl : wt = false := askErr_none hask
        have hwt : wrap64 (t + 1) = t + 1 := by unfold wrap64; omega
        have HN8 := Lib.hid hc8.1
        have HB8 := Lib.hid (HB7.out.trans (hc8.2.2.mono HWG.out))
        have HT9 : Hid (0 ≤ t + 1 ∧ t + 1 ≤ ((i + 1 : Nat) : Int)) := Lib.hid (by omega)
        clear hask hc8 HT8 HI8 HN7 HB7 HKS7 HX7 d0 d1 d2 d3 d4 d5
        unfold msgQ
        go_wp2_with fail
        go_roundg k1
        case measure => omega
        case rel => exact ⟨i + 1, t + 1, true, _, [], _, rfl, by first | (rw [hwt]; done) | rfl, by first | (rw [hwi]; done) | (simp; done), Lib.hid (by have := HI.out; omega), HT9, Lib.hid (HN8.out.below ((Below.refl _ w8).alloc (Nat.le_refl _) _)), Lib.hid (by simp), Lib.hid (HB8.out.alloc HB8.out.size _)⟩
      · have hcase := askErr_some (by omega) hask
        have HN8 := Lib.hid hc8.1
        have HB8 := Lib.hid (HB7.out.trans (hc8.2.2.mono HWG.out))
        have HT9 : Hid (0 ≤ t ∧ t ≤ ((i + 1 : Nat) : Int)) := Lib.hid (by omega)
        have HV9 : Hid (vs.length ≤ i + 1) := Lib.hid (by have := HVL.out; omega)
        clear hask hc8 HT8 HI8 HN7 HB7 HKS7 HX7 d0 d1 d2 d3 d4 d5
        unfold msgZ
        rcases hcase with ⟨rfl, rfl⟩ | ⟨rfl, rfl⟩
        all_goals
          go_wp2_with fail
          go_roundg k1
          case measure => omega
          case rel => exact ⟨i + 1, t, _, body, vs, _, rfl, rfl, by first | (rw [hwi]; done) | (simp; done), Lib.hid (by have := HI.out; omega), HT9, Lib.hid (HN8.out.below ((Below.refl _ w8).alloc (Nat.le_refl _) _)), HV9, Lib.hid (HB8.out.alloc HB8.out.size _)⟩
    have t5 : ((r : Int) == 0) = false := by simpa using hr0
    clear hr0 d1 d2 d3 d4 d5 hr
    go_wp2_with fail
    refine (client_On w7 g _ g f 2 t wt body vs HN7.out (by have := HN7.out.glt; omega) HF.out (by have := HVL.out; have := HI2.out; omega) d.m.kd d.m.fr d.m.vw d.m.sq d.m.bd HSB.out A6 d.m.ps.length c6 A7 d.m.cs.length c7).mono ?_
    rintro e w8 ⟨is, av, vs', rfl, hc8, hno, hyes, hz, htk⟩
    have hvs : vs'.length ≤ i + 1 := by
      cases ht : onTake f t wt vs d.m.kd d.m.fr d.m.sq with
      | false =>
        rw [(hno ht).2]
        have := HVL.out; omega
      | true =>
        rw [hyes ht]
        have := HVL.out; simp; omega
    have hwt : is = true → wt = true := fun h => (onTake_yes (htk h).1).1
    have HN8 := Lib.hid hc8.1
    have HB8 := Lib.hid (HB7.out.trans (hc8.2.2.mono HWG.out))
    have HVS := Lib.hid hvs
    have HT9 : Hid (0 ≤ t ∧ t ≤ ((i + 1 : Nat) : Int)) := Lib.hid (by have := HT.out; omega)
    cases is with
    | true =>
      obtain rfl : wt = true := hwt rfl
      obtain ⟨_, _, r1, r2, B2, n2, b2, B3, n3, b3, B4, n4, b4, rfl⟩ := htk rfl
      clear hc8 hno hyes hz htk hvs hwt HN7 HB7 HX7 HKS7 d0 d6 d7 d8 d9 d10 d11 d12 t5
      go_wp2_with fail
      refine (client_Again _ g _ g f 2 t false body vs' (HN8.out.below ((Below.refl _ w8).alloc (Nat.le_refl _) _))).mono ?_
      rintro e w9 ⟨rfl, hb9⟩
      have hb89 := ((Below.refl _ w8).alloc (Nat.le_refl _) (.cells #[.int .i64 2, .int .i64 t, .int .i64 r1, .int .i64 r2, .slice B2 n2 b2, .slice B3 n3 b3, .slice B4 n4 b4] 46))
      have hb9' := hb89.trans (hb9.mono hb89.size)
      have HN9 := Lib.hid (HN8.out.below hb9')
      have HB9 := Lib.hid (HB8.out.trans (hb9'.mono HB8.out.size))
      clear hb9 hb89 hb9' HN8 HB8
      rw [if_neg (by decide)]
      unfold msgZ
      go_wp2_with fail
      go_roundg k1
      case measure => omega
      case rel => exact ⟨i + 1, t, false, body, vs', _, rfl, rfl, by first | (rw [hwi]; done) | (simp; done), Lib.hid (by have := HI.out; omega), HT9, Lib.hid (HN9.out.below ((Below.refl _ w9).alloc (Nat.le_refl _) _)), HVS, Lib.hid (HB9.out.alloc HB9.out.size _)⟩
    | false =>
      obtain rfl := hz rfl
      clear hc8 hno hyes hz htk hvs hwt HN7 HB7 HX7 HKS7 d0 d6 d7 d8 d9 d10 d11 d12 t5
      unfold accZ
      cases wt with
      | true =>
        go_wp2_with fail
        refine (client_Again _ g _ g f 2 t true body vs' (HN8.out.below ((Below.refl _ w8).alloc (Nat.le_refl _) _))).mono ?_
        rintro e w9 ⟨rfl, hb9⟩
        have hb89 := ((Below.refl _ w8).alloc (Nat.le_refl _) (.cells #[.int .i64 0, .int .i64 0, .int .i64 0, .int .i64 0, .slice none 0 0, .slice none 0 0, .slice none 0 0] 46))
        have hb9' := hb89.trans (hb9.mono hb89.size)
        have HN9 := Lib.hid (HN8.out.below hb9')
        have HB9 := Lib.hid (HB8.out.trans (hb9'.mono HB8.out.size))
        clear hb9 hb89 hb9' HN8 HB8
        rw [if_pos rfl]
        unfold msgQ
        go_wp2_with fail
        go_roundg k1
        case measure => omega
        case rel => exact ⟨i + 1, t, true, body, vs', _, rfl, rfl, by first | (rw [hwi]; done) | (simp; done), Lib.hid (by have := HI.out; omega), HT9, Lib.hid (HN9.out.below ((Below.refl _ w9).alloc (Nat.le_refl _) _)), HVS, Lib.hid (HB9.out.alloc HB9.out.size _)⟩
      | false =>
        go_wp2_with fail
        refine (client_Again _ g _ g f 2 t false body vs' (HN8.out.below ((Below.refl _ w8).alloc (Nat.le_refl _) _))).mono ?_
        rintro e w9 ⟨rfl, hb9⟩
        have hb89 := ((Below.refl _ w8).alloc (Nat.le_refl _) (.cells #[.int .i64 0, .int .i64 0, .int .i64 0, .int .i64 0, .slice none 0 0, .slice none 0 0, .slice none 0 0] 46))
        have hb9' := hb89.trans (hb9.mono hb89.size)
        have HN9 := Lib.hid (HN8.out.below hb9')
        have HB9 := Lib.hid (HB8.out.trans (hb9'.mono HB8.out.size))
        clear hb9 hb89 hb9' HN8 HB8
        rw [if_neg (by decide)]
        unfold msgZ
        go_wp2_with fail
        go_roundg k1
        case measure => omega
        case rel => exact ⟨i + 1, t, false, body, vs', _, rfl, rfl, by first | (rw [hwi]; done) | (simp; done), Lib.hid (by have := HI.out; omega), HT9, Lib.hid (HN9.out.below ((Below.refl _ w9).alloc (Nat.le_refl _) _)), HVS, Lib.hid (HB9.out.alloc HB9.out.size _)⟩
end Go.Proofs.YtlcfcaokihoplaaDoor.Cli
