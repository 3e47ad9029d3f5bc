-- Cut by a program of this session (wip/shake.py) out of a text of this seat: what this claim doesn't reach is struck out. Lean checks it.
import Derived.Test.YtjlbfbibamnigaaBlobIBp
import Derived.Lib.IfaceEq
import Derived.Lib.IfaceNeq
namespace Go.Proofs.Ytjlbfbibamnigaa.Blobs
open Go.RowKit Go.ChangeMaps Go.MapKept Go.WideShapes Go.WideAt Go.Sort Go.WideMaps Go.Proofs.Ytjlbfbibamnigaa.Bs Go.Proofs.YtjlbfbibamnigaaW.PrintWords Go.Proofs.YtjlbfbibamnigaaW.PrintLast Go.Proofs.YtjlbfbibamnigaaW.PrintMore
set_option linter.unusedVariables false
set_option linter.unusedSimpArgs false
def DeedR (W : World) (d : Int × ByteArray × List ByteArray) (cs : List Value) : Prop :=
  ∃ A c, cs = [.int .i64 d.1, .string d.2.1, .slice A d.2.2.length c] ∧ (-9223372036854775808 ≤ d.1 ∧ d.1 ≤ 9223372036854775807) ∧ d.2.1.size ≤ maxLen ∧ d.2.2.length ≤ c ∧ Kd.C Kd.string W A d.2.2.length d.2.2
def Deeds (W : World) (A : Option Addr) (n : Nat) (ds : List (Int × ByteArray × List ByteArray)) : Prop := ReadsRow (DeedR W) 3 W A n ds
theorem Deeds.get {W0 W : World} {A : Option Addr} {ds : List (Int × ByteArray × List ByteArray)} (h : ReadsRow (DeedR W0) 3 W A ds.length ds) (i : Int) (h0 : 0 ≤ i) (h1 : i < ds.length) :
    ∃ ad, A = some ad ∧ ∃ (d : Int × ByteArray × List ByteArray) (B : Option Addr) (c : Nat), (-9223372036854775808 ≤ d.1 ∧ d.1 ≤ 9223372036854775807) ∧ d.2.1.size ≤ maxLen ∧ d.2.2.length ≤ c ∧ Kd.C Kd.string W0 B d.2.2.length d.2.2 ∧
      W.cell? (ad.add (i.toNat * 3)) = some (.int .i64 d.1) ∧ W.cell? ⟨(ad.add (i.toNat * 3)).block, (ad.add (i.toNat * 3)).off + 1, none⟩ = some (.string d.2.1) ∧ W.cell? ⟨(ad.add (i.toNat * 3)).block, (ad.add (i.toNat * 3)).off + 2, none⟩ = some (.slice B d.2.2.length c) := by
  obtain ⟨ad, cs, e, hl, ⟨B, c, rfl, r1, r2, r3, r4⟩, hc⟩ := ReadsRow.get_ h (0, ByteArray.empty, []) i h0 h1
  refine ⟨ad, e, _, B, c, r1, r2, r3, r4, hc 0 _ rfl, ?_, ?_⟩
  · rw [← hc 1 _ rfl, ← Addr.add_add]; rfl
  · rw [← hc 2 _ rfl, ← Addr.add_add]; rfl
theorem err_neq (w : World) (a b : Int) : (binOp .neq 26 (.iface 36 (.int .i64 a)) (.iface 36 (.int .i64 b))).run Try.prog w = .ok (.bool (!(a == b))) w :=
  Go.Lib.run_neq_iface_int w a b Try.underlying26 (by kernel_rfl) Try.underlying36
theorem lit_key {W : World} {b : Nat} {key : ByteArray} (h : W.heap[b]? = some (.cells #[.string key] 9 (0, 0))) : Kd.C Kd.string W (some ⟨b, 0, none⟩) [key].length [key] := by
  refine ⟨rfl, by simp, fun _ => ⟨_, rfl, fun j p hj => ?_⟩⟩
  have hj0 : j = 0 := by
    have := (List.getElem?_eq_some_iff.1 hj).1
    simpa using this
  subst hj0
  have hp : p = key := by simpa using hj.symm
  subst hp
  refine ⟨[.string p], rfl, rfl, fun i u hi => ?_⟩
  have := blk_cell h i
  show W.cell? ((⟨b, 0, none⟩ : Addr).add (0 * 1 + i)) = _
  rw [Addr.add_lit, Nat.zero_mul, Nat.zero_add, Nat.zero_add, this]
  rw [← hi]
  simp
theorem only_one (l : List ByteArray) (key : ByteArray) : (l.filter fun x => hasB [key] x == false) = without l key := by
  unfold without
  congr 1
  funext x
  unfold hasB
  by_cases h : x = key
  · simp [h]
  · have h2 : key ≠ x := fun e => h e.symm
    simp [h, h2]
theorem without_len (l : List ByteArray) (key : ByteArray) : (without l key).length ≤ l.length := List.length_filter_le _ _
set_option maxHeartbeats 16000000 in
set_option maxRecDepth 100000 in
theorem plays_calls (q : Int) (A0 : Option Addr) (c0 : Nat) (ds : List (Int × ByteArray × List ByteArray)) (key : ByteArray) (w : World) (hD : Deeds w A0 ds.length ds) (hk : key.size ≤ maxLen) :
    Calls Try.prog 4 #[.int .i64 q, .slice A0 ds.length c0, .string key] w fun e w' => e = .returned (.bool true) ∧ Below w.heap.size w w' := by
  have HD := Lib.hid hD
  have HK := Lib.hid hk
  have herr := err_eql
  have herr2 := err_neq
  clear hD hk
  go_enter Try.func4, Try.ntmps4
  go_wp2_with fail
  refine (up_calls _).mono ?_
  rintro e w1 ⟨rfl, hb1⟩
  have HB1 := Lib.hid hb1
  clear hb1
  by_cases hq : q < 0 ∨ 65536 < q
  · have t1 : decide (q < 0) = true ∨ (decide (q < 0) = false ∧ decide (65536 < q) = true) := by
      by_cases h : q < 0
      · exact .inl (by simpa using h)
      · exact .inr ⟨by simpa using h, by simp; omega⟩
    have HQ := Lib.hid hq
    clear hq
    go_wp2_with fail
    refine (store_New_no w1 q HQ.out).mono ?_
    rintro e w2 ⟨rfl, hb2⟩
    have HB2 := Lib.hid (HB1.out.trans (hb2.mono HB1.out.size))
    clear hb2
    rcases t1 with t1 | ⟨t1, t2⟩
    all_goals
      go_wp2
      go_ret
      exact ⟨rfl, HB2.out⟩
  have t1 : decide (q < 0) = false := by simp; omega
  have t2 : decide (65536 < q) = false := by simp; omega
  have HQ : Hid (0 ≤ q ∧ q ≤ 65536) := Lib.hid (by omega)
  clear hq
  go_wp2_with fail
  refine (store_New w1 q HQ.out.1 HQ.out.2).mono ?_
  rintro e w2 ⟨rfl, hn2, hb2⟩
  obtain ⟨g, hg⟩ : ∃ g, g = w1.heap.size + 1 := ⟨_, rfl⟩
  rw [← hg] at hn2 ⊢
  have HS2 : Hid (StoreAt w2 w.heap.size (fun k => w.heap.size ≤ k ∧ k < w2.heap.size) g q []) := Lib.hid (hn2.since HB1.out.size HB1.out.size)
  have HB2 := Lib.hid (HB1.out.trans (hb2.mono HB1.out.size))
  clear hn2 hb2 hg HB1
  go_wp2_with fail
  clear t1 t2
  go_loopg [10, 11] 60 (fun kq v10 v11 w' => ∃ (l : List ByteArray) (A : Option Addr) (c : Nat) (i : Int), v10 = .slice A l.length c ∧ v11 = .int .i64 i ∧ Hid (i = 60 - (kq : Int) ∧ kq ≤ 60) ∧ Hid ((l.length : Int) ≤ i) ∧ Hid (StoreAt w' w.heap.size (fun k => w.heap.size ≤ k ∧ k < w2.heap.size) g q l) ∧ Hid (Kd.R Kd.string 9 w' w2.heap.size (fun k => w2.heap.size ≤ k) (.slice A l.length c) l) ∧ Hid (w2.heap.size ≤ w'.heap.size) ∧ Hid (Below w.heap.size w w'))
  case atStart => exact ⟨[], none, 0, 0, rfl, rfl, Lib.hid (by omega), Lib.hid (by simp), HS2, Lib.hid (Kd.R_nil _ _ _ _ _), Lib.hid (Nat.le_refl _), HB2⟩
  case round =>
    obtain ⟨l, A, c, i, rfl, rfl, HI, HLI, HS, HR, HZ, HB⟩ := hrel
    have hi0 : 0 ≤ i := by have := HI.out; omega
    by_cases hin : i < (ds.length : Int) ∧ i < 60
    rotate_left
    · have hx : decide (i < (ds.length : Int)) = false ∨ (decide (i < (ds.length : Int)) = true ∧ decide (i < 60) = false) := by
        by_cases h1 : i < (ds.length : Int)
        · exact .inr ⟨by simpa using h1, by simp; omega⟩
        · exact .inl (by simpa using h1)
      have HLL : Hid (l.length ≤ 100000) := Lib.hid (by have := HLI.out; have := HI.out; omega)
      clear hin hi0
      rcases hx with t1 | ⟨t1, t2⟩
      all_goals
        go_wp2_with fail
        refine (store_Has _ _ _ _ _ _ HS.out key HK.out).mono ?_
        rintro e w3 ⟨rfl, rfl⟩
        go_wp2_with fail
        refine (becketref04_Has.calls 100001 A c l key (hasB l key) _ (Kd.R_reads' HR.out).2.2 (Kd.R_reads' HR.out).2.1 (has_f l HLL.out key _ (Nat.le_refl _))).mono ?_
        rintro e w4 ⟨rfl, hd4⟩
        have HB4 := Lib.hid (HB.out.trans (hd4.below.mono HB.out.size))
        clear hd4
        go_wp2
        go_ret
        exact ⟨rfl, HB4.out⟩
    obtain ⟨hi1, hi2⟩ := hin
    have t1 : decide (i < (ds.length : Int)) = true := by simpa using hi1
    have t2 : decide (i < 60) = true := by simpa using hi2
    cases gk with
    | zero => have := HI.out; omega
    | succ k1 =>
    obtain ⟨ad, rfl, d, Bd, cd, hq1, hq2, hq3, hq4, hx0, hx1, hx2⟩ := Deeds.get (ReadsRow.imp_ HD.out HB.out (fun _ _ h => h)) i hi0 hi1
    have HQ1 := Lib.hid hq1
    have HQ2 := Lib.hid hq2
    have HQ3 := Lib.hid hq3
    have HQ4 := Lib.hid hq4
    clear hq1 hq2 hq3 hq4
    have HII := Lib.hid (And.intro hi0 hi2)
    by_cases hbig : 200 < (d.2.2.length : Int) ∨ 2000 < (d.2.1.size : Int)
    · have t3 : decide (200 < (d.2.2.length : Int)) = true ∨ (decide (200 < (d.2.2.length : Int)) = false ∧ decide (2000 < (d.2.1.size : Int)) = true) := by
        by_cases h : 200 < (d.2.2.length : Int)
        · exact .inl (by simpa using h)
        · exact .inr ⟨by simpa using h, by simp; omega⟩
      clear hbig
      rcases t3 with t3 | ⟨t3, t4⟩
      all_goals
        go_wp2
        go_ret
        exact ⟨rfl, HB.out.alloc HB.out.size _⟩
    have t3 : decide (200 < (d.2.2.length : Int)) = false := by simp; omega
    have t4 : decide (2000 < (d.2.1.size : Int)) = false := by simp; omega
    have HL20 : Hid (d.2.2.length ≤ 200 ∧ d.2.1.size ≤ 2000) := Lib.hid (by omega)
    clear hbig
    go_wp2_with fail
    obtain ⟨gb, hgb⟩ : ∃ gb, gb = wr.heap.size := ⟨_, rfl⟩
    have hX := heap_alloc_new wr (.cells #[.int .i64 d.1, .string d.2.1, .slice Bd d.2.2.length cd] 38)
    have hBa : Below wr.heap.size wr (wr.alloc (.cells #[.int .i64 d.1, .string d.2.1, .slice Bd d.2.2.length cd] 38)) := (Below.refl _ wr).alloc (Nat.le_refl _) _
    generalize wr.alloc (.cells #[.int .i64 d.1, .string d.2.1, .slice Bd d.2.2.length cd] 38) = wb at hX hBa ⊢
    have HSb := Lib.hid (HS.out.below hBa)
    have HRb := Lib.hid (Kd.R_below HR.out hBa)
    have HBb := Lib.hid (HB.out.trans (hBa.mono HB.out.size))
    have HZb := Lib.hid (Nat.le_trans HZ.out hBa.size)
    have HGE : Hid (w2.heap.size ≤ gb) := Lib.hid (by rw [hgb]; exact HZ.out)
    rw [← hgb] at hX ⊢
    have HX := Lib.hid hX
    have HLL : Hid (l.length ≤ 60) := Lib.hid (by have := HLI.out; have := HII.out; omega)
    clear hX hBa hgb HS HR HB HZ hx0 hx1 hx2 t1 t2 t3 t4
    refine (becketref04_Has.calls 100001 A c l d.2.1 (hasB l d.2.1) _ (Kd.R_reads' HRb.out).2.2 (Kd.R_reads' HRb.out).2.1 (has_f l (by have := HLL.out; omega) d.2.1 _ (Nat.le_refl _))).mono ?_
    rintro e w5 ⟨rfl, hd5⟩
    have hb5 := hd5.below
    have HX5 := Lib.hid (blk_below HX.out hb5)
    have HS5 := Lib.hid (HSb.out.below hb5)
    have HR5 := Lib.hid (Kd.R_below HRb.out hb5)
    have HB5 := Lib.hid (HBb.out.trans (hb5.mono HBb.out.size))
    have HZ5 := Lib.hid (Nat.le_trans HZb.out hb5.size)
    have y0 : w5.cell? ⟨gb, 0, none⟩ = some (.int .i64 d.1) := (blk_cell HX5.out 0).trans rfl
    obtain ⟨r, hr4, hpk⟩ := pick_f d.1 HQ1.out 5 (by decide)
    have HPK := Lib.hid hpk
    have HR4 := Lib.hid hr4
    clear hd5 hb5 hpk hr4 HX HSb HRb HBb HZb
    go_wp2_with fail
    refine (becketlaw07_pick.calls d.1 5 (r : Int) _ HPK.out).mono ?_
    rintro e wp ⟨rfl, hdp⟩
    have hbp := hdp.below
    have HXp := Lib.hid (blk_below HX5.out hbp)
    have HSp := Lib.hid (HS5.out.below hbp)
    have HRp := Lib.hid (Kd.R_below HR5.out hbp)
    have HBp := Lib.hid (HB5.out.trans (hbp.mono HB5.out.size))
    have HZp := Lib.hid (Nat.le_trans HZ5.out hbp.size)
    have p1 : wp.cell? ⟨gb, 1, none⟩ = some (.string d.2.1) := (blk_cell HXp.out 1).trans rfl
    have p2 : wp.cell? ⟨gb, 2, none⟩ = some (.slice Bd d.2.2.length cd) := (blk_cell HXp.out 2).trans rfl
    have hgbp := blk_lt HXp.out
    clear hdp hbp HX5 HS5 HR5 HB5 HZ5 y0
    go_upto_block 2 with fail
    (try simp only [Act.put, List.setIfInBounds_toArray, List.set_cons_zero, List.set_cons_succ])
    go_cut [10, 13] (fun v10 v13 wc => ∃ (l' : List ByteArray) (A' : Option Addr) (c' : Nat), v10 = .slice A' l'.length c' ∧ Hid ((l'.length : Int) ≤ i + 1) ∧ Hid (StoreAt wc w.heap.size (fun k => w.heap.size ≤ k ∧ k < w2.heap.size) g q l') ∧ Hid (Kd.R Kd.string 9 wc w2.heap.size (fun k => w2.heap.size ≤ k) (.slice A' l'.length c') l') ∧ Hid (w2.heap.size ≤ wc.heap.size) ∧ Hid (Below w.heap.size w wc))
    case first =>
      by_cases e3 : r = 3
      · subst e3
        have e3b : ((((3 : Nat) : Int)) == 3) = true := by decide
        go_wp2_with fail
        refine (store_Drop wp _ _ _ _ _ HSp.out d.2.1 HQ2.out).mono ?_
        rintro e w6 ⟨rfl, hs6⟩
        have HS6 := Lib.hid hs6.1
        have HR6 := Lib.hid (Kd.R_kept HRp.out hs6.2.1 (fun k hk h => by have := h.2; omega))
        have HB6 := Lib.hid (HBp.out.trans hs6.2.2)
        have HZ6 := Lib.hid (Nat.le_trans HZp.out hs6.2.1.1)
        have HX6 := Lib.hid (blk_kept HXp.out hs6.2.1 (fun h => by have := h.2; have := HGE.out; omega))
        have y1 : w6.cell? ⟨gb, 1, none⟩ = some (.string d.2.1) := (blk_cell HX6.out 1).trans rfl
        have hgb6 := blk_lt HX6.out
        clear hs6 HSp HRp HBp HZp HXp p1 p2 hgbp
        have hde : (hasB l d.2.1 = true ∧ eW (dropErr l d.2.1) = .nilIface) ∨ (hasB l d.2.1 = false ∧ eW (dropErr l d.2.1) = .iface 36 (.int .i64 3)) := by
          unfold dropErr
          cases hh : hasB l d.2.1 with
          | true => exact .inl ⟨rfl, by rw [if_pos rfl]; rfl⟩
          | false => exact .inr ⟨rfl, by rw [if_neg (by decide)]; rfl⟩
        rcases hde with ⟨hh, he⟩ | ⟨hh, he⟩
        all_goals
          rw [hh, he]
          clear hh he
          go_wp2_with fail
          have hXk := heap_alloc_new w6 (.cells #[.string d.2.1] 9)
          have hBk : Below w6.heap.size w6 (w6.alloc (.cells #[.string d.2.1] 9)) := (Below.refl _ w6).alloc (Nat.le_refl _) _
          generalize w6.alloc (.cells #[.string d.2.1] 9) = wk at hXk hBk ⊢
          have hRk := Kd.R_reads' (Kd.R_below HR6.out hBk)
          refine (becketlaw07_only.calls 300000 A c l (some ⟨w6.heap.size, 0, none⟩) 1 [d.2.1] false (l.filter fun x => hasB [d.2.1] x == false) _ hRk.2.2 hRk.2.1 (lit_key hXk) (Nat.le_refl _) (only_f l [d.2.1] (by have := HLL.out; omega) (by simp) false)).mono ?_
          rintro e w7 ⟨v7, rfl, hr7, hb7⟩
          rw [only_one] at hr7
          obtain ⟨A7, c7, rfl⟩ := Kd.R_slice hr7
          have hb67 := hBk.trans (hb7.mono hBk.size)
          have HS7 := Lib.hid (HS6.out.below hb67)
          have HR7 : Hid (Kd.R Kd.string 9 w7 w2.heap.size (fun k => w2.heap.size ≤ k) (.slice A7 (without l d.2.1).length c7) (without l d.2.1)) := Lib.hid (Kd.R_lower (Kd.R_mono (Kd.R_bound hr7) (fun k hk => Nat.le_trans (Nat.le_trans HZ6.out hBk.size) hk.2.1)) (Nat.le_trans HZ6.out hBk.size))
          have HB7 := Lib.hid (HB6.out.trans (hb67.mono HB6.out.size))
          have HZ7 := Lib.hid (Nat.le_trans HZ6.out hb67.size)
          have HL7 : Hid (((without l d.2.1).length : Int) ≤ i + 1) := Lib.hid (by have := without_len l d.2.1; have := HLI.out; omega)
          clear hXk hBk hRk hr7 hb7 hb67 HS6 HR6 HB6 HX6 y1 hgb6
          go_wp2_with fail
          go_meet
          case rel => exact ⟨without l d.2.1, A7, c7, rfl, HL7, HS7, HR7, HZ7, HB7⟩
      by_cases e4 : r = 4
      · subst e4
        have e3b : ((((4 : Nat) : Int)) == 3) = false := by decide
        have e4b : ((((4 : Nat) : Int)) == 4) = true := by decide
        go_wp2_with fail
        refine (becketlaw07_only.calls 300000 A c l Bd cd d.2.2 true (l.filter fun x => hasB d.2.2 x == true) _ (Kd.R_reads' HRp.out).2.2 (Kd.R_reads' HRp.out).2.1 (Kd.C_below HQ4.out HBp.out) HQ3.out (only_f l d.2.2 (by have := HLL.out; omega) (by have := HL20.out.1; omega) true)).mono ?_
        rintro e w6 ⟨v6, rfl, hr6, hb6⟩
        have e6 : (l.filter fun x => hasB d.2.2 x == true) = l.filter fun x => hasB d.2.2 x := by simp
        rw [e6] at hr6
        obtain ⟨A6, c6, rfl⟩ := Kd.R_slice hr6
        have HS6 := Lib.hid (HSp.out.below hb6)
        have HR6 := Lib.hid (Kd.R_lower (Kd.R_mono (ok' := fun k => w2.heap.size ≤ k) (Kd.R_bound hr6) (fun k hk => Nat.le_trans HZp.out hk.2.1)) HZp.out)
        have HB6 := Lib.hid (HBp.out.trans (hb6.mono HBp.out.size))
        have HZ6 := Lib.hid (Nat.le_trans HZp.out hb6.size)
        have HX6 := Lib.hid (blk_below HXp.out hb6)
        have y2 : w6.cell? ⟨gb, 2, none⟩ = some (.slice Bd d.2.2.length cd) := (blk_cell HX6.out 2).trans rfl
        have hgb6 := blk_lt HX6.out
        clear e6 hr6 hb6 HSp HRp HBp HZp HXp p1 p2 hgbp
        go_wp2_with fail
        refine (store_Keep w6 _ _ _ _ _ HS6.out Bd cd d.2.2 (Kd.C_kept_came Kd.heap_string HQ4.out HB6.out (fun k hk => hk.1)) HQ3.out (by have := HL20.out.1; omega)).mono ?_
        rintro e w7 ⟨rfl, hs7⟩
        obtain ⟨l', hl'⟩ : ∃ l', l' = l.filter fun x => hasB d.2.2 x := ⟨_, rfl⟩
        rw [← hl'] at hs7 HR6 ⊢
        have hll' : l'.length ≤ l.length := by rw [hl']; exact List.length_filter_le _ _
        have hkn : (kn d.2.2 l l.length : Int) = (l.length : Int) - (l'.length : Int) := by
          unfold kn
          rw [List.take_length, ← hl']
          omega
        rw [hkn]
        have hw : wrap64 ((l.length : Int) - (l'.length : Int)) = (l.length : Int) - (l'.length : Int) := by
          have := HLL.out
          unfold wrap64
          omega
        have HS7 := Lib.hid hs7.1
        have HR7 := Lib.hid (Kd.R_kept HR6.out hs7.2.1 (fun k hk h => by have := h.2; omega))
        have HB7 := Lib.hid (HB6.out.trans hs7.2.2)
        have HZ7 := Lib.hid (Nat.le_trans HZ6.out hs7.2.1.1)
        have HL7 : Hid ((l'.length : Int) ≤ i + 1) := Lib.hid (by have := HLI.out; omega)
        clear hs7 hll' hkn hl' HS6 HR6 HB6 HX6 y2 hgb6
        go_wp2_with fail
        go_meet
        case rel => exact ⟨l', A6, c6, rfl, HL7, HS7, HR7, HZ7, HB7⟩
      have e3b : ((r : Int) == 3) = false := beq_eq_false_iff_ne.mpr (by omega)
      have e4b : ((r : Int) == 4) = false := beq_eq_false_iff_ne.mpr (by omega)
      go_wp2_with fail
      refine (store_Put wp _ _ _ _ HQ.out _ HSp.out (by have := HLL.out; omega) d.2.1 HQ2.out).mono ?_
      rintro e wP ⟨rfl, hs6⟩
      have HSP := Lib.hid hs6.1
      have hRP := Kd.R_kept HRp.out hs6.2.1 (fun k hk h => by have := h.2; omega)
      have HRO := Lib.hid hRP
      have HRP := Lib.hid (Kd.R_reads' hRP)
      have HBP := Lib.hid (HBp.out.trans hs6.2.2)
      have HZP := Lib.hid (Nat.le_trans HZp.out hs6.2.1.1)
      have HX6 := Lib.hid (blk_kept HXp.out hs6.2.1 (fun h => by have := h.2; have := HGE.out; omega))
      have y1 : wP.cell? ⟨gb, 1, none⟩ = some (.string d.2.1) := (blk_cell HX6.out 1).trans rfl
      have hgb6 := blk_lt HX6.out
      have HGB := Lib.hid hgb6
      have HY1 := Lib.hid y1
      have HZL : Hid (sizeL l ≤ 1000000) := Lib.hid (by have := HSp.out.len.2; omega)
      have hL1 : l.length ≤ 100000 := by have := HLL.out; omega
      have HL1 := Lib.hid hL1
      clear hs6 hRP HSp HRp HBp HZp HXp p1 p2 hgbp hL1
      by_cases hb : d.2.1.size < 1 ∨ 64 < d.2.1.size
      · have e1 : putErr q l d.2.1 = some 1 := by unfold putErr; rw [if_pos hb]
        have e2 : putTo q l d.2.1 = l := by unfold putTo; rw [if_pos hb]
        have t1 : decide ((d.2.1.size : Int) < 1) = true ∨ (decide ((d.2.1.size : Int) < 1) = false ∧ decide (64 < (d.2.1.size : Int)) = true) := by
          by_cases h0 : (d.2.1.size : Int) < 1
          · exact .inl (by simpa using h0)
          · exact .inr ⟨by simpa using h0, by simp; omega⟩
        rw [e1, eW_some]
        have HS7 := HSP.out
        rw [e2] at HS7
        have HL7 : Hid ((l.length : Int) ≤ i + 1) := Lib.hid (by have := HLI.out; omega)
        clear hb e1 e2
        rcases t1 with t1 | ⟨t1, t2⟩
        all_goals
          go_wp2_with fail
          go_meet
          case rel => exact ⟨l, A, c, rfl, HL7, Lib.hid HS7, HRO, HZP, HBP⟩
      have t1 : decide ((d.2.1.size : Int) < 1) = false := by simp; omega
      have t2 : decide (64 < (d.2.1.size : Int)) = false := by simp; omega
      have HKB : Hid (¬ (d.2.1.size < 1 ∨ 64 < d.2.1.size)) := Lib.hid hb
      clear hb
      cases hh : hasB l d.2.1 with
      | true =>
        have e1 : putErr q l d.2.1 = none := by unfold putErr; rw [if_neg HKB.out, if_pos hh]
        have e2 : putTo q l d.2.1 = l := by unfold putTo; rw [if_neg HKB.out, if_pos hh]
        rw [e1, eW_none]
        have HS7 := HSP.out
        rw [e2] at HS7
        have HL7 : Hid ((l.length : Int) ≤ i + 1) := Lib.hid (by have := HLI.out; omega)
        clear e1 e2 hh
        go_wp2_with fail
        go_meet
        case rel => exact ⟨l, A, c, rfl, HL7, Lib.hid HS7, HRO, HZP, HBP⟩
      | false =>
      have hw3 : wrap64 ((sizeL l : Int) + (d.2.1.size : Int)) = (sizeL l : Int) + (d.2.1.size : Int) := by have := HZL.out; have := HKB.out; unfold wrap64; omega
      go_wp2_with fail
      refine start_ (n := 9) (S := fun w' => w'.cell? ⟨gb, 1, none⟩ = some (.string d.2.1)) (ds := []) #[false, false, false, false, false, false, false, false, false] (by kernel_rfl) rfl rfl ((((Below.refl _ wP).drew).cell (p := ⟨gb, 1, none⟩) HGB.out |>.trans HY1.out)) (fun hHeld => ?_)
      refine pure_ (i := 0) (N := some 107) (v := ?_) (a' := ?_) #[true, false, false, false, false, false, false, false, false] rfl rfl (by kernel_rfl) (fun _ _ _ h => h) (Or.inl ⟨by rfl, ?_⟩) ?_ ?_
      rotate_left
      · intro w'
        go_simp
        with_reducible rfl
      rotate_left
      · simp only [Act.put, List.setIfInBounds_toArray, List.set_cons_zero, List.set_cons_succ, i64_w, i32_w]
        rfl
      refine pure_ (i := 2) (N := some 109) (v := ?_) (a' := ?_) #[true, false, true, false, false, false, false, false, false] rfl rfl (by kernel_rfl) (fun _ _ _ h => h) (Or.inl ⟨by rfl, ?_⟩) ?_ ?_
      rotate_left
      · intro w'
        go_simp
        with_reducible rfl
      rotate_left
      · simp only [Act.put, List.setIfInBounds_toArray, List.set_cons_zero, List.set_cons_succ, i64_w, i32_w]
        rfl
      refine pure_ (i := 6) (N := some 113) (v := ?_) (a' := ?_) #[true, false, true, false, false, false, true, false, false] rfl rfl (by kernel_rfl) (fun _ _ _ h => h) (Or.inl ⟨by rfl, ?_⟩) ?_ ?_
      rotate_left
      · intro w'
        go_simp
        with_reducible rfl
      rotate_left
      · simp only [Act.put, List.setIfInBounds_toArray, List.set_cons_zero, List.set_cons_succ, i64_w, i32_w]
        rfl
      refine take_ (i := 3) (N := some 110) (v := ?_) (a' := ?_) #[true, false, true, true, false, false, true, false, false] rfl rfl (by kernel_rfl) (fun _ _ _ h => h) (Or.inl ⟨by rfl, ?_⟩) hHeld ?_ ?_
      rotate_left
      · intro w' s0
        go_simp
        with_reducible rfl
      rotate_left
      · simp only [Act.put, List.setIfInBounds_toArray, List.set_cons_zero, List.set_cons_succ, i64_w, i32_w]
        rfl
      refine pure_ (i := 4) (N := some 111) (v := ?_) (a' := ?_) #[true, false, true, true, true, false, true, false, false] rfl rfl (by kernel_rfl) (fun _ _ _ h => h) (Or.inl ⟨by rfl, ?_⟩) ?_ ?_
      rotate_left
      · intro w'
        go_simp
        with_reducible rfl
      rotate_left
      · simp only [Act.put, List.setIfInBounds_toArray, List.set_cons_zero, List.set_cons_succ, i64_w, i32_w]
        rfl
      refine one_ (i := 1) (N := some 108) #[true, true, true, true, true, false, true, false, false] rfl rfl (by kernel_rfl) (by decide) (fun K hK => ?_)
      refine goes_ Try.func17 (by kernel_rfl) rfl #[.slice A l.length c] (by rfl) rfl rfl (by simp only [List.map_toArray, List.map_cons, List.map_nil]; rfl) ?_
      with_reducible refine (becketlaw07_size.calls 100001 A c l (sizeL l : Int) _ (Kd.C_below HRP.out.2.2 (Below.refl _ wP).drew) HRP.out.2.1 (size_f l HL1.out HZL.out)).mono ?_
      rintro e wA ⟨rfl, hdA⟩
      refine ⟨_, rfl, ?_⟩
      have HBA := Lib.hid (((Below.refl _ wP).drew).trans hdA.below : Below wP.heap.size wP wA)
      clear hdA
      refine hK.out _ _ ((HBA.out.cell (p := ⟨gb, 1, none⟩) HGB.out |>.trans HY1.out)) (fun hHeld => ?_)
      clear hK K
      refine norm_ (a' := ?_) ?_ ?_
      rotate_left
      · show Act.put _ (some 108) _ = _
        simp only [Act.put, List.setIfInBounds_toArray, List.set_cons_zero, List.set_cons_succ, i64_w, i32_w]
        rfl
      refine pure_ (i := 5) (N := some 112) (v := ?_) (a' := ?_) #[true, true, true, true, true, true, true, false, false] rfl rfl (by kernel_rfl) (fun _ _ _ h => h) (Or.inl ⟨by rfl, ?_⟩) ?_ ?_
      rotate_left
      · intro w'
        go_simp
        with_reducible rfl
      rotate_left
      · simp only [Act.put, List.setIfInBounds_toArray, List.set_cons_zero, List.set_cons_succ, i64_w, i32_w]
        rfl
      refine pure_ (i := 7) (N := some 114) (v := ?_) (a' := ?_) #[true, true, true, true, true, true, true, true, false] rfl rfl (by kernel_rfl) (fun _ _ _ h => h) (Or.inl ⟨by rfl, ?_⟩) ?_ ?_
      rotate_left
      · intro w'
        go_simp
        with_reducible rfl
      rotate_left
      · simp only [Act.put, List.setIfInBounds_toArray, List.set_cons_zero, List.set_cons_succ, i64_w, i32_w]
        rfl
      refine pure_ (i := 8) (N := some 106) (v := ?_) (a' := ?_) #[true, true, true, true, true, true, true, true, true] rfl rfl (by kernel_rfl) (fun _ _ _ h => h) (Or.inl ⟨by rfl, ?_⟩) ?_ ?_
      rotate_left
      · intro w'
        go_simp
        with_reducible rfl
      rotate_left
      · simp only [Act.put, List.setIfInBounds_toArray, List.set_cons_zero, List.set_cons_succ, i64_w, i32_w]
        rfl
      refine done_ (by kernel_rfl) ?_
      have HSA := Lib.hid (HSP.out.below HBA.out)
      have HRA := Lib.hid (Kd.R_below HRO.out HBA.out)
      have HBwA := Lib.hid (HBP.out.trans (HBA.out.mono HBP.out.size))
      have HZA := Lib.hid (Nat.le_trans HZP.out HBA.out.size)
      have HXA := Lib.hid (blk_below HX6.out HBA.out)
      have y1A : wA.cell? ⟨gb, 1, none⟩ = some (.string d.2.1) := (blk_cell HXA.out 1).trans rfl
      have hgbA := blk_lt HXA.out
      clear hHeld y1 hgb6 HSP HRO HRP HBP HZP HX6 HY1
      by_cases hf : q - (sizeL l : Int) < (d.2.1.size : Int)
      · have e1 : putErr q l d.2.1 = some 5 := by unfold putErr; rw [if_neg HKB.out, hh, if_neg (by decide), if_pos hf]
        have e2 : putTo q l d.2.1 = l := by unfold putTo; rw [if_neg HKB.out, hh, if_neg (by decide), if_pos hf]
        have t3 : decide (q < (sizeL l : Int) + (d.2.1.size : Int)) = true := decide_eq_true (by omega)
        rw [e1, eW_some, t3]
        have HS7 := HSA.out
        rw [e2] at HS7
        have HL7 : Hid ((l.length : Int) ≤ i + 1) := Lib.hid (by have := HLI.out; omega)
        clear hf e1 e2 hh
        go_wp2_with fail
        go_meet
        case rel => exact ⟨l, A, c, rfl, HL7, Lib.hid HS7, HRA, HZA, HBwA⟩
      have e1 : putErr q l d.2.1 = none := by unfold putErr; rw [if_neg HKB.out, hh, if_neg (by decide), if_neg hf]
      have e2 : putTo q l d.2.1 = putL d.2.1 l := by unfold putTo; rw [if_neg HKB.out, hh, if_neg (by decide), if_neg hf]
      have t3 : decide (q < (sizeL l : Int) + (d.2.1.size : Int)) = false := decide_eq_false (by omega)
      rw [e1, eW_none, t3]
      have hS7 := HSA.out
      rw [e2] at hS7
      have HS7 := Lib.hid hS7
      clear hf e1 e2 hh hS7 HSA
      go_wp2_with fail
      refine (becketlaw07_put.calls 200000 A c l d.2.1 (putL d.2.1 l) _ (Kd.R_reads' HRA.out).2.2 (Kd.R_reads' HRA.out).2.1 (put_f l (by have := HLL.out; omega) d.2.1)).mono ?_
      rintro e w7 ⟨v7, rfl, hr7, hb7⟩
      obtain ⟨A7, c7, rfl⟩ := Kd.R_slice hr7
      have HS8 := Lib.hid (HS7.out.below hb7)
      have HR7 := Lib.hid (Kd.R_lower (Kd.R_mono (ok' := fun k => w2.heap.size ≤ k) (Kd.R_bound hr7) (fun k hk => Nat.le_trans HZA.out hk.2.1)) HZA.out)
      have HB7 := Lib.hid (HBwA.out.trans (hb7.mono HBwA.out.size))
      have HZ7 := Lib.hid (Nat.le_trans HZA.out hb7.size)
      have HL7 : Hid (((putL d.2.1 l).length : Int) ≤ i + 1) := Lib.hid (by rw [putL_len]; have := HLI.out; omega)
      clear hr7 hb7
      go_wp2_with fail
      go_meet
      case rel => exact ⟨putL d.2.1 l, A7, c7, rfl, HL7, HS8, HR7, HZ7, HB7⟩
    case rest =>
      obtain ⟨l', A', c', rfl, HLx, HSx, HRx, HZx, HBx⟩ := hcut
      have HLe : Hid (l'.length ≤ 100000) := Lib.hid (by have := HLx.out; have := HII.out; omega)
      go_wp2_with fail
      refine (store_Keys _ _ _ _ _ _ HSx.out).mono ?_
      rintro e wA ⟨vA, rfl, hrA, hbA⟩
      obtain ⟨AA, cA, rfl⟩ := Kd.R_slice hrA
      have HRA := Lib.hid (Kd.R_reads' hrA)
      have HRL := Lib.hid (Kd.R_below HRx.out hbA)
      have HBA := Lib.hid (HBx.out.trans (hbA.mono HBx.out.size))
      have HSA := Lib.hid (HSx.out.below hbA)
      have HZA := Lib.hid (Nat.le_trans HZx.out hbA.size)
      clear hrA hbA
      go_wp2_with fail
      refine (becketref03_Same.calls 100001 AA cA l' A' c' l' true _ HRA.out.2.2 HRA.out.2.1 (Kd.R_reads' HRL.out).2.2 (Kd.R_reads' HRL.out).2.1 (same_f _ HLe.out)).mono ?_
      rintro e wB ⟨rfl, hdB⟩
      have hbB := hdB.below
      have HRB := Lib.hid (Kd.R_below HRL.out hbB)
      have HBB := Lib.hid (HBA.out.trans (hbB.mono HBA.out.size))
      have HSB := Lib.hid (HSA.out.below hbB)
      have HZB := Lib.hid (Nat.le_trans HZA.out hbB.size)
      clear hdB hbB HRA HRL HBA HSA HZA
      go_wp2_with fail
      refine (store_Size _ _ _ _ _ _ HSB.out).mono ?_
      rintro e wC ⟨rfl, rfl⟩
      go_wp2_with fail
      refine (becketlaw07_size.calls 100001 A' c' l' (sizeL l' : Int) _ (Kd.R_reads' HRB.out).2.2 (Kd.R_reads' HRB.out).2.1 (size_f l' HLe.out (by have := HSB.out.len.2; omega))).mono ?_
      rintro e wD ⟨rfl, hdD⟩
      have hbD := hdD.below
      have HRD := Lib.hid (Kd.R_below HRB.out hbD)
      have HBD := Lib.hid (HBB.out.trans (hbD.mono HBB.out.size))
      have HSD := Lib.hid (HSB.out.below hbD)
      have HZD := Lib.hid (Nat.le_trans HZB.out hbD.size)
      have hwi : wrap64 (i + 1) = i + 1 := by have := HII.out; unfold wrap64; omega
      clear hdD hbD
      go_wp2_with fail
      go_roundg k1
      case measure => omega
      case rel => exact ⟨l', A', c', i + 1, rfl, by first | (rw [hwi]; done) | rfl, Lib.hid (by have := HI.out; omega), HLx, HSD, HRD, HZD, HBD⟩
end Go.Proofs.Ytjlbfbibamnigaa.Blobs
