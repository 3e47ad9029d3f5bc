-- Cut by a program of this session (wip/shake.py) out of a text of this seat: what this claim doesn't reach is struck out. Lean checks it.
import Derived.Test.YtjlbfbibamnigaaBlobHBt
namespace Go.Proofs.Ytjlbfbibamnigaa.Blobs
open Go.RowKit Go.ChangeMaps Go.MapKept Go.WideShapes Go.WideAt Go.Sort Go.WideMaps Go.Proofs.Ytjlbfbibamnigaa.Bs Go.Proofs.YtjlbfbibamnigaaW.PrintWords Go.Proofs.YtjlbfbibamnigaaW.PrintLast Go.Proofs.YtjlbfbibamnigaaW.PrintMore
set_option linter.unusedVariables false
set_option linter.unusedSimpArgs false
theorem StoreAt.up {W : World} {B : Nat} {ok : Nat → Prop} {g : Nat} {q : Int} {l : List ByteArray} (h : StoreAt W B ok g q l) : Rising l := by
  obtain ⟨_, _, _, _, _, _, _, _, _, h9⟩ := h
  exact h9.up
theorem StoreAt.since {W W0 : World} {B B' : Nat} {ok : Nat → Prop} {g : Nat} {q : Int} {l : List ByteArray} (h : StoreAt W B ok g q l) (hB : B' ≤ B) (hs : W0.heap.size ≤ B) : StoreAt W B' (fun k => W0.heap.size ≤ k ∧ k < W.heap.size) g q l := by
  obtain ⟨h1, h2, h3, h4, h5, b, h6, h7, h8, h9⟩ := h.bound
  exact ⟨Nat.le_trans hB h1, ⟨Nat.le_trans hs h1, h2.2.2⟩, h3, h4, h5, b, h6, Nat.le_trans hB h7, ⟨Nat.le_trans hs h7, h8.2.2⟩, h9⟩
set_option maxHeartbeats 4000000 in
set_option maxRecDepth 100000 in
theorem turn_calls (A0 : Option Addr) (c0 : Nat) (keys : List ByteArray) (at_ : Int) (w : World) (hK : Kd.C Kd.string w A0 keys.length keys) (hz : ∀ s ∈ keys, s.size ≤ maxLen) (hat : -9223372036854775808 ≤ at_ ∧ at_ ≤ 9223372036854775807) :
    Calls Try.prog 3 #[.slice A0 keys.length c0, .int .i64 at_] w fun e w' => e = .returned (.bool true) ∧ Below w.heap.size w w' := by
  have HK := Lib.hid hK
  have HZ := Lib.hid hz
  have HAT := Lib.hid hat
  clear hK hz hat
  go_enter Try.func3, Try.ntmps3
  go_wp2_with fail
  refine (up_calls _).mono ?_
  rintro e w1 ⟨rfl, hb1⟩
  have HB1 := Lib.hid hb1
  clear hb1
  by_cases q1 : 100 < keys.length
  · have t1 : decide (100 < (keys.length : Int)) = true := by simp; omega
    clear q1
    go_wp2
    go_ret
    exact ⟨rfl, HB1.out⟩
  have t1 : decide (100 < (keys.length : Int)) = false := by simp; omega
  have HL0 : Hid (keys.length ≤ 100) := Lib.hid (by omega)
  clear q1
  by_cases q2 : keys.length = 0
  · have t2 : ((keys.length : Int) == 0) = true := beq_iff_eq.mpr (by omega)
    clear q2
    go_wp2
    go_ret
    exact ⟨rfl, HB1.out⟩
  have t2 : ((keys.length : Int) == 0) = false := beq_eq_false_iff_ne.mpr (by omega)
  have HL1 : Hid (0 < keys.length) := Lib.hid (by omega)
  clear q2
  go_wp2_with fail
  refine (store_New w1 65536 (by decide) (by decide)).mono ?_
  rintro e w2 ⟨rfl, hn2, hb2⟩
  obtain ⟨g, hg⟩ : ∃ g, g = w1.heap.size + 1 := ⟨_, rfl⟩
  rw [← hg] at hn2 ⊢
  have HS : Hid (StoreAt w2 w.heap.size (fun k => w.heap.size ≤ k ∧ k < w2.heap.size) g 65536 []) := Lib.hid (hn2.since HB1.out.size HB1.out.size)
  have HB2 := Lib.hid (HB1.out.trans (hb2.mono HB1.out.size))
  clear hn2 hb2 hg
  go_wp2_with fail
  refine (store_New w2 65536 (by decide) (by decide)).mono ?_
  rintro e w3 ⟨rfl, hn3, hb3⟩
  obtain ⟨h, hh⟩ : ∃ h, h = w2.heap.size + 1 := ⟨_, rfl⟩
  rw [← hh] at hn3 ⊢
  have HT : Hid (StoreAt w3 w.heap.size (fun k => w2.heap.size ≤ k ∧ k < w3.heap.size) h 65536 []) := Lib.hid (hn3.since HB2.out.size (Nat.le_refl _))
  have HS3 := Lib.hid (HS.out.below hb3)
  have HB3 := Lib.hid (HB2.out.trans (hb3.mono HB2.out.size))
  have HZ23 := Lib.hid hb3.size
  clear hn3 hb3 hh HS HB2
  go_wp2_with fail
  obtain ⟨k, hk, hpf⟩ := pick_f at_ HAT.out keys.length HL1.out
  refine (becketlaw07_pick.calls at_ (keys.length : Int) (k : Int) _ hpf).mono ?_
  rintro e w4 ⟨rfl, hd4⟩
  have HKL := Lib.hid hk
  have HS4 := Lib.hid (HS3.out.below hd4.below)
  have HT4 := Lib.hid (HT.out.below hd4.below)
  have HB4 := Lib.hid (HB3.out.trans (hd4.below.mono HB3.out.size))
  have HZ4 := Lib.hid hd4.below.size
  clear hk hpf hd4 HT HS3
  go_wp2_with fail
  clear t1 t2
  go_loopg [11] keys.length (fun kq v11 w' => ∃ i : Nat, v11 = .int .i64 (i : Int) ∧ Hid (i + kq = keys.length) ∧ Hid (StoreAt w' w.heap.size (fun k => w.heap.size ≤ k ∧ k < w2.heap.size) g 65536 (puts 65536 [] (keys.take i))) ∧ Hid (StoreAt w' w.heap.size (fun k => w2.heap.size ≤ k ∧ k < w3.heap.size) h 65536 (puts 65536 [] ((turned keys k).take i))) ∧ Hid (w3.heap.size ≤ w'.heap.size) ∧ Hid (Below w.heap.size w w'))
  case atStart => exact ⟨0, rfl, Lib.hid (by omega), HS4, HT4, HZ4, HB4⟩
  case round =>
    obtain ⟨i, rfl, HJ, HS, HT, HZ2, HB⟩ := hrel
    by_cases hj : i < keys.length
    · have hd : decide (i < keys.length) = true := by simpa using hj
      cases gk with
      | zero => have := HJ.out; omega
      | succ k1 =>
      have p1 : 0 ≤ (i : Int) := by omega
      have q1 : (i : Int) < (keys.length : Int) := by omega
      obtain ⟨ad, e1, hx⟩ := Kd.at_string (Kd.C_below HK.out HB.out) (i : Int) p1 q1
      cases e1
      rw [rdS keys i hj, Int.toNat_natCast] at hx
      have hwj : wrap64 ((i : Int) + 1) = ((i + 1 : Nat) : Int) := by have := HL0.out; unfold wrap64; omega
      have HX := Lib.hid (HZ.out keys[i] (List.getElem_mem hj))
      have HP := Lib.hid (puts_next 65536 [] hj)
      have hwk : wrap64 ((i : Int) + (k : Int)) = ((i + k : Nat) : Int) := by have := HL0.out; have := HKL.out; unfold wrap64; omega
      have hjt : i < (turned keys k).length := by rw [turned_len]; exact hj
      have HP2 := Lib.hid (puts_next 65536 [] hjt)
      have HT2 := Lib.hid (turned_at keys k hj hjt)
      generalize keys[i] = x at hx HX HP
      generalize (turned keys k)[i] = y at HP2 HT2
      have HJK := Lib.hid hj
      clear hj hjt
      go_wp2_with fail
      refine (store_Put _ _ _ _ _ (by decide) _ HS.out (by have := puts_le 65536 keys i; have := HL0.out; omega) x HX.out).mono ?_
      rintro e w5 ⟨rfl, hs5⟩
      rw [← HP.out] at hs5
      have HS5 := Lib.hid hs5.1
      have HT5 := Lib.hid (HT.out.kept hs5.2.1 (fun j hj h => by have := hj.1; have := h.2; omega))
      have HZ5 := Lib.hid (Nat.le_trans HZ2.out hs5.2.1.1)
      have HB5 := Lib.hid (HB.out.trans hs5.2.2)
      clear hs5 hx HS HT HB HX HP
      have hml : (i + k) % keys.length < keys.length := Nat.mod_lt _ HL1.out
      have hcast : (((i + k) % keys.length : Nat) : Int) = ((i : Int) + (k : Int)) % (keys.length : Int) := by rw [Int.natCast_emod, Int.natCast_add]
      have hp2 : (0 : Int) ≤ ((i : Int) + (k : Int)) % (keys.length : Int) := by rw [← hcast]; exact Int.natCast_nonneg _
      have hq2 : ((i : Int) + (k : Int)) % (keys.length : Int) < (keys.length : Int) := by rw [← hcast]; exact Int.ofNat_lt.2 hml
      obtain ⟨ad2, e2, hy⟩ := Kd.at_string (Kd.C_below HK.out HB5.out) (((i : Int) + (k : Int)) % (keys.length : Int)) hp2 hq2
      rw [← hcast, ← HT2.out, Int.toNat_natCast] at hy
      have HYS : Hid (y.size ≤ maxLen) := Lib.hid (by rw [HT2.out, rdS keys _ hml]; exact HZ.out _ (List.getElem_mem hml))
      replace hp2 := eq_true hp2
      replace hq2 := eq_true hq2
      clear hcast
      have hn0 : ((keys.length : Int) == 0) = false := beq_eq_false_iff_ne.mpr (by have := HL1.out; omega)
      cases e2
      go_wp2_with fail
      refine (store_Put _ _ _ _ _ (by decide) _ HT5.out (by have := puts_le 65536 (turned keys k) i; rw [turned_len] at this; have := HL0.out; omega) y HYS.out).mono ?_
      rintro e w6 ⟨rfl, hs6⟩
      rw [← HP2.out] at hs6
      have HT6 := Lib.hid hs6.1
      have HS6 := Lib.hid (HS5.out.kept hs6.2.1 (fun j hj h => by have := hj.2; have := h.1; omega))
      have HZ6 := Lib.hid (Nat.le_trans HZ5.out hs6.2.1.1)
      have HB6 := Lib.hid (HB5.out.trans hs6.2.2)
      clear hs6 hy HS5 HT5 HB5 HT2 HP2 hp2 hq2 hn0 hwk
      go_wp2_with fail
      go_roundg k1
      case measure => omega
      case rel => exact ⟨i + 1, by first | (rw [hwj]; done) | (simp; done), Lib.hid (by have := HJ.out; omega), HS6, HT6, HZ6, HB6⟩
    have hd : decide (i < keys.length) = false := by simpa using hj
    have hik : i = keys.length := by have := HJ.out; omega
    subst hik
    have htk : (turned keys k).take keys.length = turned keys k := by rw [← turned_len keys k, List.take_length]
    have HSA := HS.out
    have HTA := HT.out
    rw [List.take_length] at HSA
    rw [htk] at HTA
    rw [← turn_same HKL.out HL0.out HSA.up HTA.up] at HTA
    have HLN : Hid ((puts 65536 [] keys).length ≤ 100) := Lib.hid (by have := puts_le 65536 keys keys.length; rw [List.take_length] at this; have := HL0.out; omega)
    have HSB := Lib.hid HSA
    have HTB := Lib.hid HTA
    clear HSA HTA htk HS HT
    generalize puts 65536 [] keys = L at HSB HTB HLN
    clear hj HJ
    go_wp2_with fail
    refine (store_Keys _ _ _ _ _ _ HSB.out).mono ?_
    rintro e w5 ⟨v5, rfl, hr5, hb5⟩
    obtain ⟨A5, c5, rfl⟩ := Kd.R_slice hr5
    have HR5 := Lib.hid (Kd.R_mono (ok' := fun k => wr.heap.size ≤ k) (Kd.R_bound hr5) (fun k hk => hk.2.1))
    have HS5 := Lib.hid (HSB.out.below hb5)
    have HT5 := Lib.hid (HTB.out.below hb5)
    have HB5 := Lib.hid (HB.out.trans (hb5.mono HB.out.size))
    have HZ5 := Lib.hid (Nat.le_trans HZ2.out hb5.size)
    clear hr5 hb5 HSB HTB
    go_wp2_with fail
    refine (store_Keys _ _ _ _ _ _ HT5.out).mono ?_
    rintro e w6 ⟨v6, rfl, hr6, hb6⟩
    obtain ⟨A6, c6, rfl⟩ := Kd.R_slice hr6
    have HR6 := Lib.hid (Kd.R_reads' hr6)
    have HR56 := Lib.hid (Kd.R_below HR5.out hb6)
    have HS6 := Lib.hid (HS5.out.below hb6)
    have HT6 := Lib.hid (HT5.out.below hb6)
    have HB6 := Lib.hid (HB5.out.trans (hb6.mono HB5.out.size))
    have HZ6 := Lib.hid (Nat.le_trans HZ5.out hb6.size)
    clear hr6 hb6 HS5 HT5 HR5 HB5
    go_wp2_with fail
    refine (becketref03_Same.calls 100001 A5 c5 L A6 c6 L true _ (Kd.R_reads' HR56.out).2.2 (Kd.R_reads' HR56.out).2.1 HR6.out.2.2 HR6.out.2.1 (same_f _ (by have := HLN.out; omega))).mono ?_
    rintro e w7 ⟨rfl, hd7⟩
    have hb7 := hd7.below
    have HR7 := Lib.hid (Kd.R_below HR56.out hb7)
    have HS7 := Lib.hid (HS6.out.below hb7)
    have HT7 := Lib.hid (HT6.out.below hb7)
    have HB7 := Lib.hid (HB6.out.trans (hb7.mono HB6.out.size))
    have HZ7 := Lib.hid (Nat.le_trans HZ6.out hb7.size)
    clear hd7 hb7 HR56 HS6 HT6 HR6 HB6
    go_wp2_with fail
    refine (store_Size _ _ _ _ _ _ HS7.out).mono ?_
    rintro e w8 ⟨rfl, rfl⟩
    go_wp2_with fail
    refine (store_Size _ _ _ _ _ _ HT7.out).mono ?_
    rintro e w9 ⟨rfl, rfl⟩
    go_wp2_with fail
    have HBZ := Lib.hid (Nat.le_trans HB.out.size (Nat.le_refl _))
    go_loopg [13] L.length (fun kq v13 w' => ∃ (i : Nat) (xs : List ByteArray), v13 = .int .i64 (i : Int) ∧ Hid (i + kq = L.length) ∧ Hid (Kd.R Kd.string 9 w' wr.heap.size (fun k => wr.heap.size ≤ k) (.slice A5 L.length c5) xs) ∧ Hid (StoreAt w' w.heap.size (fun k => w.heap.size ≤ k ∧ k < w2.heap.size) g 65536 L) ∧ Hid (StoreAt w' w.heap.size (fun k => w2.heap.size ≤ k ∧ k < w3.heap.size) h 65536 L) ∧ Hid (Below w.heap.size w w'))
    case atStart => exact ⟨0, L, rfl, Lib.hid (by omega), HR7, HS7, HT7, HB7⟩
    case round =>
      obtain ⟨i, xs, rfl, HJ, HR, HS, HT, HB8⟩ := hrel
      by_cases hj : i < L.length
      · have hd : decide (i < L.length) = true := by simpa using hj
        cases gk with
        | zero => have := HJ.out; omega
        | succ k1 =>
        have p1 : 0 ≤ (i : Int) := by omega
        have q1 : (i : Int) < (L.length : Int) := by omega
        have hxl : xs.length = L.length := (Kd.R_reads' HR.out).1.symm
        obtain ⟨gx, cx, e1, hgx, _, _, _⟩ := Kd.R_form HR.out (by omega)
        have e2 : A5 = some ⟨gx, 0, none⟩ ∧ c5 = cx := by injection e1 with a b c; exact ⟨a, c⟩
        obtain ⟨rfl, rfl⟩ := e2
        obtain ⟨hx, hf⟩ := Kd.R_celln ByteArray.empty HR.out (i : Int) p1 q1
        have hR9 := (Kd.R_putg HR.out (i : Int) (⟨#[]⟩ : ByteArray)).1
        rw [Int.toNat_natCast] at hx hf hR9
        have HR9 := Lib.hid hR9
        have HGX := Lib.hid hgx
        have hwj : wrap64 ((i : Int) + 1) = ((i + 1 : Nat) : Int) := by have := HLN.out; unfold wrap64; omega
        clear e1 hxl hgx hR9 hj
        go_wp2_with fail
        have HS9 := Lib.hid (HS.out.kept (S := fun k => k = gx) (Kept.setCell (p := ⟨gx, i, none⟩) (Kept.refl wr (fun k => k = gx)) (.inl rfl) (.string ⟨#[]⟩)) (fun k hk e => by have := HGX.out; have := hk.2; have := HZ2.out; have := HZ23.out; omega))
        have HT9 := Lib.hid (HT.out.kept (S := fun k => k = gx) (Kept.setCell (p := ⟨gx, i, none⟩) (Kept.refl wr (fun k => k = gx)) (.inl rfl) (.string ⟨#[]⟩)) (fun k hk e => by have := HGX.out; have := hk.2; have := HZ2.out; omega))
        have HB9 := Lib.hid (Below.setCell (p := ⟨gx, i, none⟩) HB8.out (by have := HBZ.out; have := HGX.out; show w.heap.size ≤ gx; omega) (.string ⟨#[]⟩))
        go_roundg k1
        case measure => omega
        case rel => exact ⟨i + 1, xs.set i (⟨#[]⟩ : ByteArray), by first | (rw [hwj]; done) | (simp; done), Lib.hid (by have := HJ.out; omega), HR9, HS9, HT9, HB9⟩
      have hd : decide (i < L.length) = false := by simpa using hj
      clear hj
      go_wp2_with fail
      refine (store_Keys _ _ _ _ _ _ HS.out).mono ?_
      rintro e w9 ⟨v9, rfl, hr9, hb9⟩
      obtain ⟨A9, c9, rfl⟩ := Kd.R_slice hr9
      have HR9 := Lib.hid hr9
      have HT9 := Lib.hid (HT.out.below hb9)
      have HB9 := Lib.hid (HB8.out.trans (hb9.mono HB8.out.size))
      clear hr9 hb9
      go_wp2_with fail
      refine (store_Keys _ _ _ _ _ _ HT9.out).mono ?_
      rintro e w10 ⟨v10, rfl, hr10, hb10⟩
      obtain ⟨A10, c10, rfl⟩ := Kd.R_slice hr10
      have HR10 := Lib.hid (Kd.R_reads' hr10)
      have HR910 := Lib.hid (Kd.R_reads' (Kd.R_below HR9.out hb10))
      have HB10 := Lib.hid (HB9.out.trans (hb10.mono HB9.out.size))
      clear hr10 hb10
      go_wp2_with fail
      refine (becketref03_Same.calls 100001 A9 c9 L A10 c10 L true _ HR910.out.2.2 HR910.out.2.1 HR10.out.2.2 HR10.out.2.1 (same_f _ (by have := HLN.out; omega))).mono ?_
      rintro e w11 ⟨rfl, hd11⟩
      have HB11 := Lib.hid (HB10.out.trans (hd11.below.mono HB10.out.size))
      clear hd11
      go_wp2
      go_ret
      exact ⟨rfl, HB11.out⟩
end Go.Proofs.Ytjlbfbibamnigaa.Blobs
