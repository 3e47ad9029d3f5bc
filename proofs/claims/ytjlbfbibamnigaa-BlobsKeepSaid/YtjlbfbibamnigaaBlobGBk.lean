-- Cut by a program of this session (wip/shake.py) out of a text of this seat: what this claim doesn't reach is struck out. Lean checks it.
import Derived.Test.YtjlbfbibamnigaaBlobFBk
namespace Go.Proofs.Ytjlbfbibamnigaa.Blobs
open Go.RowKit Go.ChangeMaps Go.MapKept Go.WideShapes Go.WideAt Go.Sort Go.WideMaps Go.Proofs.Ytjlbfbibamnigaa.Bs Go.Proofs.YtjlbfbibamnigaaW.PrintWords Go.Proofs.YtjlbfbibamnigaaW.PrintLast Go.Proofs.YtjlbfbibamnigaaW.PrintMore
set_option linter.unusedVariables false
set_option linter.unusedSimpArgs false
def puts (q : Int) (l ks : List ByteArray) : List ByteArray := ks.foldl (fun l k => putTo q l k) l
theorem putTo_len (q : Int) (l : List ByteArray) (k : ByteArray) : (putTo q l k).length ≤ l.length + 1 := by
  unfold putTo
  split
  · omega
  · split
    · omega
    · split
      · omega
      · rw [putL_len]; omega
theorem puts_len (q : Int) (ks : List ByteArray) : ∀ l, (puts q l ks).length ≤ l.length + ks.length := by
  induction ks with
  | nil => intro l; simp [puts]
  | cons k r ih =>
    intro l
    have h1 := ih (putTo q l k)
    have h2 := putTo_len q l k
    have e : puts q l (k :: r) = puts q (putTo q l k) r := rfl
    rw [e, List.length_cons]
    omega
theorem puts_next (q : Int) (l : List ByteArray) {ks : List ByteArray} {i : Nat} (hi : i < ks.length) : puts q l (ks.take (i + 1)) = putTo q (puts q l (ks.take i)) ks[i] := by
  rw [take_next hi]
  unfold puts
  rw [List.foldl_append]
  rfl
theorem puts_le (q : Int) (ks : List ByteArray) (i : Nat) : (puts q [] (ks.take i)).length ≤ ks.length := by
  have h := puts_len q (ks.take i) []
  rw [List.length_take, List.length_nil] at h
  omega
set_option maxHeartbeats 4000000 in
set_option maxRecDepth 100000 in
theorem keep_calls (A0 : Option Addr) (c0 : Nat) (keys : List ByteArray) (A1 : Option Addr) (c1 : Nat) (sm : List ByteArray) (w : World) (hK : Kd.C Kd.string w A0 keys.length keys) (hz : ∀ s ∈ keys, s.size ≤ maxLen) (hS : Kd.C Kd.string w A1 sm.length sm) (hc1 : sm.length ≤ c1) :
    Calls Try.prog 5 #[.slice A0 keys.length c0, .slice A1 sm.length c1] w fun e w' => e = .returned (.bool true) ∧ Below w.heap.size w w' := by
  have HK := Lib.hid hK
  have HZ := Lib.hid hz
  have HS := Lib.hid hS
  have HC1 := Lib.hid hc1
  clear hK hz hS hc1
  go_enter Try.func5, Try.ntmps5
  go_wp2_with fail
  refine (up_calls _).mono ?_
  rintro e w1 ⟨rfl, hb1⟩
  have HB1 := Lib.hid hb1
  clear hb1
  by_cases q1 : 100 < keys.length
  · have t1 : decide (100 < (keys.length : Int)) = true := by simp; omega
    clear q1
    go_wp2
    go_ret
    exact ⟨rfl, HB1.out⟩
  have t1 : decide (100 < (keys.length : Int)) = false := by simp; omega
  have HL0 : Hid (keys.length ≤ 100) := Lib.hid (by omega)
  clear q1
  by_cases q2 : 100 < sm.length
  · have t2 : decide (100 < (sm.length : Int)) = true := by simp; omega
    clear q2
    go_wp2
    go_ret
    exact ⟨rfl, HB1.out⟩
  have t2 : decide (100 < (sm.length : Int)) = false := by simp; omega
  have HL1 : Hid (sm.length ≤ 100) := Lib.hid (by omega)
  clear q2
  go_wp2_with fail
  refine (store_New w1 65536 (by decide) (by decide)).mono ?_
  rintro e w2 ⟨rfl, hn2, hb2⟩
  obtain ⟨g, hg⟩ : ∃ g, g = w1.heap.size + 1 := ⟨_, rfl⟩
  rw [← hg] at hn2 ⊢
  have HN2 : Hid (StoreAt w2 w.heap.size (fun k => w.heap.size ≤ k ∧ k < w2.heap.size) g 65536 []) := Lib.hid (by
    obtain ⟨h1, h2, h3, h4, h5, b, h6, h7, h8, h9⟩ := hn2.bound
    have := HB1.out.size
    exact ⟨by omega, ⟨by omega, h2.2.2⟩, h3, h4, h5, b, h6, by omega, ⟨by omega, h8.2.2⟩, h9⟩)
  have HB2 := Lib.hid (HB1.out.trans (hb2.mono HB1.out.size))
  clear hn2 hb2 hg
  go_wp2_with fail
  clear t1 t2
  go_loopg [8] keys.length (fun kq v8 w' => ∃ i : Nat, v8 = .int .i64 (i : Int) ∧ Hid (i + kq = keys.length) ∧ Hid (StoreAt w' w.heap.size (fun k => w.heap.size ≤ k ∧ k < w2.heap.size) g 65536 (puts 65536 [] (keys.take i))) ∧ Hid (w2.heap.size ≤ w'.heap.size) ∧ Hid (Below w.heap.size w w'))
  case atStart => exact ⟨0, rfl, Lib.hid (by omega), HN2, Lib.hid (Nat.le_refl _), HB2⟩
  case round =>
    obtain ⟨i, rfl, HJ, HN, HZ2, HB⟩ := hrel
    by_cases hj : i < keys.length
    · have hd : decide (i < keys.length) = true := by simpa using hj
      cases gk with
      | zero => have := HJ.out; omega
      | succ k1 =>
      have p1 : 0 ≤ (i : Int) := by omega
      have q1 : (i : Int) < (keys.length : Int) := by omega
      obtain ⟨ad, e1, hx⟩ := Kd.at_string (Kd.C_below HK.out HB.out) (i : Int) p1 q1
      cases e1
      rw [rdS keys i hj, Int.toNat_natCast] at hx
      have hwj : wrap64 ((i : Int) + 1) = ((i + 1 : Nat) : Int) := by have := HL0.out; unfold wrap64; omega
      have HX := Lib.hid (HZ.out keys[i] (List.getElem_mem hj))
      have HP := Lib.hid (puts_next 65536 [] hj)
      generalize keys[i] = x at hx HX HP
      clear hj
      go_wp2_with fail
      refine (store_Put _ _ _ _ _ (by decide) _ HN.out (by have := puts_le 65536 keys i; have := HL0.out; omega) x HX.out).mono ?_
      rintro e w3 ⟨rfl, hs3⟩
      rw [← HP.out] at hs3
      have HN3 := Lib.hid hs3.1
      have HZ3 := Lib.hid (Nat.le_trans HZ2.out hs3.2.1.1)
      have HB3 := Lib.hid (HB.out.trans hs3.2.2)
      clear hs3 hx
      go_wp2_with fail
      go_roundg k1
      case measure => omega
      case rel => exact ⟨i + 1, by first | (rw [hwj]; done) | (simp; done), Lib.hid (by have := HJ.out; omega), HN3, HZ3, HB3⟩
    have hd : decide (i < keys.length) = false := by simpa using hj
    have hik : i = keys.length := by have := HJ.out; omega
    subst hik
    have HLN : Hid ((puts 65536 [] (keys.take keys.length)).length ≤ 100) := Lib.hid (by have := puts_le 65536 keys keys.length; have := HL0.out; omega)
    generalize puts 65536 [] (keys.take keys.length) = L at HN HLN
    clear hj HJ
    go_wp2_with fail
    refine (store_Keys _ _ _ _ _ _ HN.out).mono ?_
    rintro e w3 ⟨v3, rfl, hr3, hb3⟩
    obtain ⟨A3, c3, rfl⟩ := Kd.R_slice hr3
    have HR3 := Lib.hid (Kd.R_mono (ok' := fun k => w2.heap.size ≤ k) (Kd.R_bound hr3) (fun k hk => Nat.le_trans HZ2.out hk.2.1))
    have HN3 := Lib.hid (HN.out.below hb3)
    have HB3 := Lib.hid (HB.out.trans (hb3.mono HB.out.size))
    have HZ3 := Lib.hid (Nat.le_trans HZ2.out hb3.size)
    clear hr3 hb3 HN
    go_wp2_with fail
    refine (store_Keep _ _ _ _ _ _ HN3.out A1 c1 sm (Kd.C_kept_came Kd.heap_string HS.out HB3.out (fun k hk => hk.1)) HC1.out (by have := HL1.out; omega)).mono ?_
    rintro e w4 ⟨rfl, hs4⟩
    obtain ⟨L', hL'⟩ : ∃ L', L' = L.filter fun s => hasB sm s := ⟨_, rfl⟩
    rw [← hL'] at hs4
    have HL' := Lib.hid hL'
    have hkn : (kn sm L L.length : Int) = (L.length : Int) - (L'.length : Int) := by
      unfold kn
      rw [List.take_length, ← hL']
      have : L'.length ≤ L.length := by rw [hL']; exact List.length_filter_le _ _
      omega
    rw [hkn]
    have HN4 := Lib.hid hs4.1
    have HR4 := Lib.hid (Kd.R_kept HR3.out hs4.2.1 (fun k hk h => by have := h.2; omega))
    have HB4 := Lib.hid (HB3.out.trans hs4.2.2)
    have HZ4 := Lib.hid (Nat.le_trans HZ3.out hs4.2.1.1)
    clear hs4 hkn hL' HN3 HR3 HB3
    go_wp2_with fail
    refine (store_Keys _ _ _ _ _ _ HN4.out).mono ?_
    rintro e w5 ⟨v5, rfl, hr5, hb5⟩
    obtain ⟨A5, c5, rfl⟩ := Kd.R_slice hr5
    have HR5 := Lib.hid (Kd.R_mono (ok' := fun k => w2.heap.size ≤ k) (Kd.R_bound hr5) (fun k hk => Nat.le_trans HZ4.out hk.2.1))
    have HR54 := Lib.hid (Kd.R_below HR4.out hb5)
    have HN5 := Lib.hid (HN4.out.below hb5)
    have HB5 := Lib.hid (HB4.out.trans (hb5.mono HB4.out.size))
    have HZ5 := Lib.hid (Nat.le_trans HZ4.out hb5.size)
    clear hr5 hb5 HN4 HR4 HB4
    go_wp2_with fail
    refine (store_Keep _ _ _ _ _ _ HN5.out A1 c1 sm (Kd.C_kept_came Kd.heap_string HS.out HB5.out (fun k hk => hk.1)) HC1.out (by have := HL1.out; omega)).mono ?_
    rintro e w6 ⟨rfl, hs6⟩
    have hL2 : (L'.filter fun s => hasB sm s) = L' := by rw [HL'.out, List.filter_filter]; simp
    rw [hL2] at hs6
    have hkn : (kn sm L' L'.length : Int) = 0 := by
      unfold kn
      rw [List.take_length, hL2]
      omega
    rw [hkn]
    have HR6 := Lib.hid (Kd.R_reads' (Kd.R_kept HR5.out hs6.2.1 (fun k hk h => by have := h.2; omega)))
    have HR63 := Lib.hid (Kd.R_reads' (Kd.R_kept HR54.out hs6.2.1 (fun k hk h => by have := h.2; omega)))
    have HB6 := Lib.hid (HB5.out.trans hs6.2.2)
    have hw : wrap64 ((L.length : Int) - (L'.length : Int)) = (L.length : Int) - (L'.length : Int) := by
      have : L'.length ≤ L.length := by rw [HL'.out]; exact List.length_filter_le _ _
      have := HLN.out
      unfold wrap64
      omega
    clear hs6 hkn hL2 HN5 HR5 HR54 HB5
    go_wp2_with fail
    refine (becketlaw07_only.calls 300000 A3 c3 L A1 c1 sm true (L.filter fun x => hasB sm x == true) _ HR63.out.2.2 HR63.out.2.1 (Kd.C_below HS.out HB6.out) HC1.out (only_f L sm (by have := HLN.out; omega) (by have := HL1.out; omega) true)).mono ?_
    rintro e w7 ⟨v7, rfl, hr7, hb7⟩
    have e7 : (L.filter fun x => hasB sm x == true) = L' := by rw [HL'.out]; simp
    rw [e7] at hr7
    obtain ⟨A7, c7, rfl⟩ := Kd.R_slice hr7
    have HR7 := Lib.hid (Kd.R_reads' hr7)
    have HR67 := Lib.hid (Kd.C_below HR6.out.2.2 hb7)
    have HB7 := Lib.hid (HB6.out.trans (hb7.mono HB6.out.size))
    clear hr7 hb7 e7
    go_wp2_with fail
    have hL100 : L'.length ≤ 100000 := by have := HLN.out; have h2 : L'.length ≤ L.length := (by rw [HL'.out]; exact List.length_filter_le _ _); omega
    refine (becketref03_Same.calls 100001 A5 c5 L' A7 c7 L' true _ HR67.out HR6.out.2.1 HR7.out.2.2 HR7.out.2.1 (same_f _ hL100)).mono ?_
    rintro e w8 ⟨rfl, hd8⟩
    have HB8 := Lib.hid (HB7.out.trans (hd8.below.mono HB7.out.size))
    clear hd8
    go_wp2
    go_ret
    exact ⟨rfl, HB8.out⟩
end Go.Proofs.Ytjlbfbibamnigaa.Blobs
