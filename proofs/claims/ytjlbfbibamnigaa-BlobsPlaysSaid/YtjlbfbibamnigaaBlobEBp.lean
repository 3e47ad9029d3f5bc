-- Cut by a program of this session (wip/shake.py) out of a text of this seat: what this claim doesn't reach is struck out. Lean checks it.
import Derived.Test.YtjlbfbibamnigaaBlobDBp
namespace Go.Proofs.Ytjlbfbibamnigaa.Blobs
open Go.RowKit Go.ChangeMaps Go.MapKept Go.WideShapes Go.WideAt Go.Sort Go.WideMaps Go.Proofs.Ytjlbfbibamnigaa.Bs Go.Proofs.YtjlbfbibamnigaaW.PrintWords Go.Proofs.YtjlbfbibamnigaaW.PrintLast Go.Proofs.YtjlbfbibamnigaaW.PrintMore
set_option linter.unusedVariables false
set_option linter.unusedSimpArgs false
def kp (keys l : List ByteArray) (i : Nat) : List ByteArray := ((l.take i).filter fun s => hasB keys s) ++ l.drop i
def kn (keys l : List ByteArray) (i : Nat) : Nat := i - ((l.take i).filter fun s => hasB keys s).length
theorem kp_zero (keys l : List ByteArray) : kp keys l 0 = l := by simp [kp]
theorem kp_end (keys l : List ByteArray) : kp keys l l.length = l.filter fun s => hasB keys s := by simp [kp]
theorem take_next {l : List ByteArray} {i : Nat} (hi : i < l.length) : l.take (i + 1) = l.take i ++ [l[i]] := by rw [List.take_add_one, List.getElem?_eq_getElem hi]; rfl
theorem kn_le (keys l : List ByteArray) (i : Nat) : ((l.take i).filter fun s => hasB keys s).length ≤ i := by
  have h1 := List.length_filter_le (fun s => hasB keys s) (l.take i)
  rw [List.length_take] at h1
  omega
theorem kp_in {keys l : List ByteArray} {i : Nat} (hi : i < l.length) (h : hasB keys l[i] = true) : kp keys l (i + 1) = kp keys l i ∧ kn keys l (i + 1) = kn keys l i := by
  have h1 := kn_le keys l i
  unfold kp kn
  rw [take_next hi, List.filter_append, List.filter_cons, if_pos h, List.filter_nil, List.drop_eq_getElem_cons hi, List.length_append]
  refine ⟨by simp, ?_⟩
  simp only [List.length_cons, List.length_nil]
  omega
theorem kp_out {keys l : List ByteArray} {i : Nat} (hn : l.Nodup) (hi : i < l.length) (h : hasB keys l[i] = false) : hasB (kp keys l i) l[i] = true ∧ without (kp keys l i) l[i] = kp keys l (i + 1) ∧ kn keys l (i + 1) = kn keys l i + 1 := by
  have h1 := kn_le keys l i
  have hd : l.drop i = l[i] :: l.drop (i + 1) := List.drop_eq_getElem_cons hi
  have hsp : (l.take i ++ l[i] :: l.drop (i + 1)).Nodup := by rw [← hd, List.take_append_drop]; exact hn
  obtain ⟨a1, a2, a3⟩ := List.nodup_append.1 hsp
  obtain ⟨b1, b2⟩ := List.nodup_cons.1 a2
  refine ⟨hasB_iff.2 ?_, ?_, ?_⟩
  · unfold kp
    rw [hd]
    exact List.mem_append_right _ List.mem_cons_self
  · unfold without kp
    rw [hd, List.filter_append, List.filter_cons, if_neg (by simp), take_next hi, List.filter_append (l₁ := l.take i), List.filter_cons (x := l[i]), if_neg (by rw [h]; decide), List.filter_nil, List.append_nil]
    have e1 : (List.filter (fun s => decide (s ≠ l[i])) ((l.take i).filter fun s => hasB keys s)) = (l.take i).filter fun s => hasB keys s := by
      rw [List.filter_eq_self]
      intro s hs
      refine decide_eq_true (fun e => ?_)
      exact a3 s (List.mem_filter.1 hs).1 l[i] List.mem_cons_self e
    have e2 : (l.drop (i + 1)).filter (fun s => decide (s ≠ l[i])) = l.drop (i + 1) := by
      rw [List.filter_eq_self]
      intro s hs
      exact decide_eq_true (fun e => b1 (by rw [← e]; exact hs))
    rw [e1, e2]
  · unfold kn
    rw [take_next hi, List.filter_append, List.filter_cons, if_neg (by rw [h]; decide), List.filter_nil, List.append_nil]
    omega
set_option maxHeartbeats 4000000 in
theorem store_Keep (w : World) (B : Nat) (ok : Nat → Prop) (g : Nat) (q : Int) (l : List ByteArray) (h : StoreAt w B ok g q l) (A0 : Option Addr) (c0 : Nat) (keys : List ByteArray) (hA : ∀ W, Kept w W ok → Kd.C Kd.string W A0 keys.length keys) (hc : keys.length ≤ c0) (hkl : keys.length ≤ 100000) :
    Calls Try.prog 16 #[.pointer (some ⟨g, 0, none⟩), .slice A0 keys.length c0] w fun e w' => e = .returned (.int .i64 (kn keys l l.length : Int)) ∧ StoreTo w w' B ok g q (l.filter fun s => hasB keys s) := by
  have HA := Lib.hid hA
  have HC := Lib.hid hc
  have HKL := Lib.hid hkl
  have hBw : B ≤ w.heap.size := by have := h.glt; have := h.1; omega
  have HBW := Lib.hid hBw
  have HND : Hid l.Nodup := Lib.hid (by obtain ⟨_, _, _, _, _, _, _, _, _, hset⟩ := h; exact hset.up.nodup)
  have HLN := Lib.hid h.len.1
  have hsz : ∀ s ∈ l, s.size ≤ 64 := h.2.2.2.2.1
  have HSZ := Lib.hid hsz
  have H := Lib.hid h.bound
  clear hA hc hkl hBw hsz h
  go_enter Try.func16, Try.ntmps16
  go_wp2_with fail
  refine (store_Keys _ _ _ _ _ _ H.out).mono ?_
  rintro e w1 ⟨v1, rfl, hr1, hb1⟩
  obtain ⟨A1, c1, rfl⟩ := Kd.R_slice hr1
  have HR1 := Lib.hid (Kd.R_mono (ok' := fun k => w.heap.size ≤ k) (Kd.R_bound hr1) (fun k hk => hk.2.1))
  have HS1 := Lib.hid (H.out.below hb1)
  have HB1 := Lib.hid hb1
  have hln : (l.length : Int) ≤ 90000 := by have := HLN.out; omega
  clear hr1 hb1 hln
  go_wp2_with fail
  go_loopg [5, 7, 11] l.length (fun kq v5 v7 v11 w' => ∃ i : Nat, v5 = .int .i64 (kn keys l i : Int) ∧ v11 = .int .i64 (i : Int) ∧ Hid (i + kq = l.length) ∧ Hid (StoreAt w' B (fun k => ok k ∧ B ≤ k ∧ k < w.heap.size) g q (kp keys l i)) ∧ Hid (Kept w1 w' (fun k => ok k ∧ B ≤ k ∧ k < w.heap.size)) ∧ Hid (Below B w w'))
  case atStart => exact ⟨0, rfl, rfl, Lib.hid (by omega), Lib.hid (by rw [kp_zero]; exact HS1.out), Lib.hid (Kept.refl _ _), Lib.hid (HB1.out.mono HBW.out)⟩
  case round =>
    obtain ⟨i, rfl, rfl, HJ, HS, HK, HB⟩ := hrel
    by_cases hj : i < l.length
    · have hd : decide (i < l.length) = true := by simpa using hj
      cases gk with
      | zero => have := HJ.out; omega
      | succ k1 =>
      have HR := Lib.hid (Kd.R_kept HR1.out HK.out (fun k hk h => by have := h.2.2; omega))
      have p1 : 0 ≤ (i : Int) := by omega
      have q1 : (i : Int) < (l.length : Int) := by omega
      obtain ⟨ad, e1, hx⟩ := Kd.at_string (Kd.R_reads' HR.out).2.2 (i : Int) p1 q1
      cases e1
      rw [rdS l i hj, Int.toNat_natCast] at hx
      have hwj : wrap64 ((i : Int) + 1) = ((i + 1 : Nat) : Int) := by have := HLN.out; unfold wrap64; omega
      have hnl := kn_le keys l i
      have hwn : wrap64 ((kn keys l i : Int) + 1) = ((kn keys l i + 1 : Nat) : Int) := by have := HLN.out; have : kn keys l i ≤ i := Nat.sub_le _ _; unfold wrap64; omega
      have HX := Lib.hid (HSZ.out l[i] (List.getElem_mem hj))
      have HI := Lib.hid (fun (h : hasB keys l[i] = true) => kp_in hj h)
      have HO := Lib.hid (fun (h : hasB keys l[i] = false) => kp_out HND.out hj h)
      generalize l[i] = x at hx HX HI HO
      clear hj hnl
      go_wp2_with fail
      refine (slices_Contains_string_string.calls 100001 A0 c0 keys x (hasB keys x) _ (HA.out _ ((Kept.of_below HB1.out ok).then_ HK.out (fun k hk => .inl hk.1))) HC.out (contains_f keys HKL.out x)).mono ?_
      rintro e w2 ⟨rfl, hd2⟩
      have hb2 := hd2.below
      have HS2 := Lib.hid (HS.out.below hb2)
      have HK2 := Lib.hid (HK.out.below hb2)
      have HB2 := Lib.hid (HB.out.trans (hb2.mono (by have := HB.out.size; have := HBW.out; omega)))
      clear hd2 hb2 hx HR
      cases hh : hasB keys x with
      | true =>
        obtain ⟨e1, e2⟩ := HI.out hh
        have E1 := Lib.hid e1
        have E2 := Lib.hid e2
        clear e1 e2 hh hwn
        go_wp2_with fail
        go_roundg k1
        case measure => omega
        case rel => exact ⟨i + 1, by rw [E2.out], by first | (rw [hwj]; done) | (simp; done), Lib.hid (by have := HJ.out; omega), Lib.hid (by rw [E1.out]; exact HS2.out), HK2, HB2⟩
      | false =>
        obtain ⟨e1, e2, e3⟩ := HO.out hh
        have E2 := Lib.hid e2
        have E3 := Lib.hid e3
        have hde : eW (dropErr (kp keys l i) x) = .nilIface := by unfold dropErr; rw [if_pos e1]; rfl
        clear e1 e2 e3 hh
        go_wp2_with fail
        refine (store_Drop _ _ _ _ _ _ HS2.out x (by have := HX.out; simp [maxLen]; omega)).mono ?_
        rintro e w3 ⟨rfl, hs3⟩
        rw [hde, E2.out] at *
        have HS3 := Lib.hid hs3.1
        have HK3 := Lib.hid (HK2.out.then_ hs3.2.1 (fun k hk => .inl hk))
        have HB3 := Lib.hid (HB2.out.trans hs3.2.2)
        clear hs3 hde
        go_wp2_with fail
        go_roundg k1
        case measure => omega
        case rel => exact ⟨i + 1, by rw [E3.out, hwn], by first | (rw [hwj]; done) | (simp; done), Lib.hid (by have := HJ.out; omega), HS3, HK3, HB3⟩
    have hd : decide (i < l.length) = false := by simpa using hj
    have hil : i = l.length := by have := HJ.out; omega
    subst hil
    clear hj
    go_wp2
    go_ret
    have h1 := HS.out
    rw [kp_end] at h1
    exact ⟨rfl, h1.mono (fun k hk => hk.1), (Kept.of_below HB1.out ok).then_ HK.out (fun k hk => .inl hk.1), HB.out⟩
end Go.Proofs.Ytjlbfbibamnigaa.Blobs
