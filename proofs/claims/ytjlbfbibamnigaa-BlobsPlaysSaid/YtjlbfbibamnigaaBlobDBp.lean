-- Cut by a program of this session (wip/shake.py) out of a text of this seat: what this claim doesn't reach is struck out. Lean checks it.
import Derived.Test.YtjlbfbibamnigaaBlobNBp
namespace Go.Proofs.Ytjlbfbibamnigaa.Blobs
open Go.RowKit Go.ChangeMaps Go.MapKept Go.WideShapes Go.WideAt Go.Sort Go.WideMaps Go.Proofs.Ytjlbfbibamnigaa.Bs Go.Proofs.YtjlbfbibamnigaaW.PrintWords Go.Proofs.YtjlbfbibamnigaaW.PrintLast Go.Proofs.YtjlbfbibamnigaaW.PrintMore
set_option linter.unusedVariables false
set_option linter.unusedSimpArgs false
def without (l : List ByteArray) (key : ByteArray) : List ByteArray := l.filter fun s => decide (s ≠ key)
theorem without_no {l : List ByteArray} {key : ByteArray} (h : key ∉ l) : without l key = l := by
  unfold without
  rw [List.filter_eq_self]
  intro s hs
  exact decide_eq_true (fun e => h (by rw [← e]; exact hs))
def dropErr (l : List ByteArray) (key : ByteArray) : Option Int := if hasB l key = true then none else some 3
set_option maxHeartbeats 4000000 in
theorem store_Drop (w : World) (B : Nat) (ok : Nat → Prop) (g : Nat) (q : Int) (l : List ByteArray) (h : StoreAt w B ok g q l) (key : ByteArray) (hkk : key.size ≤ maxLen) :
    Calls Try.prog 14 #[.pointer (some ⟨g, 0, none⟩), .string key] w fun e w' => e = .returned (eW (dropErr l key)) ∧ StoreTo w w' B ok g q (without l key) := by
  have H := Lib.hid h
  obtain ⟨h1, h2, h3, h4, h5, b, h6, h7, h8, h9⟩ := h
  have c0 : w.cell? ⟨g, 0, none⟩ = some (.map (some b)) := (blk_cell h6 0).trans rfl
  have hlk := h9.look (t := 45) Try.underlying9 Try.underlying4 Try.underlying45 (zero_bool w) key hkk
  have H6 := Lib.hid h6
  have H9 := Lib.hid h9
  have HOK := Lib.hid (And.intro h2 h8)
  have HBB := Lib.hid (And.intro h1 h7)
  have HS3 := Lib.hid h3
  have HS4 := Lib.hid h4
  have HS5 := Lib.hid h5
  have hbg : b ≠ g := fun e => by
    obtain ⟨_, es, clock, hh, _⟩ := h9
    rw [e, h6] at hh
    cases hh
  have HBG := Lib.hid hbg
  clear h3 h4 h5 h6 h9 h1 h2 h7 h8 hbg
  cases hh : hasB l key with
  | false =>
    have e1 : dropErr l key = some 3 := by unfold dropErr; rw [hh, if_neg (by decide)]
    have e2 : without l key = l := without_no (fun e => by rw [hasB_iff.2 e] at hh; cases hh)
    rw [e1, e2, eW_some]
    rw [hh] at hlk
    clear e1 e2 hh
    go_enter Try.func14, Try.ntmps14
    go_wp2
    go_ret
    exact ⟨rfl, H.out, Kept.refl _ _, Below.refl _ _⟩
  | true =>
  have e1 : dropErr l key = none := by unfold dropErr; rw [if_pos hh]
  have HIN : Hid (key ∈ l) := Lib.hid (hasB_iff.1 hh)
  have hz := sizeL_drop key H9.out.up.nodup HIN.out
  have HZ := Lib.hid hz
  rw [e1, eW_none]
  rw [hh] at hlk
  clear e1 hh hz
  go_enter Try.func14, Try.ntmps14
  go_wp2_with (first | (at_delete; refine wp_drop (b := b) (l := l) (e := 4) rfl _ _ 45 rfl Try.underlying9 Try.underlying45 rfl H9.out key hkk rfl ?_; intro w1 hs1 hg1; have hb1 := blk_grown H6.out hg1 (fun e => HBG.out (Option.some.inj e).symm); have k1 : w1.cell? ⟨g, 1, none⟩ = some (.int .i64 (sizeL l : Int)) := (blk_cell hb1 1).trans rfl; have f1 := blk_frozen hb1 1; have hw2 : wrap64 ((sizeL l : Int) - (key.size : Int)) = (sizeL l : Int) - (key.size : Int) := by (have := HS4.out; have := HZ.out.1; unfold wrap64; omega)))
  have HS1 := Lib.hid hs1
  have HG1 := Lib.hid hg1
  have HB1 := Lib.hid hb1
  clear hs1 hg1 hb1
  go_ret
  have hz := HZ.out
  have hw : without l key = l.filter fun s => decide (s ≠ key) := rfl
  rw [← hw] at hz
  refine ⟨rfl, ⟨HBB.out.1, HOK.out.1, by have := HS3.out; omega, by have := HS4.out; omega, fun s hs => HS5.out s ((List.mem_filter.1 hs).1), b, ?_, HBB.out.2, HOK.out.2, HS1.out.of_heap (Below.heap_setCell _ _ _ _ HBG.out)⟩, ?_, ?_⟩
  · have := blk_set HB1.out 1 (.int .i64 ((sizeL l : Int) - (key.size : Int)))
    rw [show (sizeL (without l key) : Int) = (sizeL l : Int) - (key.size : Int) from by omega]
    simpa using this
  · exact Kept.setCell (p := ⟨g, 1, none⟩) (Kept.of_grown HG1.out (Kept.refl w ok) (fun k hk => .inl (by rw [← Option.some.inj hk]; exact HOK.out.2))) (.inl HOK.out.1) _
  · refine Below.setCell (p := ⟨g, 1, none⟩) (⟨HG1.out.os, HG1.out.tape, HG1.out.output, HG1.out.size, fun k hk => HG1.out.block k ?_ ?_⟩ : Below B w w1) HBB.out.1 _
    · have := H9.out.lt; have := HBB.out.2; omega
    · exact fun e => by have := Option.some.inj e; have := HBB.out.2; omega
theorem encStr_of (s : ByteArray) : encStr s.data.toList = .string s := by
  unfold encStr
  cases s
  simp
theorem store_Keys (w : World) (B : Nat) (ok : Nat → Prop) (g : Nat) (q : Int) (l : List ByteArray) (h : StoreAt w B ok g q l) :
    Calls Try.prog 10 #[.pointer (some ⟨g, 0, none⟩)] w fun e w' => ∃ v : Value, e = .returned v ∧ Kd.R Kd.string 9 w' w.heap.size (fun _ => True) v l ∧ Below w.heap.size w w' := by
  obtain ⟨h1, h2, h3, h4, h5, b, h6, h7, h8, h9⟩ := h
  have c0 : w.cell? ⟨g, 0, none⟩ = some (.map (some b)) := (blk_cell h6 0).trans rfl
  have H9 := Lib.hid h9
  have H3 := Lib.hid h3
  clear h3 h4 h5 h6 h9
  go_enter Try.func10, Try.ntmps10
  go_wp2_with fail
  refine ((callsIn_wide (n := 5)).1 (Try.maps_Keys_21 (some b) w)).mono ?_
  rintro e w1 ⟨rfl, rfl⟩
  go_wp2_with fail
  refine ((callsIn_wide (n := 5)).1 (Try.slices_Sorted_keys_20_21 b l.length (toD l) (plainElem Try.prog 4) w H9.out.own (by rw [size_toD]; have := H3.out; simp [maxLen]; omega) (by rw [size_toD]; have := H3.out; omega))).mono ?_
  rintro e w2 ⟨v, ss, rfl, hS, hrow, hnil, hb⟩
  have hk := keys_sorted H9.out.up hS
  rw [hk, List.map_map] at hrow
  have hsl : ss.length = l.length := by
    have := congrArg List.length hk
    rw [List.length_mergeSort, List.length_map] at this
    exact this
  rw [hsl] at hrow
  have he : l.map (encStr ∘ fun s => s.data.toList) = l.map Value.string := List.map_congr_left (fun s _ => encStr_of s)
  rw [he] at hrow
  have HR : Hid (Kd.R Kd.string 9 w2 w.heap.size (fun _ => True) v l) := Lib.hid ⟨fun _ _ => trivial, l.map Value.string, ownsRow_base_a hrow (by simp), ⟨by rw [List.length_map]; show l.length = l.length * 1; omega, fun j p hj => by
    have : ((l.map Value.string).drop (j * 1)).take 1 = [.string p] := by
      rw [Nat.mul_one]
      obtain ⟨hlt, hp⟩ := List.getElem?_eq_some_iff.1 hj
      rw [List.drop_eq_getElem_cons (by rw [List.length_map]; exact hlt), List.getElem_map, hp]
      rfl
    exact this⟩⟩
  have HB := Lib.hid (((Below.refl _ w).alloc (Nat.le_refl _) (.cells #[.map (some b)] 45)).trans (hb.mono (by simp)))
  obtain ⟨A, c, rfl⟩ := Kd.R_slice HR.out
  clear hS hrow hnil hb hk hsl he
  go_wp2
  go_ret
  exact ⟨_, rfl, HR.out, HB.out⟩
end Go.Proofs.Ytjlbfbibamnigaa.Blobs
