-- Cut by a program of this session (wip/shake.py) out of a text of this seat: what this claim doesn't reach is struck out. Lean checks it.
import Derived.Test.YtjlbfbibamnigaaBlobNBt
namespace Go.Proofs.Ytjlbfbibamnigaa.Blobs
open Go.RowKit Go.ChangeMaps Go.MapKept Go.WideShapes Go.WideAt Go.Sort Go.WideMaps Go.Proofs.Ytjlbfbibamnigaa.Bs Go.Proofs.YtjlbfbibamnigaaW.PrintWords Go.Proofs.YtjlbfbibamnigaaW.PrintLast Go.Proofs.YtjlbfbibamnigaaW.PrintMore
set_option linter.unusedVariables false
set_option linter.unusedSimpArgs false
theorem encStr_of (s : ByteArray) : encStr s.data.toList = .string s := by
  unfold encStr
  cases s
  simp
theorem store_Keys (w : World) (B : Nat) (ok : Nat → Prop) (g : Nat) (q : Int) (l : List ByteArray) (h : StoreAt w B ok g q l) :
    Calls Try.prog 10 #[.pointer (some ⟨g, 0, none⟩)] w fun e w' => ∃ v : Value, e = .returned v ∧ Kd.R Kd.string 9 w' w.heap.size (fun _ => True) v l ∧ Below w.heap.size w w' := by
  obtain ⟨h1, h2, h3, h4, h5, b, h6, h7, h8, h9⟩ := h
  have c0 : w.cell? ⟨g, 0, none⟩ = some (.map (some b)) := (blk_cell h6 0).trans rfl
  have H9 := Lib.hid h9
  have H3 := Lib.hid h3
  clear h3 h4 h5 h6 h9
  go_enter Try.func10, Try.ntmps10
  go_wp2_with fail
  refine ((callsIn_wide (n := 5)).1 (Try.maps_Keys_21 (some b) w)).mono ?_
  rintro e w1 ⟨rfl, rfl⟩
  go_wp2_with fail
  refine ((callsIn_wide (n := 5)).1 (Try.slices_Sorted_keys_20_21 b l.length (toD l) (plainElem Try.prog 4) w H9.out.own (by rw [size_toD]; have := H3.out; simp [maxLen]; omega) (by rw [size_toD]; have := H3.out; omega))).mono ?_
  rintro e w2 ⟨v, ss, rfl, hS, hrow, hnil, hb⟩
  have hk := keys_sorted H9.out.up hS
  rw [hk, List.map_map] at hrow
  have hsl : ss.length = l.length := by
    have := congrArg List.length hk
    rw [List.length_mergeSort, List.length_map] at this
    exact this
  rw [hsl] at hrow
  have he : l.map (encStr ∘ fun s => s.data.toList) = l.map Value.string := List.map_congr_left (fun s _ => encStr_of s)
  rw [he] at hrow
  have HR : Hid (Kd.R Kd.string 9 w2 w.heap.size (fun _ => True) v l) := Lib.hid ⟨fun _ _ => trivial, l.map Value.string, ownsRow_base_a hrow (by simp), ⟨by rw [List.length_map]; show l.length = l.length * 1; omega, fun j p hj => by
    have : ((l.map Value.string).drop (j * 1)).take 1 = [.string p] := by
      rw [Nat.mul_one]
      obtain ⟨hlt, hp⟩ := List.getElem?_eq_some_iff.1 hj
      rw [List.drop_eq_getElem_cons (by rw [List.length_map]; exact hlt), List.getElem_map, hp]
      rfl
    exact this⟩⟩
  have HB := Lib.hid (((Below.refl _ w).alloc (Nat.le_refl _) (.cells #[.map (some b)] 45)).trans (hb.mono (by simp)))
  obtain ⟨A, c, rfl⟩ := Kd.R_slice HR.out
  clear hS hrow hnil hb hk hsl he
  go_wp2
  go_ret
  exact ⟨_, rfl, HR.out, HB.out⟩
end Go.Proofs.Ytjlbfbibamnigaa.Blobs
