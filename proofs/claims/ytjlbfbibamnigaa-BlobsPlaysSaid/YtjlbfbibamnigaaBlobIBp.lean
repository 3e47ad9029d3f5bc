-- Cut by a program of this session (wip/shake.py) out of a text of this seat: what this claim doesn't reach is struck out. Lean checks it.
import Derived.Test.YtjlbfbibamnigaaBlobHBp
namespace Go.Proofs.Ytjlbfbibamnigaa.Blobs
open Go.RowKit Go.ChangeMaps Go.MapKept Go.WideShapes Go.WideAt Go.Sort Go.WideMaps Go.Proofs.Ytjlbfbibamnigaa.Bs Go.Proofs.YtjlbfbibamnigaaW.PrintWords Go.Proofs.YtjlbfbibamnigaaW.PrintLast Go.Proofs.YtjlbfbibamnigaaW.PrintMore
set_option linter.unusedVariables false
set_option linter.unusedSimpArgs false
theorem StoreAt.up {W : World} {B : Nat} {ok : Nat → Prop} {g : Nat} {q : Int} {l : List ByteArray} (h : StoreAt W B ok g q l) : Rising l := by
  obtain ⟨_, _, _, _, _, _, _, _, _, h9⟩ := h
  exact h9.up
theorem StoreAt.since {W W0 : World} {B B' : Nat} {ok : Nat → Prop} {g : Nat} {q : Int} {l : List ByteArray} (h : StoreAt W B ok g q l) (hB : B' ≤ B) (hs : W0.heap.size ≤ B) : StoreAt W B' (fun k => W0.heap.size ≤ k ∧ k < W.heap.size) g q l := by
  obtain ⟨h1, h2, h3, h4, h5, b, h6, h7, h8, h9⟩ := h.bound
  exact ⟨Nat.le_trans hB h1, ⟨Nat.le_trans hs h1, h2.2.2⟩, h3, h4, h5, b, h6, Nat.le_trans hB h7, ⟨Nat.le_trans hs h7, h8.2.2⟩, h9⟩
end Go.Proofs.Ytjlbfbibamnigaa.Blobs
