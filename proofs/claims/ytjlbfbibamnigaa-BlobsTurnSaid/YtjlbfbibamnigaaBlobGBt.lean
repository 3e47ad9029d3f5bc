-- Cut by a program of this session (wip/shake.py) out of a text of this seat: what this claim doesn't reach is struck out. Lean checks it.
import Derived.Test.YtjlbfbibamnigaaBlobFBt
namespace Go.Proofs.Ytjlbfbibamnigaa.Blobs
open Go.RowKit Go.ChangeMaps Go.MapKept Go.WideShapes Go.WideAt Go.Sort Go.WideMaps Go.Proofs.Ytjlbfbibamnigaa.Bs Go.Proofs.YtjlbfbibamnigaaW.PrintWords Go.Proofs.YtjlbfbibamnigaaW.PrintLast Go.Proofs.YtjlbfbibamnigaaW.PrintMore
set_option linter.unusedVariables false
set_option linter.unusedSimpArgs false
def puts (q : Int) (l ks : List ByteArray) : List ByteArray := ks.foldl (fun l k => putTo q l k) l
theorem putTo_len (q : Int) (l : List ByteArray) (k : ByteArray) : (putTo q l k).length ≤ l.length + 1 := by
  unfold putTo
  split
  · omega
  · split
    · omega
    · split
      · omega
      · rw [putL_len]; omega
theorem puts_len (q : Int) (ks : List ByteArray) : ∀ l, (puts q l ks).length ≤ l.length + ks.length := by
  induction ks with
  | nil => intro l; simp [puts]
  | cons k r ih =>
    intro l
    have h1 := ih (putTo q l k)
    have h2 := putTo_len q l k
    have e : puts q l (k :: r) = puts q (putTo q l k) r := rfl
    rw [e, List.length_cons]
    omega
theorem puts_next (q : Int) (l : List ByteArray) {ks : List ByteArray} {i : Nat} (hi : i < ks.length) : puts q l (ks.take (i + 1)) = putTo q (puts q l (ks.take i)) ks[i] := by
  rw [take_next hi]
  unfold puts
  rw [List.foldl_append]
  rfl
theorem puts_le (q : Int) (ks : List ByteArray) (i : Nat) : (puts q [] (ks.take i)).length ≤ ks.length := by
  have h := puts_len q (ks.take i) []
  rw [List.length_take, List.length_nil] at h
  omega
end Go.Proofs.Ytjlbfbibamnigaa.Blobs
