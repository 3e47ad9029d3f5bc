-- Cut by a program of this session (wip/shake.py) out of a text of this seat: what this claim doesn't reach is struck out. Lean checks it.
import Derived.Test.YtjlbfbibamnigaaBlobEBp
import Derived.Lib.IfaceEq
namespace Go.Proofs.Ytjlbfbibamnigaa.Blobs
open Go.RowKit Go.ChangeMaps Go.MapKept Go.WideShapes Go.WideAt Go.Sort Go.WideMaps Go.Proofs.Ytjlbfbibamnigaa.Bs Go.Proofs.YtjlbfbibamnigaaW.PrintWords Go.Proofs.YtjlbfbibamnigaaW.PrintLast Go.Proofs.YtjlbfbibamnigaaW.PrintMore
set_option linter.unusedVariables false
set_option linter.unusedSimpArgs false
def ab : ByteArray := ⟨#[97, 98]⟩
def cd : ByteArray := ⟨#[99, 100]⟩
theorem up_err1 : eW (putErr 3 [] ⟨#[97, 98]⟩) = .nilIface := by
  have : putErr 3 [] (⟨#[97, 98]⟩ : ByteArray) = none := by decide
  rw [this]; rfl
theorem up_to1 : putTo 3 [] (⟨#[97, 98]⟩ : ByteArray) = [ab] := by decide
theorem up_err2 : eW (putErr 3 [ab] ⟨#[99, 100]⟩) = .iface 36 (.int .i64 5) := by
  have : putErr 3 [ab] (⟨#[99, 100]⟩ : ByteArray) = some 5 := by decide
  rw [this]; rfl
theorem up_to2 : putTo 3 [ab] (⟨#[99, 100]⟩ : ByteArray) = [ab] := by decide
theorem up_has : hasB [ab] (⟨#[97, 98]⟩ : ByteArray) = true := by decide
theorem up_size : (sizeL [ab] : Int) = 2 := by decide
theorem err_eql (w : World) (a b : Int) : (binOp .eql 26 (.iface 36 (.int .i64 a)) (.iface 36 (.int .i64 b))).run Try.prog w = .ok (.bool (a == b)) w :=
  Go.Lib.run_eql_iface_int w a b Try.underlying26 (by kernel_rfl) Try.underlying36
set_option maxHeartbeats 4000000 in
set_option maxRecDepth 100000 in
theorem up_calls (w : World) : Calls Try.prog 6 #[] w fun e w' => e = .returned (.bool true) ∧ Below w.heap.size w w' := by
  have herr := err_eql
  go_enter Try.func6, Try.ntmps6
  go_wp2_with fail
  refine (store_New w 3 (by decide) (by decide)).mono ?_
  rintro e w1 ⟨rfl, hn1, hb1⟩
  have HN1 := Lib.hid hn1
  have HB1 := Lib.hid hb1
  clear hn1 hb1
  go_wp2_with fail
  refine (store_New_no w1 (-1) (by decide)).mono ?_
  rintro e w2 ⟨rfl, hb2⟩
  have HN2 := Lib.hid (HN1.out.below hb2)
  have HB2 := Lib.hid (HB1.out.trans (hb2.mono HB1.out.size))
  clear hb2 HN1 HB1
  go_wp2_with fail
  refine (store_Put w2 _ _ _ 3 (by decide) [] HN2.out (by decide) ⟨#[97, 98]⟩ (by decide)).mono ?_
  rintro e w3 ⟨rfl, hn3⟩
  rw [up_err1]
  rw [up_to1] at hn3
  have HN3 := Lib.hid hn3.1
  have HB3 := Lib.hid (HB2.out.trans hn3.2.2)
  clear hn3 HN2 HB2
  go_wp2_with fail
  refine (store_Put w3 _ _ _ 3 (by decide) [ab] HN3.out (by decide) ⟨#[99, 100]⟩ (by decide)).mono ?_
  rintro e w4 ⟨rfl, hn4⟩
  rw [up_err2]
  rw [up_to2] at hn4
  have HN4 := Lib.hid hn4.1
  have HB4 := Lib.hid (HB3.out.trans hn4.2.2)
  clear hn4 HN3 HB3
  go_wp2_with fail
  refine (store_Has _ _ _ _ _ _ HN4.out ⟨#[97, 98]⟩ (by decide)).mono ?_
  rintro e w5 ⟨rfl, rfl⟩
  rw [up_has]
  go_wp2_with fail
  refine (store_Size _ _ _ _ _ _ HN4.out).mono ?_
  rintro e w6 ⟨rfl, rfl⟩
  rw [up_size]
  go_wp2
  go_ret
  exact ⟨rfl, HB4.out⟩
end Go.Proofs.Ytjlbfbibamnigaa.Blobs
