/-
  No cell of these rows narrows 'for every input' (looked for: loops, veiled, ifaces, maps, wideKeys, modest, calm, conditions, laid).
  DERIVED. THE GIVEN ROWS OF THIS SEAT. 7 by the template 'for every input the law returns true; each argument reads behind the call as it read before'; 0 by the template 'total and deterministic' (their statements: YtpbbgbikebcnbaaTotals.lean).
  GIVEN WITH THE SEED: the statements are not yours to turn. If you find one false, say at which input.
  Laid BY PROGRAM, IN A SANDBOX (cutbox-rows.mjs): the forced cells as the released guide's own fill.sh prints them over the translation 6b747dfd3715b0de… (all of the seat's roots in one cut). By AI agents, Wed Nov 11 2026. No macro, syntax, notation, axiom, sorry.
-/
import Derived.Test.YtpbbgbikebcnbaaChecked
import GoSem.Claim
import GoSem.ClaimJoined
import GoSem.ClaimMapViews
import Derived.JoinedTies
import Derived.KernelRfl
namespace Go.Proofs.Ytpbbgbikebcnbaa
/- THE CELL 'sum', in the pinned program and in every row, IS THE sha256 OF THE DUMP (.gsa) THAT YtpbbgbikebcnbaaProg.lean LOADS. Nothing in Lean hashes anything: it is a label: what it is worth is what the hold of that sum in a sandbox is worth. -/
noncomputable def Try.pinned : Pinned := { name := "ytpbbgbikebcnbaa", sum := "6b747dfd3715b0dee5a2fd4383b1b078f2a8b8dfad64576f32acc39c343d22c0", checked := Try.checked }
namespace Rows
def none {H : Type} : Left H := { results := [], args := [] }

/-- 'becketlaw12.MsgPuts': WHATEVER THE INPUT: true; the input reads as it did. -/
def msgPutsSpec : ChangeSpec := { name := "msgPuts", fn := fun _ => fun
  | [d] => { results := [.lit (.bool true)], args := [d] }
  | _ => none }
def msgPutsRow : OpenClaim := { program := "ytpbbgbikebcnbaa", sum := "6b747dfd3715b0dee5a2fd4383b1b078f2a8b8dfad64576f32acc39c343d22c0", func := "becket/becketlaw12.MsgPuts", spec := "msgPuts", unfollowed := true, recurses := true, apart := false }
def MsgPutsSaid : Prop := msgPutsRow.holds Try.pinned (OpenSpec.ofChange msgPutsSpec)

/-- ITS FALSE NEIGHBOUR: 'it returns false'. Refute it at one input. -/
def msgPutsWrong : ChangeSpec := { name := "msgPuts", fn := fun _ => fun
  | [d] => { results := [.lit (.bool false)], args := [d] }
  | _ => none }
def MsgPutsWrongFalsely : Prop := msgPutsRow.holds Try.pinned (OpenSpec.ofChange msgPutsWrong)

/-- 'becketlaw12.MsgGets': WHATEVER THE INPUT: true; the input reads as it did. -/
def msgGetsSpec : ChangeSpec := { name := "msgGets", fn := fun _ => fun
  | [d] => { results := [.lit (.bool true)], args := [d] }
  | _ => none }
def msgGetsRow : OpenClaim := { program := "ytpbbgbikebcnbaa", sum := "6b747dfd3715b0dee5a2fd4383b1b078f2a8b8dfad64576f32acc39c343d22c0", func := "becket/becketlaw12.MsgGets", spec := "msgGets", unfollowed := true, recurses := true, apart := false }
def MsgGetsSaid : Prop := msgGetsRow.holds Try.pinned (OpenSpec.ofChange msgGetsSpec)

/-- ITS FALSE NEIGHBOUR: 'it returns false'. Refute it at one input. -/
def msgGetsWrong : ChangeSpec := { name := "msgGets", fn := fun _ => fun
  | [d] => { results := [.lit (.bool false)], args := [d] }
  | _ => none }
def MsgGetsWrongFalsely : Prop := msgGetsRow.holds Try.pinned (OpenSpec.ofChange msgGetsWrong)

/-- 'becketlaw12.MsgBack': WHATEVER THE INPUT: true; the input reads as it did. -/
def msgBackSpec : ChangeSpec := { name := "msgBack", fn := fun _ => fun
  | [d1, d2, d3] => { results := [.lit (.bool true)], args := [d1, d2, d3] }
  | _ => none }
def msgBackRow : OpenClaim := { program := "ytpbbgbikebcnbaa", sum := "6b747dfd3715b0dee5a2fd4383b1b078f2a8b8dfad64576f32acc39c343d22c0", func := "becket/becketlaw12.MsgBack", spec := "msgBack", unfollowed := true, recurses := true, apart := false }
def MsgBackSaid : Prop := msgBackRow.holds Try.pinned (OpenSpec.ofChange msgBackSpec)

/-- ITS FALSE NEIGHBOUR: 'it returns false'. Refute it at one input. -/
def msgBackWrong : ChangeSpec := { name := "msgBack", fn := fun _ => fun
  | [d1, d2, d3] => { results := [.lit (.bool false)], args := [d1, d2, d3] }
  | _ => none }
def MsgBackWrongFalsely : Prop := msgBackRow.holds Try.pinned (OpenSpec.ofChange msgBackWrong)

/-- 'becketlaw12.MsgStays': WHATEVER THE INPUT: true; the input reads as it did. -/
def msgStaysSpec : ChangeSpec := { name := "msgStays", fn := fun _ => fun
  | [d1, d2] => { results := [.lit (.bool true)], args := [d1, d2] }
  | _ => none }
def msgStaysRow : OpenClaim := { program := "ytpbbgbikebcnbaa", sum := "6b747dfd3715b0dee5a2fd4383b1b078f2a8b8dfad64576f32acc39c343d22c0", func := "becket/becketlaw12.MsgStays", spec := "msgStays", unfollowed := true, recurses := true, apart := false }
def MsgStaysSaid : Prop := msgStaysRow.holds Try.pinned (OpenSpec.ofChange msgStaysSpec)

/-- ITS FALSE NEIGHBOUR: 'it returns false'. Refute it at one input. -/
def msgStaysWrong : ChangeSpec := { name := "msgStays", fn := fun _ => fun
  | [d1, d2] => { results := [.lit (.bool false)], args := [d1, d2] }
  | _ => none }
def MsgStaysWrongFalsely : Prop := msgStaysRow.holds Try.pinned (OpenSpec.ofChange msgStaysWrong)

/-- 'becketlaw12.MsgApart': WHATEVER THE INPUT: true; the input reads as it did. -/
def msgApartSpec : ChangeSpec := { name := "msgApart", fn := fun _ => fun
  | [d1, d2] => { results := [.lit (.bool true)], args := [d1, d2] }
  | _ => none }
def msgApartRow : OpenClaim := { program := "ytpbbgbikebcnbaa", sum := "6b747dfd3715b0dee5a2fd4383b1b078f2a8b8dfad64576f32acc39c343d22c0", func := "becket/becketlaw12.MsgApart", spec := "msgApart", unfollowed := true, recurses := true, apart := false }
def MsgApartSaid : Prop := msgApartRow.holds Try.pinned (OpenSpec.ofChange msgApartSpec)

/-- ITS FALSE NEIGHBOUR: 'it returns false'. Refute it at one input. -/
def msgApartWrong : ChangeSpec := { name := "msgApart", fn := fun _ => fun
  | [d1, d2] => { results := [.lit (.bool false)], args := [d1, d2] }
  | _ => none }
def MsgApartWrongFalsely : Prop := msgApartRow.holds Try.pinned (OpenSpec.ofChange msgApartWrong)

/-- 'becketlaw12.MsgAnswers': WHATEVER THE INPUT: true; the input reads as it did. -/
def msgAnswersSpec : ChangeSpec := { name := "msgAnswers", fn := fun _ => fun
  | [d1, d2] => { results := [.lit (.bool true)], args := [d1, d2] }
  | _ => none }
def msgAnswersRow : OpenClaim := { program := "ytpbbgbikebcnbaa", sum := "6b747dfd3715b0dee5a2fd4383b1b078f2a8b8dfad64576f32acc39c343d22c0", func := "becket/becketlaw12.MsgAnswers", spec := "msgAnswers", unfollowed := true, recurses := true, apart := false }
def MsgAnswersSaid : Prop := msgAnswersRow.holds Try.pinned (OpenSpec.ofChange msgAnswersSpec)

/-- ITS FALSE NEIGHBOUR: 'it returns false'. Refute it at one input. -/
def msgAnswersWrong : ChangeSpec := { name := "msgAnswers", fn := fun _ => fun
  | [d1, d2] => { results := [.lit (.bool false)], args := [d1, d2] }
  | _ => none }
def MsgAnswersWrongFalsely : Prop := msgAnswersRow.holds Try.pinned (OpenSpec.ofChange msgAnswersWrong)

/-- 'becketlaw12.MsgAnswerBack': WHATEVER THE INPUT: true; the input reads as it did. -/
def msgAnswerBackSpec : ChangeSpec := { name := "msgAnswerBack", fn := fun _ => fun
  | [d1, d2] => { results := [.lit (.bool true)], args := [d1, d2] }
  | _ => none }
def msgAnswerBackRow : OpenClaim := { program := "ytpbbgbikebcnbaa", sum := "6b747dfd3715b0dee5a2fd4383b1b078f2a8b8dfad64576f32acc39c343d22c0", func := "becket/becketlaw12.MsgAnswerBack", spec := "msgAnswerBack", unfollowed := true, recurses := true, apart := false }
def MsgAnswerBackSaid : Prop := msgAnswerBackRow.holds Try.pinned (OpenSpec.ofChange msgAnswerBackSpec)

/-- ITS FALSE NEIGHBOUR: 'it returns false'. Refute it at one input. -/
def msgAnswerBackWrong : ChangeSpec := { name := "msgAnswerBack", fn := fun _ => fun
  | [d1, d2] => { results := [.lit (.bool false)], args := [d1, d2] }
  | _ => none }
def MsgAnswerBackWrongFalsely : Prop := msgAnswerBackRow.holds Try.pinned (OpenSpec.ofChange msgAnswerBackWrong)

/- THE SECOND FORM. 'bulk': how many values and letters a reading holds, each counted each time it is reached (what is shared counts as often as it is met; a slice's spare places count too). A statement '..UptoSaid' is the law's where the arguments, and the package variables that the reading takes, are together of bulk at most 1048576: NARROWER than '..Said'. Prove '..Said' where nothing that the law and all that it calls make is longer than what came in: it says more and counts as full. Else prove '..UptoSaid'. A law counts once. -/
mutual
def uptoBulk {H : Type} : DataW H → Nat
  | .lit (.string bytes) => bytes.length + 1
  | .lit _ => 1
  | .nil => 1
  | .ptr d => uptoBulk d + 1
  | .slice elems spare => uptoBulkAll elems + uptoBulkAll spare + 1
  | .agg parts => uptoBulkAll parts + 1
  | .iface _ d => uptoBulk d + 1
  | .map entries => uptoBulkEntries entries + 1
  | .held _ => 1
def uptoBulkAll {H : Type} : List (DataW H) → Nat
  | [] => 0
  | d :: r => uptoBulk d + uptoBulkAll r
def uptoBulkEntries {H : Type} : List (Lit × DataW H) → Nat
  | [] => 0
  | x :: r => uptoBulkEntry x + uptoBulkEntries r
def uptoBulkEntry {H : Type} : Lit × DataW H → Nat
  | (.string bytes, d) => bytes.length + uptoBulk d + 1
  | (_, d) => uptoBulk d + 1
 end
def uptoSmall : (H : Type) → List (DataW H) → Bool := fun _ ds => decide (uptoBulkAll ds ≤ 1048576)
def OpenSpec.upto (s : _root_.Go.ChangeSpec) : _root_.Go.OpenSpec := { _root_.Go.OpenSpec.ofChange s with cond := some uptoSmall }

/-- 'becketlaw12.MsgPuts', WHERE WHAT IT READS IS OF BULK AT MOST 1048576: true; the input reads as it did. -/
def msgPutsUptoRow : OpenClaim := { program := "ytpbbgbikebcnbaa", sum := "6b747dfd3715b0dee5a2fd4383b1b078f2a8b8dfad64576f32acc39c343d22c0", func := "becket/becketlaw12.MsgPuts", spec := "msgPuts", unfollowed := true, recurses := true, apart := false, narrowed := true }
def MsgPutsUptoSaid : Prop := msgPutsUptoRow.holds Try.pinned (OpenSpec.upto msgPutsSpec)

/-- 'becketlaw12.MsgGets', WHERE WHAT IT READS IS OF BULK AT MOST 1048576: true; the input reads as it did. -/
def msgGetsUptoRow : OpenClaim := { program := "ytpbbgbikebcnbaa", sum := "6b747dfd3715b0dee5a2fd4383b1b078f2a8b8dfad64576f32acc39c343d22c0", func := "becket/becketlaw12.MsgGets", spec := "msgGets", unfollowed := true, recurses := true, apart := false, narrowed := true }
def MsgGetsUptoSaid : Prop := msgGetsUptoRow.holds Try.pinned (OpenSpec.upto msgGetsSpec)

/-- 'becketlaw12.MsgBack', WHERE WHAT IT READS IS OF BULK AT MOST 1048576: true; the input reads as it did. -/
def msgBackUptoRow : OpenClaim := { program := "ytpbbgbikebcnbaa", sum := "6b747dfd3715b0dee5a2fd4383b1b078f2a8b8dfad64576f32acc39c343d22c0", func := "becket/becketlaw12.MsgBack", spec := "msgBack", unfollowed := true, recurses := true, apart := false, narrowed := true }
def MsgBackUptoSaid : Prop := msgBackUptoRow.holds Try.pinned (OpenSpec.upto msgBackSpec)

/-- 'becketlaw12.MsgStays', WHERE WHAT IT READS IS OF BULK AT MOST 1048576: true; the input reads as it did. -/
def msgStaysUptoRow : OpenClaim := { program := "ytpbbgbikebcnbaa", sum := "6b747dfd3715b0dee5a2fd4383b1b078f2a8b8dfad64576f32acc39c343d22c0", func := "becket/becketlaw12.MsgStays", spec := "msgStays", unfollowed := true, recurses := true, apart := false, narrowed := true }
def MsgStaysUptoSaid : Prop := msgStaysUptoRow.holds Try.pinned (OpenSpec.upto msgStaysSpec)

/-- 'becketlaw12.MsgApart', WHERE WHAT IT READS IS OF BULK AT MOST 1048576: true; the input reads as it did. -/
def msgApartUptoRow : OpenClaim := { program := "ytpbbgbikebcnbaa", sum := "6b747dfd3715b0dee5a2fd4383b1b078f2a8b8dfad64576f32acc39c343d22c0", func := "becket/becketlaw12.MsgApart", spec := "msgApart", unfollowed := true, recurses := true, apart := false, narrowed := true }
def MsgApartUptoSaid : Prop := msgApartUptoRow.holds Try.pinned (OpenSpec.upto msgApartSpec)

/-- 'becketlaw12.MsgAnswers', WHERE WHAT IT READS IS OF BULK AT MOST 1048576: true; the input reads as it did. -/
def msgAnswersUptoRow : OpenClaim := { program := "ytpbbgbikebcnbaa", sum := "6b747dfd3715b0dee5a2fd4383b1b078f2a8b8dfad64576f32acc39c343d22c0", func := "becket/becketlaw12.MsgAnswers", spec := "msgAnswers", unfollowed := true, recurses := true, apart := false, narrowed := true }
def MsgAnswersUptoSaid : Prop := msgAnswersUptoRow.holds Try.pinned (OpenSpec.upto msgAnswersSpec)

/-- 'becketlaw12.MsgAnswerBack', WHERE WHAT IT READS IS OF BULK AT MOST 1048576: true; the input reads as it did. -/
def msgAnswerBackUptoRow : OpenClaim := { program := "ytpbbgbikebcnbaa", sum := "6b747dfd3715b0dee5a2fd4383b1b078f2a8b8dfad64576f32acc39c343d22c0", func := "becket/becketlaw12.MsgAnswerBack", spec := "msgAnswerBack", unfollowed := true, recurses := true, apart := false, narrowed := true }
def MsgAnswerBackUptoSaid : Prop := msgAnswerBackUptoRow.holds Try.pinned (OpenSpec.upto msgAnswerBackSpec)

end Rows
end Go.Proofs.Ytpbbgbikebcnbaa
