/-
  No cell of these rows narrows 'for every input' (looked for: loops, veiled, ifaces, maps, wideKeys, modest, calm, conditions, laid).
  DERIVED. THE GIVEN ROWS OF THIS SEAT. 3 by the template 'for every input the law returns true; each argument reads behind the call as it read before'; 0 by the template 'total and deterministic' (their statements: YtjlbfbibamnigaaTotals.lean).
  GIVEN WITH THE SEED: the statements are not yours to turn. If you find one false, say at which input.
  Laid BY PROGRAM, IN A SANDBOX (cutbox-rows.mjs): the forced cells as the released guide's own fill.sh prints them over the translation 5a6bb188fd4a8a18… (all of the seat's roots in one cut). By AI agents, Wed Nov 11 2026. No macro, syntax, notation, axiom, sorry.
-/
import Derived.Test.YtjlbfbibamnigaaChecked
import GoSem.Claim
import GoSem.ClaimJoined
import GoSem.ClaimMapViews
import Derived.JoinedTies
import Derived.KernelRfl
namespace Go.Proofs.Ytjlbfbibamnigaa
/- THE CELL 'sum', in the pinned program and in every row, IS THE sha256 OF THE DUMP (.gsa) THAT YtjlbfbibamnigaaProg.lean LOADS. Nothing in Lean hashes anything: it is a label: what it is worth is what the hold of that sum in a sandbox is worth. -/
noncomputable def Try.pinned : Pinned := { name := "ytjlbfbibamnigaa", sum := "5a6bb188fd4a8a180d969df6b6e50be4259432894f4285a0562bc91ec8f8c999", checked := Try.checked }
namespace Rows
def none {H : Type} : Left H := { results := [], args := [] }

/-- 'becketlaw07.BlobsTurn': WHATEVER THE INPUT: true; the input reads as it did. -/
def blobsTurnSpec : ChangeSpec := { name := "blobsTurn", fn := fun _ => fun
  | [d1, d2] => { results := [.lit (.bool true)], args := [d1, d2] }
  | _ => none }
def blobsTurnRow : OpenClaim := { program := "ytjlbfbibamnigaa", sum := "5a6bb188fd4a8a180d969df6b6e50be4259432894f4285a0562bc91ec8f8c999", func := "becket/becketlaw07.BlobsTurn", spec := "blobsTurn", unfollowed := true, recurses := true, apart := false }
def BlobsTurnSaid : Prop := blobsTurnRow.holds Try.pinned (OpenSpec.ofChange blobsTurnSpec)

/-- ITS FALSE NEIGHBOUR: 'it returns false'. Refute it at one input. -/
def blobsTurnWrong : ChangeSpec := { name := "blobsTurn", fn := fun _ => fun
  | [d1, d2] => { results := [.lit (.bool false)], args := [d1, d2] }
  | _ => none }
def BlobsTurnWrongFalsely : Prop := blobsTurnRow.holds Try.pinned (OpenSpec.ofChange blobsTurnWrong)

/-- 'becketlaw07.BlobsPlays': WHATEVER THE INPUT: true; the input reads as it did. -/
def blobsPlaysSpec : ChangeSpec := { name := "blobsPlays", fn := fun _ => fun
  | [d1, d2, d3] => { results := [.lit (.bool true)], args := [d1, d2, d3] }
  | _ => none }
def blobsPlaysRow : OpenClaim := { program := "ytjlbfbibamnigaa", sum := "5a6bb188fd4a8a180d969df6b6e50be4259432894f4285a0562bc91ec8f8c999", func := "becket/becketlaw07.BlobsPlays", spec := "blobsPlays", unfollowed := true, recurses := true, apart := false }
def BlobsPlaysSaid : Prop := blobsPlaysRow.holds Try.pinned (OpenSpec.ofChange blobsPlaysSpec)

/-- ITS FALSE NEIGHBOUR: 'it returns false'. Refute it at one input. -/
def blobsPlaysWrong : ChangeSpec := { name := "blobsPlays", fn := fun _ => fun
  | [d1, d2, d3] => { results := [.lit (.bool false)], args := [d1, d2, d3] }
  | _ => none }
def BlobsPlaysWrongFalsely : Prop := blobsPlaysRow.holds Try.pinned (OpenSpec.ofChange blobsPlaysWrong)

/-- 'becketlaw07.BlobsKeep': WHATEVER THE INPUT: true; the input reads as it did. -/
def blobsKeepSpec : ChangeSpec := { name := "blobsKeep", fn := fun _ => fun
  | [d1, d2] => { results := [.lit (.bool true)], args := [d1, d2] }
  | _ => none }
def blobsKeepRow : OpenClaim := { program := "ytjlbfbibamnigaa", sum := "5a6bb188fd4a8a180d969df6b6e50be4259432894f4285a0562bc91ec8f8c999", func := "becket/becketlaw07.BlobsKeep", spec := "blobsKeep", unfollowed := true, recurses := true, apart := false }
def BlobsKeepSaid : Prop := blobsKeepRow.holds Try.pinned (OpenSpec.ofChange blobsKeepSpec)

/-- ITS FALSE NEIGHBOUR: 'it returns false'. Refute it at one input. -/
def blobsKeepWrong : ChangeSpec := { name := "blobsKeep", fn := fun _ => fun
  | [d1, d2] => { results := [.lit (.bool false)], args := [d1, d2] }
  | _ => none }
def BlobsKeepWrongFalsely : Prop := blobsKeepRow.holds Try.pinned (OpenSpec.ofChange blobsKeepWrong)

/- THE SECOND FORM. 'bulk': how many values and letters a reading holds, each counted each time it is reached (what is shared counts as often as it is met; a slice's spare places count too). A statement '..UptoSaid' is the law's where the arguments, and the package variables that the reading takes, are together of bulk at most 1048576: NARROWER than '..Said'. Prove '..Said' where nothing that the law and all that it calls make is longer than what came in: it says more and counts as full. Else prove '..UptoSaid'. A law counts once. -/
mutual
def uptoBulk {H : Type} : DataW H → Nat
  | .lit (.string bytes) => bytes.length + 1
  | .lit _ => 1
  | .nil => 1
  | .ptr d => uptoBulk d + 1
  | .slice elems spare => uptoBulkAll elems + uptoBulkAll spare + 1
  | .agg parts => uptoBulkAll parts + 1
  | .iface _ d => uptoBulk d + 1
  | .map entries => uptoBulkEntries entries + 1
  | .held _ => 1
def uptoBulkAll {H : Type} : List (DataW H) → Nat
  | [] => 0
  | d :: r => uptoBulk d + uptoBulkAll r
def uptoBulkEntries {H : Type} : List (Lit × DataW H) → Nat
  | [] => 0
  | x :: r => uptoBulkEntry x + uptoBulkEntries r
def uptoBulkEntry {H : Type} : Lit × DataW H → Nat
  | (.string bytes, d) => bytes.length + uptoBulk d + 1
  | (_, d) => uptoBulk d + 1
 end
def uptoSmall : (H : Type) → List (DataW H) → Bool := fun _ ds => decide (uptoBulkAll ds ≤ 1048576)
def OpenSpec.upto (s : _root_.Go.ChangeSpec) : _root_.Go.OpenSpec := { _root_.Go.OpenSpec.ofChange s with cond := some uptoSmall }

/-- 'becketlaw07.BlobsTurn', WHERE WHAT IT READS IS OF BULK AT MOST 1048576: true; the input reads as it did. -/
def blobsTurnUptoRow : OpenClaim := { program := "ytjlbfbibamnigaa", sum := "5a6bb188fd4a8a180d969df6b6e50be4259432894f4285a0562bc91ec8f8c999", func := "becket/becketlaw07.BlobsTurn", spec := "blobsTurn", unfollowed := true, recurses := true, apart := false, narrowed := true }
def BlobsTurnUptoSaid : Prop := blobsTurnUptoRow.holds Try.pinned (OpenSpec.upto blobsTurnSpec)

/-- 'becketlaw07.BlobsPlays', WHERE WHAT IT READS IS OF BULK AT MOST 1048576: true; the input reads as it did. -/
def blobsPlaysUptoRow : OpenClaim := { program := "ytjlbfbibamnigaa", sum := "5a6bb188fd4a8a180d969df6b6e50be4259432894f4285a0562bc91ec8f8c999", func := "becket/becketlaw07.BlobsPlays", spec := "blobsPlays", unfollowed := true, recurses := true, apart := false, narrowed := true }
def BlobsPlaysUptoSaid : Prop := blobsPlaysUptoRow.holds Try.pinned (OpenSpec.upto blobsPlaysSpec)

/-- 'becketlaw07.BlobsKeep', WHERE WHAT IT READS IS OF BULK AT MOST 1048576: true; the input reads as it did. -/
def blobsKeepUptoRow : OpenClaim := { program := "ytjlbfbibamnigaa", sum := "5a6bb188fd4a8a180d969df6b6e50be4259432894f4285a0562bc91ec8f8c999", func := "becket/becketlaw07.BlobsKeep", spec := "blobsKeep", unfollowed := true, recurses := true, apart := false, narrowed := true }
def BlobsKeepUptoSaid : Prop := blobsKeepUptoRow.holds Try.pinned (OpenSpec.upto blobsKeepSpec)

end Rows
end Go.Proofs.Ytjlbfbibamnigaa
