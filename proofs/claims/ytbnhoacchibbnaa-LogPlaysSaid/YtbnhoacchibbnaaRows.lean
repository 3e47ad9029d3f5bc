/-
  No cell of these rows narrows 'for every input' (looked for: loops, veiled, ifaces, maps, wideKeys, modest, calm, conditions, laid).
  DERIVED. THE GIVEN ROWS OF THIS SEAT. 11 by the template 'for every input the law returns true; each argument reads behind the call as it read before'; 0 by the template 'total and deterministic' (their statements: YtbnhoacchibbnaaTotals.lean).
  GIVEN WITH THE SEED: the statements are not yours to turn. If you find one false, say at which input.
  Laid BY PROGRAM, IN A SANDBOX (cutbox-rows.mjs): the forced cells as the released guide's own fill.sh prints them over the translation 1311ff78748d501e… (all of the seat's roots in one cut). By AI agents, Wed Nov 11 2026. No macro, syntax, notation, axiom, sorry.
-/
import Derived.Test.YtbnhoacchibbnaaChecked
import GoSem.Claim
import GoSem.ClaimJoined
import GoSem.ClaimMapViews
import Derived.JoinedTies
import Derived.KernelRfl
namespace Go.Proofs.Ytbnhoacchibbnaa
/- THE CELL 'sum', in the pinned program and in every row, IS THE sha256 OF THE DUMP (.gsa) THAT YtbnhoacchibbnaaProg.lean LOADS. Nothing in Lean hashes anything: it is a label: what it is worth is what the hold of that sum in a sandbox is worth. -/
noncomputable def Try.pinned : Pinned := { name := "ytbnhoacchibbnaa", sum := "1311ff78748d501ee81df737d779c7f9220e9a4f2ba49cfd6e15fd27851d0a42", checked := Try.checked }
namespace Rows
def none {H : Type} : Left H := { results := [], args := [] }

/-- 'becketlaw06.LogTwice': WHATEVER THE INPUT: true; the input reads as it did. -/
def logTwiceSpec : ChangeSpec := { name := "logTwice", fn := fun _ => fun
  | [d] => { results := [.lit (.bool true)], args := [d] }
  | _ => none }
def logTwiceRow : OpenClaim := { program := "ytbnhoacchibbnaa", sum := "1311ff78748d501ee81df737d779c7f9220e9a4f2ba49cfd6e15fd27851d0a42", func := "becket/becketlaw06.LogTwice", spec := "logTwice", apart := false }
def LogTwiceSaid : Prop := logTwiceRow.holds Try.pinned (OpenSpec.ofChange logTwiceSpec)

/-- ITS FALSE NEIGHBOUR: 'it returns false'. Refute it at one input. -/
def logTwiceWrong : ChangeSpec := { name := "logTwice", fn := fun _ => fun
  | [d] => { results := [.lit (.bool false)], args := [d] }
  | _ => none }
def LogTwiceWrongFalsely : Prop := logTwiceRow.holds Try.pinned (OpenSpec.ofChange logTwiceWrong)

/-- 'becketlaw06.LogKeeps': WHATEVER THE INPUT: true; the input reads as it did. -/
def logKeepsSpec : ChangeSpec := { name := "logKeeps", fn := fun _ => fun
  | [d1, d2, d3] => { results := [.lit (.bool true)], args := [d1, d2, d3] }
  | _ => none }
def logKeepsRow : OpenClaim := { program := "ytbnhoacchibbnaa", sum := "1311ff78748d501ee81df737d779c7f9220e9a4f2ba49cfd6e15fd27851d0a42", func := "becket/becketlaw06.LogKeeps", spec := "logKeeps", apart := false }
def LogKeepsSaid : Prop := logKeepsRow.holds Try.pinned (OpenSpec.ofChange logKeepsSpec)

/-- ITS FALSE NEIGHBOUR: 'it returns false'. Refute it at one input. -/
def logKeepsWrong : ChangeSpec := { name := "logKeeps", fn := fun _ => fun
  | [d1, d2, d3] => { results := [.lit (.bool false)], args := [d1, d2, d3] }
  | _ => none }
def LogKeepsWrongFalsely : Prop := logKeepsRow.holds Try.pinned (OpenSpec.ofChange logKeepsWrong)

/-- 'becketlaw06.LogLoses': WHATEVER THE INPUT: true; the input reads as it did. -/
def logLosesSpec : ChangeSpec := { name := "logLoses", fn := fun _ => fun
  | [d1, d2, d3] => { results := [.lit (.bool true)], args := [d1, d2, d3] }
  | _ => none }
def logLosesRow : OpenClaim := { program := "ytbnhoacchibbnaa", sum := "1311ff78748d501ee81df737d779c7f9220e9a4f2ba49cfd6e15fd27851d0a42", func := "becket/becketlaw06.LogLoses", spec := "logLoses", apart := false }
def LogLosesSaid : Prop := logLosesRow.holds Try.pinned (OpenSpec.ofChange logLosesSpec)

/-- ITS FALSE NEIGHBOUR: 'it returns false'. Refute it at one input. -/
def logLosesWrong : ChangeSpec := { name := "logLoses", fn := fun _ => fun
  | [d1, d2, d3] => { results := [.lit (.bool false)], args := [d1, d2, d3] }
  | _ => none }
def LogLosesWrongFalsely : Prop := logLosesRow.holds Try.pinned (OpenSpec.ofChange logLosesWrong)

/-- 'becketlaw06.LogPlays': WHATEVER THE INPUT: true; the input reads as it did. -/
def logPlaysSpec : ChangeSpec := { name := "logPlays", fn := fun _ => fun
  | [d] => { results := [.lit (.bool true)], args := [d] }
  | _ => none }
def logPlaysRow : OpenClaim := { program := "ytbnhoacchibbnaa", sum := "1311ff78748d501ee81df737d779c7f9220e9a4f2ba49cfd6e15fd27851d0a42", func := "becket/becketlaw06.LogPlays", spec := "logPlays", apart := false }
def LogPlaysSaid : Prop := logPlaysRow.holds Try.pinned (OpenSpec.ofChange logPlaysSpec)

/-- ITS FALSE NEIGHBOUR: 'it returns false'. Refute it at one input. -/
def logPlaysWrong : ChangeSpec := { name := "logPlays", fn := fun _ => fun
  | [d] => { results := [.lit (.bool false)], args := [d] }
  | _ => none }
def LogPlaysWrongFalsely : Prop := logPlaysRow.holds Try.pinned (OpenSpec.ofChange logPlaysWrong)

/-- 'becketlaw18.NetOnce': WHATEVER THE INPUT: true; the input reads as it did. -/
def netOnceSpec : ChangeSpec := { name := "netOnce", fn := fun _ => fun
  | [d1, d2, d3, d4] => { results := [.lit (.bool true)], args := [d1, d2, d3, d4] }
  | _ => none }
def netOnceRow : OpenClaim := { program := "ytbnhoacchibbnaa", sum := "1311ff78748d501ee81df737d779c7f9220e9a4f2ba49cfd6e15fd27851d0a42", func := "becket/becketlaw18.NetOnce", spec := "netOnce", unfollowed := true, recurses := true, apart := false }
def NetOnceSaid : Prop := netOnceRow.holds Try.pinned (OpenSpec.ofChange netOnceSpec)

/-- ITS FALSE NEIGHBOUR: 'it returns false'. Refute it at one input. -/
def netOnceWrong : ChangeSpec := { name := "netOnce", fn := fun _ => fun
  | [d1, d2, d3, d4] => { results := [.lit (.bool false)], args := [d1, d2, d3, d4] }
  | _ => none }
def NetOnceWrongFalsely : Prop := netOnceRow.holds Try.pinned (OpenSpec.ofChange netOnceWrong)

/-- 'becketlaw18.NetPlays': WHATEVER THE INPUT: true; the input reads as it did. -/
def netPlaysSpec : ChangeSpec := { name := "netPlays", fn := fun _ => fun
  | [d1, d2] => { results := [.lit (.bool true)], args := [d1, d2] }
  | _ => none }
def netPlaysRow : OpenClaim := { program := "ytbnhoacchibbnaa", sum := "1311ff78748d501ee81df737d779c7f9220e9a4f2ba49cfd6e15fd27851d0a42", func := "becket/becketlaw18.NetPlays", spec := "netPlays", unfollowed := true, recurses := true, apart := false }
def NetPlaysSaid : Prop := netPlaysRow.holds Try.pinned (OpenSpec.ofChange netPlaysSpec)

/-- ITS FALSE NEIGHBOUR: 'it returns false'. Refute it at one input. -/
def netPlaysWrong : ChangeSpec := { name := "netPlays", fn := fun _ => fun
  | [d1, d2] => { results := [.lit (.bool false)], args := [d1, d2] }
  | _ => none }
def NetPlaysWrongFalsely : Prop := netPlaysRow.holds Try.pinned (OpenSpec.ofChange netPlaysWrong)

/-- 'becketlaw18.NetTwice': WHATEVER THE INPUT: true; the input reads as it did. -/
def netTwiceSpec : ChangeSpec := { name := "netTwice", fn := fun _ => fun
  | [d1, d2, d3, d4] => { results := [.lit (.bool true)], args := [d1, d2, d3, d4] }
  | _ => none }
def netTwiceRow : OpenClaim := { program := "ytbnhoacchibbnaa", sum := "1311ff78748d501ee81df737d779c7f9220e9a4f2ba49cfd6e15fd27851d0a42", func := "becket/becketlaw18.NetTwice", spec := "netTwice", unfollowed := true, recurses := true, apart := false }
def NetTwiceSaid : Prop := netTwiceRow.holds Try.pinned (OpenSpec.ofChange netTwiceSpec)

/-- ITS FALSE NEIGHBOUR: 'it returns false'. Refute it at one input. -/
def netTwiceWrong : ChangeSpec := { name := "netTwice", fn := fun _ => fun
  | [d1, d2, d3, d4] => { results := [.lit (.bool false)], args := [d1, d2, d3, d4] }
  | _ => none }
def NetTwiceWrongFalsely : Prop := netTwiceRow.holds Try.pinned (OpenSpec.ofChange netTwiceWrong)

/-- 'becketlaw11.VoteTells': WHATEVER THE INPUT: true; the input reads as it did. -/
def voteTellsSpec : ChangeSpec := { name := "voteTells", fn := fun _ => fun
  | [d1, d2, d3] => { results := [.lit (.bool true)], args := [d1, d2, d3] }
  | _ => none }
def voteTellsRow : OpenClaim := { program := "ytbnhoacchibbnaa", sum := "1311ff78748d501ee81df737d779c7f9220e9a4f2ba49cfd6e15fd27851d0a42", func := "becket/becketlaw11.VoteTells", spec := "voteTells", recurses := true, apart := false }
def VoteTellsSaid : Prop := voteTellsRow.holds Try.pinned (OpenSpec.ofChange voteTellsSpec)

/-- ITS FALSE NEIGHBOUR: 'it returns false'. Refute it at one input. -/
def voteTellsWrong : ChangeSpec := { name := "voteTells", fn := fun _ => fun
  | [d1, d2, d3] => { results := [.lit (.bool false)], args := [d1, d2, d3] }
  | _ => none }
def VoteTellsWrongFalsely : Prop := voteTellsRow.holds Try.pinned (OpenSpec.ofChange voteTellsWrong)

/-- 'becketlaw11.VoteOne': WHATEVER THE INPUT: true; the input reads as it did. -/
def voteOneSpec : ChangeSpec := { name := "voteOne", fn := fun _ => fun
  | [d1, d2, d3, d4] => { results := [.lit (.bool true)], args := [d1, d2, d3, d4] }
  | _ => none }
def voteOneRow : OpenClaim := { program := "ytbnhoacchibbnaa", sum := "1311ff78748d501ee81df737d779c7f9220e9a4f2ba49cfd6e15fd27851d0a42", func := "becket/becketlaw11.VoteOne", spec := "voteOne", recurses := true, apart := false }
def VoteOneSaid : Prop := voteOneRow.holds Try.pinned (OpenSpec.ofChange voteOneSpec)

/-- ITS FALSE NEIGHBOUR: 'it returns false'. Refute it at one input. -/
def voteOneWrong : ChangeSpec := { name := "voteOne", fn := fun _ => fun
  | [d1, d2, d3, d4] => { results := [.lit (.bool false)], args := [d1, d2, d3, d4] }
  | _ => none }
def VoteOneWrongFalsely : Prop := voteOneRow.holds Try.pinned (OpenSpec.ofChange voteOneWrong)

/-- 'becketlaw11.VoteMore': WHATEVER THE INPUT: true; the input reads as it did. -/
def voteMoreSpec : ChangeSpec := { name := "voteMore", fn := fun _ => fun
  | [d1, d2, d3, d4] => { results := [.lit (.bool true)], args := [d1, d2, d3, d4] }
  | _ => none }
def voteMoreRow : OpenClaim := { program := "ytbnhoacchibbnaa", sum := "1311ff78748d501ee81df737d779c7f9220e9a4f2ba49cfd6e15fd27851d0a42", func := "becket/becketlaw11.VoteMore", spec := "voteMore", recurses := true, apart := false }
def VoteMoreSaid : Prop := voteMoreRow.holds Try.pinned (OpenSpec.ofChange voteMoreSpec)

/-- ITS FALSE NEIGHBOUR: 'it returns false'. Refute it at one input. -/
def voteMoreWrong : ChangeSpec := { name := "voteMore", fn := fun _ => fun
  | [d1, d2, d3, d4] => { results := [.lit (.bool false)], args := [d1, d2, d3, d4] }
  | _ => none }
def VoteMoreWrongFalsely : Prop := voteMoreRow.holds Try.pinned (OpenSpec.ofChange voteMoreWrong)

/-- 'becketlaw11.VoteQuorums': WHATEVER THE INPUT: true; the input reads as it did. -/
def voteQuorumsSpec : ChangeSpec := { name := "voteQuorums", fn := fun _ => fun
  | [d1, d2] => { results := [.lit (.bool true)], args := [d1, d2] }
  | _ => none }
def voteQuorumsRow : OpenClaim := { program := "ytbnhoacchibbnaa", sum := "1311ff78748d501ee81df737d779c7f9220e9a4f2ba49cfd6e15fd27851d0a42", func := "becket/becketlaw11.VoteQuorums", spec := "voteQuorums", recurses := true, apart := false }
def VoteQuorumsSaid : Prop := voteQuorumsRow.holds Try.pinned (OpenSpec.ofChange voteQuorumsSpec)

/-- ITS FALSE NEIGHBOUR: 'it returns false'. Refute it at one input. -/
def voteQuorumsWrong : ChangeSpec := { name := "voteQuorums", fn := fun _ => fun
  | [d1, d2] => { results := [.lit (.bool false)], args := [d1, d2] }
  | _ => none }
def VoteQuorumsWrongFalsely : Prop := voteQuorumsRow.holds Try.pinned (OpenSpec.ofChange voteQuorumsWrong)

/- THE SECOND FORM. 'bulk': how many values and letters a reading holds, each counted each time it is reached (what is shared counts as often as it is met; a slice's spare places count too). A statement '..UptoSaid' is the law's where the arguments, and the package variables that the reading takes, are together of bulk at most 1048576: NARROWER than '..Said'. Prove '..Said' where nothing that the law and all that it calls make is longer than what came in: it says more and counts as full. Else prove '..UptoSaid'. A law counts once. -/
mutual
def uptoBulk {H : Type} : DataW H → Nat
  | .lit (.string bytes) => bytes.length + 1
  | .lit _ => 1
  | .nil => 1
  | .ptr d => uptoBulk d + 1
  | .slice elems spare => uptoBulkAll elems + uptoBulkAll spare + 1
  | .agg parts => uptoBulkAll parts + 1
  | .iface _ d => uptoBulk d + 1
  | .map entries => uptoBulkEntries entries + 1
  | .held _ => 1
def uptoBulkAll {H : Type} : List (DataW H) → Nat
  | [] => 0
  | d :: r => uptoBulk d + uptoBulkAll r
def uptoBulkEntries {H : Type} : List (Lit × DataW H) → Nat
  | [] => 0
  | x :: r => uptoBulkEntry x + uptoBulkEntries r
def uptoBulkEntry {H : Type} : Lit × DataW H → Nat
  | (.string bytes, d) => bytes.length + uptoBulk d + 1
  | (_, d) => uptoBulk d + 1
 end
def uptoSmall : (H : Type) → List (DataW H) → Bool := fun _ ds => decide (uptoBulkAll ds ≤ 1048576)
def OpenSpec.upto (s : _root_.Go.ChangeSpec) : _root_.Go.OpenSpec := { _root_.Go.OpenSpec.ofChange s with cond := some uptoSmall }

/-- 'becketlaw06.LogTwice', WHERE WHAT IT READS IS OF BULK AT MOST 1048576: true; the input reads as it did. -/
def logTwiceUptoRow : OpenClaim := { program := "ytbnhoacchibbnaa", sum := "1311ff78748d501ee81df737d779c7f9220e9a4f2ba49cfd6e15fd27851d0a42", func := "becket/becketlaw06.LogTwice", spec := "logTwice", apart := false, narrowed := true }
def LogTwiceUptoSaid : Prop := logTwiceUptoRow.holds Try.pinned (OpenSpec.upto logTwiceSpec)

/-- 'becketlaw06.LogKeeps', WHERE WHAT IT READS IS OF BULK AT MOST 1048576: true; the input reads as it did. -/
def logKeepsUptoRow : OpenClaim := { program := "ytbnhoacchibbnaa", sum := "1311ff78748d501ee81df737d779c7f9220e9a4f2ba49cfd6e15fd27851d0a42", func := "becket/becketlaw06.LogKeeps", spec := "logKeeps", apart := false, narrowed := true }
def LogKeepsUptoSaid : Prop := logKeepsUptoRow.holds Try.pinned (OpenSpec.upto logKeepsSpec)

/-- 'becketlaw06.LogLoses', WHERE WHAT IT READS IS OF BULK AT MOST 1048576: true; the input reads as it did. -/
def logLosesUptoRow : OpenClaim := { program := "ytbnhoacchibbnaa", sum := "1311ff78748d501ee81df737d779c7f9220e9a4f2ba49cfd6e15fd27851d0a42", func := "becket/becketlaw06.LogLoses", spec := "logLoses", apart := false, narrowed := true }
def LogLosesUptoSaid : Prop := logLosesUptoRow.holds Try.pinned (OpenSpec.upto logLosesSpec)

/-- 'becketlaw06.LogPlays', WHERE WHAT IT READS IS OF BULK AT MOST 1048576: true; the input reads as it did. -/
def logPlaysUptoRow : OpenClaim := { program := "ytbnhoacchibbnaa", sum := "1311ff78748d501ee81df737d779c7f9220e9a4f2ba49cfd6e15fd27851d0a42", func := "becket/becketlaw06.LogPlays", spec := "logPlays", apart := false, narrowed := true }
def LogPlaysUptoSaid : Prop := logPlaysUptoRow.holds Try.pinned (OpenSpec.upto logPlaysSpec)

/-- 'becketlaw18.NetOnce', WHERE WHAT IT READS IS OF BULK AT MOST 1048576: true; the input reads as it did. -/
def netOnceUptoRow : OpenClaim := { program := "ytbnhoacchibbnaa", sum := "1311ff78748d501ee81df737d779c7f9220e9a4f2ba49cfd6e15fd27851d0a42", func := "becket/becketlaw18.NetOnce", spec := "netOnce", unfollowed := true, recurses := true, apart := false, narrowed := true }
def NetOnceUptoSaid : Prop := netOnceUptoRow.holds Try.pinned (OpenSpec.upto netOnceSpec)

/-- 'becketlaw18.NetPlays', WHERE WHAT IT READS IS OF BULK AT MOST 1048576: true; the input reads as it did. -/
def netPlaysUptoRow : OpenClaim := { program := "ytbnhoacchibbnaa", sum := "1311ff78748d501ee81df737d779c7f9220e9a4f2ba49cfd6e15fd27851d0a42", func := "becket/becketlaw18.NetPlays", spec := "netPlays", unfollowed := true, recurses := true, apart := false, narrowed := true }
def NetPlaysUptoSaid : Prop := netPlaysUptoRow.holds Try.pinned (OpenSpec.upto netPlaysSpec)

/-- 'becketlaw18.NetTwice', WHERE WHAT IT READS IS OF BULK AT MOST 1048576: true; the input reads as it did. -/
def netTwiceUptoRow : OpenClaim := { program := "ytbnhoacchibbnaa", sum := "1311ff78748d501ee81df737d779c7f9220e9a4f2ba49cfd6e15fd27851d0a42", func := "becket/becketlaw18.NetTwice", spec := "netTwice", unfollowed := true, recurses := true, apart := false, narrowed := true }
def NetTwiceUptoSaid : Prop := netTwiceUptoRow.holds Try.pinned (OpenSpec.upto netTwiceSpec)

/-- 'becketlaw11.VoteTells', WHERE WHAT IT READS IS OF BULK AT MOST 1048576: true; the input reads as it did. -/
def voteTellsUptoRow : OpenClaim := { program := "ytbnhoacchibbnaa", sum := "1311ff78748d501ee81df737d779c7f9220e9a4f2ba49cfd6e15fd27851d0a42", func := "becket/becketlaw11.VoteTells", spec := "voteTells", recurses := true, apart := false, narrowed := true }
def VoteTellsUptoSaid : Prop := voteTellsUptoRow.holds Try.pinned (OpenSpec.upto voteTellsSpec)

/-- 'becketlaw11.VoteOne', WHERE WHAT IT READS IS OF BULK AT MOST 1048576: true; the input reads as it did. -/
def voteOneUptoRow : OpenClaim := { program := "ytbnhoacchibbnaa", sum := "1311ff78748d501ee81df737d779c7f9220e9a4f2ba49cfd6e15fd27851d0a42", func := "becket/becketlaw11.VoteOne", spec := "voteOne", recurses := true, apart := false, narrowed := true }
def VoteOneUptoSaid : Prop := voteOneUptoRow.holds Try.pinned (OpenSpec.upto voteOneSpec)

/-- 'becketlaw11.VoteMore', WHERE WHAT IT READS IS OF BULK AT MOST 1048576: true; the input reads as it did. -/
def voteMoreUptoRow : OpenClaim := { program := "ytbnhoacchibbnaa", sum := "1311ff78748d501ee81df737d779c7f9220e9a4f2ba49cfd6e15fd27851d0a42", func := "becket/becketlaw11.VoteMore", spec := "voteMore", recurses := true, apart := false, narrowed := true }
def VoteMoreUptoSaid : Prop := voteMoreUptoRow.holds Try.pinned (OpenSpec.upto voteMoreSpec)

/-- 'becketlaw11.VoteQuorums', WHERE WHAT IT READS IS OF BULK AT MOST 1048576: true; the input reads as it did. -/
def voteQuorumsUptoRow : OpenClaim := { program := "ytbnhoacchibbnaa", sum := "1311ff78748d501ee81df737d779c7f9220e9a4f2ba49cfd6e15fd27851d0a42", func := "becket/becketlaw11.VoteQuorums", spec := "voteQuorums", recurses := true, apart := false, narrowed := true }
def VoteQuorumsUptoSaid : Prop := voteQuorumsUptoRow.holds Try.pinned (OpenSpec.upto voteQuorumsSpec)

end Rows
end Go.Proofs.Ytbnhoacchibbnaa
