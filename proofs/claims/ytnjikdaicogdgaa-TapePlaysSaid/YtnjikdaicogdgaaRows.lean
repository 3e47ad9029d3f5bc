/-
  No cell of these rows narrows 'for every input' (looked for: loops, veiled, ifaces, maps, wideKeys, modest, calm, conditions, laid).
  DERIVED. THE GIVEN ROWS OF THIS SEAT. 12 by the template 'for every input the law returns true; each argument reads behind the call as it read before'; 0 by the template 'total and deterministic' (their statements: YtnjikdaicogdgaaTotals.lean).
  GIVEN WITH THE SEED: the statements are not yours to turn. If you find one false, say at which input.
  Laid BY PROGRAM, IN A SANDBOX (cutbox-rows.mjs): the forced cells as the released guide's own fill.sh prints them over the translation c6c5419b356d82bb… (all of the seat's roots in one cut). By AI agents, Wed Nov 11 2026. No macro, syntax, notation, axiom, sorry.
-/
import Derived.Test.YtnjikdaicogdgaaChecked
import GoSem.Claim
import GoSem.ClaimJoined
import GoSem.ClaimMapViews
import Derived.JoinedTies
import Derived.KernelRfl
namespace Go.Proofs.Ytnjikdaicogdgaa
/- THE CELL 'sum', in the pinned program and in every row, IS THE sha256 OF THE DUMP (.gsa) THAT YtnjikdaicogdgaaProg.lean LOADS. Nothing in Lean hashes anything: it is a label: what it is worth is what the hold of that sum in a sandbox is worth. -/
noncomputable def Try.pinned : Pinned := { name := "ytnjikdaicogdgaa", sum := "c6c5419b356d82bbd40e6d5cc8191c1e84dde900531c1634657913f402a5a1b0", checked := Try.checked }
namespace Rows
def none {H : Type} : Left H := { results := [], args := [] }

/-- 'becketlaw05.TapeFull': WHATEVER THE INPUT: true; the input reads as it did. -/
def tapeFullSpec : ChangeSpec := { name := "tapeFull", fn := fun _ => fun
  | [d1, d2] => { results := [.lit (.bool true)], args := [d1, d2] }
  | _ => none }
def tapeFullRow : OpenClaim := { program := "ytnjikdaicogdgaa", sum := "c6c5419b356d82bbd40e6d5cc8191c1e84dde900531c1634657913f402a5a1b0", func := "becket/becketlaw05.TapeFull", spec := "tapeFull", apart := false }
def TapeFullSaid : Prop := tapeFullRow.holds Try.pinned (OpenSpec.ofChange tapeFullSpec)

/-- ITS FALSE NEIGHBOUR: 'it returns false'. Refute it at one input. -/
def tapeFullWrong : ChangeSpec := { name := "tapeFull", fn := fun _ => fun
  | [d1, d2] => { results := [.lit (.bool false)], args := [d1, d2] }
  | _ => none }
def TapeFullWrongFalsely : Prop := tapeFullRow.holds Try.pinned (OpenSpec.ofChange tapeFullWrong)

/-- 'becketlaw05.TapeKeeps': WHATEVER THE INPUT: true; the input reads as it did. -/
def tapeKeepsSpec : ChangeSpec := { name := "tapeKeeps", fn := fun _ => fun
  | [d1, d2, d3] => { results := [.lit (.bool true)], args := [d1, d2, d3] }
  | _ => none }
def tapeKeepsRow : OpenClaim := { program := "ytnjikdaicogdgaa", sum := "c6c5419b356d82bbd40e6d5cc8191c1e84dde900531c1634657913f402a5a1b0", func := "becket/becketlaw05.TapeKeeps", spec := "tapeKeeps", apart := false }
def TapeKeepsSaid : Prop := tapeKeepsRow.holds Try.pinned (OpenSpec.ofChange tapeKeepsSpec)

/-- ITS FALSE NEIGHBOUR: 'it returns false'. Refute it at one input. -/
def tapeKeepsWrong : ChangeSpec := { name := "tapeKeeps", fn := fun _ => fun
  | [d1, d2, d3] => { results := [.lit (.bool false)], args := [d1, d2, d3] }
  | _ => none }
def TapeKeepsWrongFalsely : Prop := tapeKeepsRow.holds Try.pinned (OpenSpec.ofChange tapeKeepsWrong)

/-- 'becketlaw05.TapeTwice': WHATEVER THE INPUT: true; the input reads as it did. -/
def tapeTwiceSpec : ChangeSpec := { name := "tapeTwice", fn := fun _ => fun
  | [d1, d2, d3, d4] => { results := [.lit (.bool true)], args := [d1, d2, d3, d4] }
  | _ => none }
def tapeTwiceRow : OpenClaim := { program := "ytnjikdaicogdgaa", sum := "c6c5419b356d82bbd40e6d5cc8191c1e84dde900531c1634657913f402a5a1b0", func := "becket/becketlaw05.TapeTwice", spec := "tapeTwice", apart := false }
def TapeTwiceSaid : Prop := tapeTwiceRow.holds Try.pinned (OpenSpec.ofChange tapeTwiceSpec)

/-- ITS FALSE NEIGHBOUR: 'it returns false'. Refute it at one input. -/
def tapeTwiceWrong : ChangeSpec := { name := "tapeTwice", fn := fun _ => fun
  | [d1, d2, d3, d4] => { results := [.lit (.bool false)], args := [d1, d2, d3, d4] }
  | _ => none }
def TapeTwiceWrongFalsely : Prop := tapeTwiceRow.holds Try.pinned (OpenSpec.ofChange tapeTwiceWrong)

/-- 'becketlaw03.ChunkEqual': WHATEVER THE INPUT: true; the input reads as it did. -/
def chunkEqualSpec : ChangeSpec := { name := "chunkEqual", fn := fun _ => fun
  | [d1, d2, d3] => { results := [.lit (.bool true)], args := [d1, d2, d3] }
  | _ => none }
def chunkEqualRow : OpenClaim := { program := "ytnjikdaicogdgaa", sum := "c6c5419b356d82bbd40e6d5cc8191c1e84dde900531c1634657913f402a5a1b0", func := "becket/becketlaw03.ChunkEqual", spec := "chunkEqual", apart := false }
def ChunkEqualSaid : Prop := chunkEqualRow.holds Try.pinned (OpenSpec.ofChange chunkEqualSpec)

/-- ITS FALSE NEIGHBOUR: 'it returns false'. Refute it at one input. -/
def chunkEqualWrong : ChangeSpec := { name := "chunkEqual", fn := fun _ => fun
  | [d1, d2, d3] => { results := [.lit (.bool false)], args := [d1, d2, d3] }
  | _ => none }
def ChunkEqualWrongFalsely : Prop := chunkEqualRow.holds Try.pinned (OpenSpec.ofChange chunkEqualWrong)

/-- 'becketlaw03.ChunkRest': WHATEVER THE INPUT: true; the input reads as it did. -/
def chunkRestSpec : ChangeSpec := { name := "chunkRest", fn := fun _ => fun
  | [d1, d2] => { results := [.lit (.bool true)], args := [d1, d2] }
  | _ => none }
def chunkRestRow : OpenClaim := { program := "ytnjikdaicogdgaa", sum := "c6c5419b356d82bbd40e6d5cc8191c1e84dde900531c1634657913f402a5a1b0", func := "becket/becketlaw03.ChunkRest", spec := "chunkRest", apart := false }
def ChunkRestSaid : Prop := chunkRestRow.holds Try.pinned (OpenSpec.ofChange chunkRestSpec)

/-- ITS FALSE NEIGHBOUR: 'it returns false'. Refute it at one input. -/
def chunkRestWrong : ChangeSpec := { name := "chunkRest", fn := fun _ => fun
  | [d1, d2] => { results := [.lit (.bool false)], args := [d1, d2] }
  | _ => none }
def ChunkRestWrongFalsely : Prop := chunkRestRow.holds Try.pinned (OpenSpec.ofChange chunkRestWrong)

/-- 'becketlaw05.TapePlays': WHATEVER THE INPUT: true; the input reads as it did. -/
def tapePlaysSpec : ChangeSpec := { name := "tapePlays", fn := fun _ => fun
  | [d] => { results := [.lit (.bool true)], args := [d] }
  | _ => none }
def tapePlaysRow : OpenClaim := { program := "ytnjikdaicogdgaa", sum := "c6c5419b356d82bbd40e6d5cc8191c1e84dde900531c1634657913f402a5a1b0", func := "becket/becketlaw05.TapePlays", spec := "tapePlays", apart := false }
def TapePlaysSaid : Prop := tapePlaysRow.holds Try.pinned (OpenSpec.ofChange tapePlaysSpec)

/-- ITS FALSE NEIGHBOUR: 'it returns false'. Refute it at one input. -/
def tapePlaysWrong : ChangeSpec := { name := "tapePlays", fn := fun _ => fun
  | [d] => { results := [.lit (.bool false)], args := [d] }
  | _ => none }
def TapePlaysWrongFalsely : Prop := tapePlaysRow.holds Try.pinned (OpenSpec.ofChange tapePlaysWrong)

/-- 'becketlaw01.WirePuts': WHATEVER THE INPUT: true; the input reads as it did. -/
def wirePutsSpec : ChangeSpec := { name := "wirePuts", fn := fun _ => fun
  | [d1, d2, d3] => { results := [.lit (.bool true)], args := [d1, d2, d3] }
  | _ => none }
def wirePutsRow : OpenClaim := { program := "ytnjikdaicogdgaa", sum := "c6c5419b356d82bbd40e6d5cc8191c1e84dde900531c1634657913f402a5a1b0", func := "becket/becketlaw01.WirePuts", spec := "wirePuts", apart := false }
def WirePutsSaid : Prop := wirePutsRow.holds Try.pinned (OpenSpec.ofChange wirePutsSpec)

/-- ITS FALSE NEIGHBOUR: 'it returns false'. Refute it at one input. -/
def wirePutsWrong : ChangeSpec := { name := "wirePuts", fn := fun _ => fun
  | [d1, d2, d3] => { results := [.lit (.bool false)], args := [d1, d2, d3] }
  | _ => none }
def WirePutsWrongFalsely : Prop := wirePutsRow.holds Try.pinned (OpenSpec.ofChange wirePutsWrong)

/-- 'becketlaw01.WireStays': WHATEVER THE INPUT: true; the input reads as it did. -/
def wireStaysSpec : ChangeSpec := { name := "wireStays", fn := fun _ => fun
  | [d1, d2, d3] => { results := [.lit (.bool true)], args := [d1, d2, d3] }
  | _ => none }
def wireStaysRow : OpenClaim := { program := "ytnjikdaicogdgaa", sum := "c6c5419b356d82bbd40e6d5cc8191c1e84dde900531c1634657913f402a5a1b0", func := "becket/becketlaw01.WireStays", spec := "wireStays", apart := false }
def WireStaysSaid : Prop := wireStaysRow.holds Try.pinned (OpenSpec.ofChange wireStaysSpec)

/-- ITS FALSE NEIGHBOUR: 'it returns false'. Refute it at one input. -/
def wireStaysWrong : ChangeSpec := { name := "wireStays", fn := fun _ => fun
  | [d1, d2, d3] => { results := [.lit (.bool false)], args := [d1, d2, d3] }
  | _ => none }
def WireStaysWrongFalsely : Prop := wireStaysRow.holds Try.pinned (OpenSpec.ofChange wireStaysWrong)

/-- 'becketlaw01.WireBack': WHATEVER THE INPUT: true; the input reads as it did. -/
def wireBackSpec : ChangeSpec := { name := "wireBack", fn := fun _ => fun
  | [d1, d2, d3, d4] => { results := [.lit (.bool true)], args := [d1, d2, d3, d4] }
  | _ => none }
def wireBackRow : OpenClaim := { program := "ytnjikdaicogdgaa", sum := "c6c5419b356d82bbd40e6d5cc8191c1e84dde900531c1634657913f402a5a1b0", func := "becket/becketlaw01.WireBack", spec := "wireBack", apart := false }
def WireBackSaid : Prop := wireBackRow.holds Try.pinned (OpenSpec.ofChange wireBackSpec)

/-- ITS FALSE NEIGHBOUR: 'it returns false'. Refute it at one input. -/
def wireBackWrong : ChangeSpec := { name := "wireBack", fn := fun _ => fun
  | [d1, d2, d3, d4] => { results := [.lit (.bool false)], args := [d1, d2, d3, d4] }
  | _ => none }
def WireBackWrongFalsely : Prop := wireBackRow.holds Try.pinned (OpenSpec.ofChange wireBackWrong)

/-- 'becketlaw03.ChunkSplits': WHATEVER THE INPUT: true; the input reads as it did. -/
def chunkSplitsSpec : ChangeSpec := { name := "chunkSplits", fn := fun _ => fun
  | [d1, d2, d3] => { results := [.lit (.bool true)], args := [d1, d2, d3] }
  | _ => none }
def chunkSplitsRow : OpenClaim := { program := "ytnjikdaicogdgaa", sum := "c6c5419b356d82bbd40e6d5cc8191c1e84dde900531c1634657913f402a5a1b0", func := "becket/becketlaw03.ChunkSplits", spec := "chunkSplits", inPlace := ["internal/abi.NoEscape", "internal/bytealg.MakeNoZero"], apart := false }
def ChunkSplitsSaid : Prop := chunkSplitsRow.holds Try.pinned (OpenSpec.ofChange chunkSplitsSpec)

/-- ITS FALSE NEIGHBOUR: 'it returns false'. Refute it at one input. -/
def chunkSplitsWrong : ChangeSpec := { name := "chunkSplits", fn := fun _ => fun
  | [d1, d2, d3] => { results := [.lit (.bool false)], args := [d1, d2, d3] }
  | _ => none }
def ChunkSplitsWrongFalsely : Prop := chunkSplitsRow.holds Try.pinned (OpenSpec.ofChange chunkSplitsWrong)

/-- 'becketlaw03.ChunkBack': WHATEVER THE INPUT: true; the input reads as it did. -/
def chunkBackSpec : ChangeSpec := { name := "chunkBack", fn := fun _ => fun
  | [d1, d2, d3] => { results := [.lit (.bool true)], args := [d1, d2, d3] }
  | _ => none }
def chunkBackRow : OpenClaim := { program := "ytnjikdaicogdgaa", sum := "c6c5419b356d82bbd40e6d5cc8191c1e84dde900531c1634657913f402a5a1b0", func := "becket/becketlaw03.ChunkBack", spec := "chunkBack", inPlace := ["internal/abi.NoEscape", "internal/bytealg.MakeNoZero"], apart := false }
def ChunkBackSaid : Prop := chunkBackRow.holds Try.pinned (OpenSpec.ofChange chunkBackSpec)

/-- ITS FALSE NEIGHBOUR: 'it returns false'. Refute it at one input. -/
def chunkBackWrong : ChangeSpec := { name := "chunkBack", fn := fun _ => fun
  | [d1, d2, d3] => { results := [.lit (.bool false)], args := [d1, d2, d3] }
  | _ => none }
def ChunkBackWrongFalsely : Prop := chunkBackRow.holds Try.pinned (OpenSpec.ofChange chunkBackWrong)

/-- 'becketlaw03.ChunkStays': WHATEVER THE INPUT: true; the input reads as it did. -/
def chunkStaysSpec : ChangeSpec := { name := "chunkStays", fn := fun _ => fun
  | [d1, d2] => { results := [.lit (.bool true)], args := [d1, d2] }
  | _ => none }
def chunkStaysRow : OpenClaim := { program := "ytnjikdaicogdgaa", sum := "c6c5419b356d82bbd40e6d5cc8191c1e84dde900531c1634657913f402a5a1b0", func := "becket/becketlaw03.ChunkStays", spec := "chunkStays", inPlace := ["internal/abi.NoEscape", "internal/bytealg.MakeNoZero"], apart := false }
def ChunkStaysSaid : Prop := chunkStaysRow.holds Try.pinned (OpenSpec.ofChange chunkStaysSpec)

/-- ITS FALSE NEIGHBOUR: 'it returns false'. Refute it at one input. -/
def chunkStaysWrong : ChangeSpec := { name := "chunkStays", fn := fun _ => fun
  | [d1, d2] => { results := [.lit (.bool false)], args := [d1, d2] }
  | _ => none }
def ChunkStaysWrongFalsely : Prop := chunkStaysRow.holds Try.pinned (OpenSpec.ofChange chunkStaysWrong)

/- THE SECOND FORM. 'bulk': how many values and letters a reading holds, each counted each time it is reached (what is shared counts as often as it is met; a slice's spare places count too). A statement '..UptoSaid' is the law's where the arguments, and the package variables that the reading takes, are together of bulk at most 1048576: NARROWER than '..Said'. Prove '..Said' where nothing that the law and all that it calls make is longer than what came in: it says more and counts as full. Else prove '..UptoSaid'. A law counts once. -/
mutual
def uptoBulk {H : Type} : DataW H → Nat
  | .lit (.string bytes) => bytes.length + 1
  | .lit _ => 1
  | .nil => 1
  | .ptr d => uptoBulk d + 1
  | .slice elems spare => uptoBulkAll elems + uptoBulkAll spare + 1
  | .agg parts => uptoBulkAll parts + 1
  | .iface _ d => uptoBulk d + 1
  | .map entries => uptoBulkEntries entries + 1
  | .held _ => 1
def uptoBulkAll {H : Type} : List (DataW H) → Nat
  | [] => 0
  | d :: r => uptoBulk d + uptoBulkAll r
def uptoBulkEntries {H : Type} : List (Lit × DataW H) → Nat
  | [] => 0
  | x :: r => uptoBulkEntry x + uptoBulkEntries r
def uptoBulkEntry {H : Type} : Lit × DataW H → Nat
  | (.string bytes, d) => bytes.length + uptoBulk d + 1
  | (_, d) => uptoBulk d + 1
 end
def uptoSmall : (H : Type) → List (DataW H) → Bool := fun _ ds => decide (uptoBulkAll ds ≤ 1048576)
def OpenSpec.upto (s : _root_.Go.ChangeSpec) : _root_.Go.OpenSpec := { _root_.Go.OpenSpec.ofChange s with cond := some uptoSmall }

/-- 'becketlaw05.TapeFull', WHERE WHAT IT READS IS OF BULK AT MOST 1048576: true; the input reads as it did. -/
def tapeFullUptoRow : OpenClaim := { program := "ytnjikdaicogdgaa", sum := "c6c5419b356d82bbd40e6d5cc8191c1e84dde900531c1634657913f402a5a1b0", func := "becket/becketlaw05.TapeFull", spec := "tapeFull", apart := false, narrowed := true }
def TapeFullUptoSaid : Prop := tapeFullUptoRow.holds Try.pinned (OpenSpec.upto tapeFullSpec)

/-- 'becketlaw05.TapeKeeps', WHERE WHAT IT READS IS OF BULK AT MOST 1048576: true; the input reads as it did. -/
def tapeKeepsUptoRow : OpenClaim := { program := "ytnjikdaicogdgaa", sum := "c6c5419b356d82bbd40e6d5cc8191c1e84dde900531c1634657913f402a5a1b0", func := "becket/becketlaw05.TapeKeeps", spec := "tapeKeeps", apart := false, narrowed := true }
def TapeKeepsUptoSaid : Prop := tapeKeepsUptoRow.holds Try.pinned (OpenSpec.upto tapeKeepsSpec)

/-- 'becketlaw05.TapeTwice', WHERE WHAT IT READS IS OF BULK AT MOST 1048576: true; the input reads as it did. -/
def tapeTwiceUptoRow : OpenClaim := { program := "ytnjikdaicogdgaa", sum := "c6c5419b356d82bbd40e6d5cc8191c1e84dde900531c1634657913f402a5a1b0", func := "becket/becketlaw05.TapeTwice", spec := "tapeTwice", apart := false, narrowed := true }
def TapeTwiceUptoSaid : Prop := tapeTwiceUptoRow.holds Try.pinned (OpenSpec.upto tapeTwiceSpec)

/-- 'becketlaw03.ChunkEqual', WHERE WHAT IT READS IS OF BULK AT MOST 1048576: true; the input reads as it did. -/
def chunkEqualUptoRow : OpenClaim := { program := "ytnjikdaicogdgaa", sum := "c6c5419b356d82bbd40e6d5cc8191c1e84dde900531c1634657913f402a5a1b0", func := "becket/becketlaw03.ChunkEqual", spec := "chunkEqual", apart := false, narrowed := true }
def ChunkEqualUptoSaid : Prop := chunkEqualUptoRow.holds Try.pinned (OpenSpec.upto chunkEqualSpec)

/-- 'becketlaw03.ChunkRest', WHERE WHAT IT READS IS OF BULK AT MOST 1048576: true; the input reads as it did. -/
def chunkRestUptoRow : OpenClaim := { program := "ytnjikdaicogdgaa", sum := "c6c5419b356d82bbd40e6d5cc8191c1e84dde900531c1634657913f402a5a1b0", func := "becket/becketlaw03.ChunkRest", spec := "chunkRest", apart := false, narrowed := true }
def ChunkRestUptoSaid : Prop := chunkRestUptoRow.holds Try.pinned (OpenSpec.upto chunkRestSpec)

/-- 'becketlaw05.TapePlays', WHERE WHAT IT READS IS OF BULK AT MOST 1048576: true; the input reads as it did. -/
def tapePlaysUptoRow : OpenClaim := { program := "ytnjikdaicogdgaa", sum := "c6c5419b356d82bbd40e6d5cc8191c1e84dde900531c1634657913f402a5a1b0", func := "becket/becketlaw05.TapePlays", spec := "tapePlays", apart := false, narrowed := true }
def TapePlaysUptoSaid : Prop := tapePlaysUptoRow.holds Try.pinned (OpenSpec.upto tapePlaysSpec)

/-- 'becketlaw01.WirePuts', WHERE WHAT IT READS IS OF BULK AT MOST 1048576: true; the input reads as it did. -/
def wirePutsUptoRow : OpenClaim := { program := "ytnjikdaicogdgaa", sum := "c6c5419b356d82bbd40e6d5cc8191c1e84dde900531c1634657913f402a5a1b0", func := "becket/becketlaw01.WirePuts", spec := "wirePuts", apart := false, narrowed := true }
def WirePutsUptoSaid : Prop := wirePutsUptoRow.holds Try.pinned (OpenSpec.upto wirePutsSpec)

/-- 'becketlaw01.WireStays', WHERE WHAT IT READS IS OF BULK AT MOST 1048576: true; the input reads as it did. -/
def wireStaysUptoRow : OpenClaim := { program := "ytnjikdaicogdgaa", sum := "c6c5419b356d82bbd40e6d5cc8191c1e84dde900531c1634657913f402a5a1b0", func := "becket/becketlaw01.WireStays", spec := "wireStays", apart := false, narrowed := true }
def WireStaysUptoSaid : Prop := wireStaysUptoRow.holds Try.pinned (OpenSpec.upto wireStaysSpec)

/-- 'becketlaw01.WireBack', WHERE WHAT IT READS IS OF BULK AT MOST 1048576: true; the input reads as it did. -/
def wireBackUptoRow : OpenClaim := { program := "ytnjikdaicogdgaa", sum := "c6c5419b356d82bbd40e6d5cc8191c1e84dde900531c1634657913f402a5a1b0", func := "becket/becketlaw01.WireBack", spec := "wireBack", apart := false, narrowed := true }
def WireBackUptoSaid : Prop := wireBackUptoRow.holds Try.pinned (OpenSpec.upto wireBackSpec)

/-- 'becketlaw03.ChunkSplits', WHERE WHAT IT READS IS OF BULK AT MOST 1048576: true; the input reads as it did. -/
def chunkSplitsUptoRow : OpenClaim := { program := "ytnjikdaicogdgaa", sum := "c6c5419b356d82bbd40e6d5cc8191c1e84dde900531c1634657913f402a5a1b0", func := "becket/becketlaw03.ChunkSplits", spec := "chunkSplits", inPlace := ["internal/abi.NoEscape", "internal/bytealg.MakeNoZero"], apart := false, narrowed := true }
def ChunkSplitsUptoSaid : Prop := chunkSplitsUptoRow.holds Try.pinned (OpenSpec.upto chunkSplitsSpec)

/-- 'becketlaw03.ChunkBack', WHERE WHAT IT READS IS OF BULK AT MOST 1048576: true; the input reads as it did. -/
def chunkBackUptoRow : OpenClaim := { program := "ytnjikdaicogdgaa", sum := "c6c5419b356d82bbd40e6d5cc8191c1e84dde900531c1634657913f402a5a1b0", func := "becket/becketlaw03.ChunkBack", spec := "chunkBack", inPlace := ["internal/abi.NoEscape", "internal/bytealg.MakeNoZero"], apart := false, narrowed := true }
def ChunkBackUptoSaid : Prop := chunkBackUptoRow.holds Try.pinned (OpenSpec.upto chunkBackSpec)

/-- 'becketlaw03.ChunkStays', WHERE WHAT IT READS IS OF BULK AT MOST 1048576: true; the input reads as it did. -/
def chunkStaysUptoRow : OpenClaim := { program := "ytnjikdaicogdgaa", sum := "c6c5419b356d82bbd40e6d5cc8191c1e84dde900531c1634657913f402a5a1b0", func := "becket/becketlaw03.ChunkStays", spec := "chunkStays", inPlace := ["internal/abi.NoEscape", "internal/bytealg.MakeNoZero"], apart := false, narrowed := true }
def ChunkStaysUptoSaid : Prop := chunkStaysUptoRow.holds Try.pinned (OpenSpec.upto chunkStaysSpec)

end Rows
end Go.Proofs.Ytnjikdaicogdgaa
