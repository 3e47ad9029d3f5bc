/-
  DERIVED. GIVEN WITH THE SEED: THE CARDS: each row of YtlcfcaokihoplaaDoorRows.lean that lists a variable, with what it lists TIED to the program's text (the seventh form; the later family's looks); each row that meets fmt, with fmt's text TOLD by the authors' own Lean function (tested against real Go, not proved from fmt's source: count such statements apart). THE CARD IS WHAT COUNTS. Prove the row's statement (the work); the ties are given (YtlcfcaokihoplaaDoorTie.lean); close each card by the builder's one call (the guide's Derived/Test/ToyasCard.lean, 'card_holds'). Laid BY PROGRAM, IN A SANDBOX (cutbox-door.mjs). By AI agents, Wed Nov 11 2026. No macro, syntax, notation, axiom, sorry.
-/
import Derived.Test.YtlcfcaokihoplaaDoorRows
import GoSem.ClaimSeven
namespace Go.Proofs.YtlcfcaokihoplaaDoor
namespace Rows

/-- THE TIED CARD OF 'becketlaw19.ClientFew'. -/
def clientFewCard : Claim7 := { stood := { row := clientFewRow, standIns := [], harness := (true, "48355c71c16c7377ca6a92fc45205e868a58b93ab10ad415d849a9abf217c511"), looks := true }, kinds := [], alts := [], laidByText := true, laidKinds := [.data, .pinned], laidTests := true, laidLooks := .later }
def ClientFewCardSaid : Prop := Claim7.holds Tryd.pinned (.plain (OpenSpec.ofChange clientFewSpec)) clientFewCard

/-- THE TIED CARD OF 'becketlaw19.ClientOnce'. -/
def clientOnceCard : Claim7 := { stood := { row := clientOnceRow, standIns := [], harness := (true, "48355c71c16c7377ca6a92fc45205e868a58b93ab10ad415d849a9abf217c511"), looks := true }, kinds := [], alts := [], laidByText := true, laidKinds := [.data, .pinned], laidTests := true, laidLooks := .later }
def ClientOnceCardSaid : Prop := Claim7.holds Tryd.pinned (.plain (OpenSpec.ofChange clientOnceSpec)) clientOnceCard

/-- THE SECOND FORM's CARD OF 'becketlaw19.ClientFew'. -/
def clientFewUptoCard : Claim7 := { stood := { row := clientFewUptoRow, standIns := [], harness := (true, "48355c71c16c7377ca6a92fc45205e868a58b93ab10ad415d849a9abf217c511"), looks := true }, kinds := [], alts := [], laidByText := true, laidKinds := [.data, .pinned], laidTests := true, laidLooks := .later }
def ClientFewUptoCardSaid : Prop := Claim7.holds Tryd.pinned (.plain (OpenSpec.upto clientFewSpec)) clientFewUptoCard

/-- THE SECOND FORM's CARD OF 'becketlaw19.ClientOnce'. -/
def clientOnceUptoCard : Claim7 := { stood := { row := clientOnceUptoRow, standIns := [], harness := (true, "48355c71c16c7377ca6a92fc45205e868a58b93ab10ad415d849a9abf217c511"), looks := true }, kinds := [], alts := [], laidByText := true, laidKinds := [.data, .pinned], laidTests := true, laidLooks := .later }
def ClientOnceUptoCardSaid : Prop := Claim7.holds Tryd.pinned (.plain (OpenSpec.upto clientOnceSpec)) clientOnceUptoCard
end Rows
end Go.Proofs.YtlcfcaokihoplaaDoor
