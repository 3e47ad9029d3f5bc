/-
  DERIVED. GIVEN WITH THE SEED: THE CARDS: each row of YtghfofjlafeliaaDoorRows.lean that lists a variable, with what it lists TIED to the program's text (the seventh form; the later family's looks); each row that meets fmt, with fmt's text TOLD by the authors' own Lean function (tested against real Go, not proved from fmt's source: count such statements apart). THE CARD IS WHAT COUNTS. Prove the row's statement (the work); the ties are given (YtghfofjlafeliaaDoorTie.lean); close each card by the builder's one call (the guide's Derived/Test/ToyasCard.lean, 'card_holds'). Laid BY PROGRAM, IN A SANDBOX (cutbox-door.mjs). By AI agents, Wed Nov 11 2026. No macro, syntax, notation, axiom, sorry.
-/
import Derived.Test.YtghfofjlafeliaaDoorRows
import GoSem.ClaimSeven
namespace Go.Proofs.YtghfofjlafeliaaDoor
namespace Rows

/-- THE TIED CARD OF 'becketlaw08.OrderPuts'. -/
def orderPutsCard : Claim7 := { stood := { row := orderPutsRow, standIns := [], harness := (true, "7c89db6575a3ebc5f2acaccdb78cc48a59a3b381c672b176cea68e0cbcf74137"), looks := true }, kinds := [], alts := [], laidByText := true, laidKinds := [.data, .pinned], laidTests := true, laidLooks := .later }
def OrderPutsCardSaid : Prop := Claim7.holds Tryd.pinned (.plain (OpenSpec.ofChange orderPutsSpec)) orderPutsCard

/-- THE TIED CARD OF 'becketlaw08.OrderGets'. -/
def orderGetsCard : Claim7 := { stood := { row := orderGetsRow, standIns := [], harness := (true, "7c89db6575a3ebc5f2acaccdb78cc48a59a3b381c672b176cea68e0cbcf74137"), looks := true }, kinds := [], alts := [], laidByText := true, laidKinds := [.data, .pinned], laidTests := true, laidLooks := .later }
def OrderGetsCardSaid : Prop := Claim7.holds Tryd.pinned (.plain (OpenSpec.ofChange orderGetsSpec)) orderGetsCard

/-- THE TIED CARD OF 'becketlaw08.OrderBack'. -/
def orderBackCard : Claim7 := { stood := { row := orderBackRow, standIns := [], harness := (true, "7c89db6575a3ebc5f2acaccdb78cc48a59a3b381c672b176cea68e0cbcf74137"), looks := true }, kinds := [], alts := [], laidByText := true, laidKinds := [.data, .pinned], laidTests := true, laidLooks := .later }
def OrderBackCardSaid : Prop := Claim7.holds Tryd.pinned (.plain (OpenSpec.ofChange orderBackSpec)) orderBackCard

/-- THE TIED CARD OF 'becketlaw08.OrderStays'. -/
def orderStaysCard : Claim7 := { stood := { row := orderStaysRow, standIns := [], harness := (true, "7c89db6575a3ebc5f2acaccdb78cc48a59a3b381c672b176cea68e0cbcf74137"), looks := true }, kinds := [], alts := [], laidByText := true, laidKinds := [.data, .pinned], laidTests := true, laidLooks := .later }
def OrderStaysCardSaid : Prop := Claim7.holds Tryd.pinned (.plain (OpenSpec.ofChange orderStaysSpec)) orderStaysCard

/-- THE TIED CARD OF 'becketlaw08.OrderApart'. -/
def orderApartCard : Claim7 := { stood := { row := orderApartRow, standIns := [], harness := (true, "7c89db6575a3ebc5f2acaccdb78cc48a59a3b381c672b176cea68e0cbcf74137"), looks := true }, kinds := [], alts := [], laidByText := true, laidKinds := [.data, .pinned], laidTests := true, laidLooks := .later }
def OrderApartCardSaid : Prop := Claim7.holds Tryd.pinned (.plain (OpenSpec.ofChange orderApartSpec)) orderApartCard

/-- THE SECOND FORM's CARD OF 'becketlaw08.OrderPuts'. -/
def orderPutsUptoCard : Claim7 := { stood := { row := orderPutsUptoRow, standIns := [], harness := (true, "7c89db6575a3ebc5f2acaccdb78cc48a59a3b381c672b176cea68e0cbcf74137"), looks := true }, kinds := [], alts := [], laidByText := true, laidKinds := [.data, .pinned], laidTests := true, laidLooks := .later }
def OrderPutsUptoCardSaid : Prop := Claim7.holds Tryd.pinned (.plain (OpenSpec.upto orderPutsSpec)) orderPutsUptoCard

/-- THE SECOND FORM's CARD OF 'becketlaw08.OrderGets'. -/
def orderGetsUptoCard : Claim7 := { stood := { row := orderGetsUptoRow, standIns := [], harness := (true, "7c89db6575a3ebc5f2acaccdb78cc48a59a3b381c672b176cea68e0cbcf74137"), looks := true }, kinds := [], alts := [], laidByText := true, laidKinds := [.data, .pinned], laidTests := true, laidLooks := .later }
def OrderGetsUptoCardSaid : Prop := Claim7.holds Tryd.pinned (.plain (OpenSpec.upto orderGetsSpec)) orderGetsUptoCard

/-- THE SECOND FORM's CARD OF 'becketlaw08.OrderBack'. -/
def orderBackUptoCard : Claim7 := { stood := { row := orderBackUptoRow, standIns := [], harness := (true, "7c89db6575a3ebc5f2acaccdb78cc48a59a3b381c672b176cea68e0cbcf74137"), looks := true }, kinds := [], alts := [], laidByText := true, laidKinds := [.data, .pinned], laidTests := true, laidLooks := .later }
def OrderBackUptoCardSaid : Prop := Claim7.holds Tryd.pinned (.plain (OpenSpec.upto orderBackSpec)) orderBackUptoCard

/-- THE SECOND FORM's CARD OF 'becketlaw08.OrderStays'. -/
def orderStaysUptoCard : Claim7 := { stood := { row := orderStaysUptoRow, standIns := [], harness := (true, "7c89db6575a3ebc5f2acaccdb78cc48a59a3b381c672b176cea68e0cbcf74137"), looks := true }, kinds := [], alts := [], laidByText := true, laidKinds := [.data, .pinned], laidTests := true, laidLooks := .later }
def OrderStaysUptoCardSaid : Prop := Claim7.holds Tryd.pinned (.plain (OpenSpec.upto orderStaysSpec)) orderStaysUptoCard

/-- THE SECOND FORM's CARD OF 'becketlaw08.OrderApart'. -/
def orderApartUptoCard : Claim7 := { stood := { row := orderApartUptoRow, standIns := [], harness := (true, "7c89db6575a3ebc5f2acaccdb78cc48a59a3b381c672b176cea68e0cbcf74137"), looks := true }, kinds := [], alts := [], laidByText := true, laidKinds := [.data, .pinned], laidTests := true, laidLooks := .later }
def OrderApartUptoCardSaid : Prop := Claim7.holds Tryd.pinned (.plain (OpenSpec.upto orderApartSpec)) orderApartUptoCard
end Rows
end Go.Proofs.YtghfofjlafeliaaDoor
