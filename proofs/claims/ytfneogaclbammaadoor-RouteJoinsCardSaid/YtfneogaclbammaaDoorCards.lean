/-
  DERIVED. GIVEN WITH THE SEED: THE CARDS: each row of YtfneogaclbammaaDoorRows.lean that lists a variable, with what it lists TIED to the program's text (the seventh form; the later family's looks); each row that meets fmt, with fmt's text TOLD by the authors' own Lean function (tested against real Go, not proved from fmt's source: count such statements apart). THE CARD IS WHAT COUNTS. Prove the row's statement (the work); the ties are given (YtfneogaclbammaaDoorTie.lean); close each card by the builder's one call (the guide's Derived/Test/ToyasCard.lean, 'card_holds'). Laid BY PROGRAM, IN A SANDBOX (cutbox-door.mjs). By AI agents, Wed Nov 11 2026. No macro, syntax, notation, axiom, sorry.
-/
import Derived.Test.YtfneogaclbammaaDoorRows
import GoSem.ClaimSeven
namespace Go.Proofs.YtfneogaclbammaaDoor
namespace Rows

/-- THE TIED CARD OF 'becketlaw02.RouteUnder'. -/
def routeUnderCard : Claim7 := { stood := { row := routeUnderRow, standIns := [], harness := (true, "0c6da15c321007d686f6fb21eedd065b78ddf19b1a1eab770073d9033183501e"), looks := true }, kinds := [], alts := [], laidByText := true, laidKinds := [.data, .pinned], laidTests := true, laidLooks := .later }
def RouteUnderCardSaid : Prop := Claim7.holds Tryd.pinned (.plain (OpenSpec.ofChange routeUnderSpec)) routeUnderCard

/-- THE TIED CARD OF 'becketlaw02.RoutePaths'. -/
def routePathsCard : Claim7 := { stood := { row := routePathsRow, standIns := [], harness := (true, "0c6da15c321007d686f6fb21eedd065b78ddf19b1a1eab770073d9033183501e"), looks := true }, kinds := [], alts := [], laidByText := true, laidKinds := [.data, .pinned], laidTests := true, laidLooks := .later }
def RoutePathsCardSaid : Prop := Claim7.holds Tryd.pinned (.plain (OpenSpec.ofChange routePathsSpec)) routePathsCard

/-- THE TIED CARD OF 'becketlaw02.RouteJoins'. -/
def routeJoinsCard : Claim7 := { stood := { row := routeJoinsRow, standIns := [], harness := (true, "0c6da15c321007d686f6fb21eedd065b78ddf19b1a1eab770073d9033183501e"), looks := true }, kinds := [], alts := [], laidByText := true, laidKinds := [.data, .pinned], laidTests := true, laidLooks := .later }
def RouteJoinsCardSaid : Prop := Claim7.holds Tryd.pinned (.plain (OpenSpec.ofChange routeJoinsSpec)) routeJoinsCard

/-- THE TIED CARD OF 'becketlaw02.RouteBack'. -/
def routeBackCard : Claim7 := { stood := { row := routeBackRow, standIns := [], harness := (true, "0c6da15c321007d686f6fb21eedd065b78ddf19b1a1eab770073d9033183501e"), looks := true }, kinds := [], alts := [], laidByText := true, laidKinds := [.data, .pinned], laidTests := true, laidLooks := .later }
def RouteBackCardSaid : Prop := Claim7.holds Tryd.pinned (.plain (OpenSpec.ofChange routeBackSpec)) routeBackCard

/-- THE SECOND FORM's CARD OF 'becketlaw02.RouteUnder'. -/
def routeUnderUptoCard : Claim7 := { stood := { row := routeUnderUptoRow, standIns := [], harness := (true, "0c6da15c321007d686f6fb21eedd065b78ddf19b1a1eab770073d9033183501e"), looks := true }, kinds := [], alts := [], laidByText := true, laidKinds := [.data, .pinned], laidTests := true, laidLooks := .later }
def RouteUnderUptoCardSaid : Prop := Claim7.holds Tryd.pinned (.plain (OpenSpec.upto routeUnderSpec)) routeUnderUptoCard

/-- THE SECOND FORM's CARD OF 'becketlaw02.RoutePaths'. -/
def routePathsUptoCard : Claim7 := { stood := { row := routePathsUptoRow, standIns := [], harness := (true, "0c6da15c321007d686f6fb21eedd065b78ddf19b1a1eab770073d9033183501e"), looks := true }, kinds := [], alts := [], laidByText := true, laidKinds := [.data, .pinned], laidTests := true, laidLooks := .later }
def RoutePathsUptoCardSaid : Prop := Claim7.holds Tryd.pinned (.plain (OpenSpec.upto routePathsSpec)) routePathsUptoCard

/-- THE SECOND FORM's CARD OF 'becketlaw02.RouteJoins'. -/
def routeJoinsUptoCard : Claim7 := { stood := { row := routeJoinsUptoRow, standIns := [], harness := (true, "0c6da15c321007d686f6fb21eedd065b78ddf19b1a1eab770073d9033183501e"), looks := true }, kinds := [], alts := [], laidByText := true, laidKinds := [.data, .pinned], laidTests := true, laidLooks := .later }
def RouteJoinsUptoCardSaid : Prop := Claim7.holds Tryd.pinned (.plain (OpenSpec.upto routeJoinsSpec)) routeJoinsUptoCard

/-- THE SECOND FORM's CARD OF 'becketlaw02.RouteBack'. -/
def routeBackUptoCard : Claim7 := { stood := { row := routeBackUptoRow, standIns := [], harness := (true, "0c6da15c321007d686f6fb21eedd065b78ddf19b1a1eab770073d9033183501e"), looks := true }, kinds := [], alts := [], laidByText := true, laidKinds := [.data, .pinned], laidTests := true, laidLooks := .later }
def RouteBackUptoCardSaid : Prop := Claim7.holds Tryd.pinned (.plain (OpenSpec.upto routeBackSpec)) routeBackUptoCard
end Rows
end Go.Proofs.YtfneogaclbammaaDoor
