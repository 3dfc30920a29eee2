/-
  DERIVED. GIVEN WITH THE SEED: THE CARDS: each row of YthmapnolgdpkbaaDoorRows.lean that lists a variable, with what it lists TIED to the program's text (the seventh form; the later family's looks); each row that meets fmt, with fmt's text TOLD by the authors' own Lean function (tested against real Go, not proved from fmt's source: count such statements apart). THE CARD IS WHAT COUNTS. Prove the row's statement (the work); the ties are given (YthmapnolgdpkbaaDoorTie.lean); close each card by the builder's one call (the guide's Derived/Test/ToyasCard.lean, 'card_holds'). Laid BY PROGRAM, IN A SANDBOX (cutbox-door.mjs). By AI agents, Wed Nov 11 2026. No macro, syntax, notation, axiom, sorry.
-/
import Derived.Test.YthmapnolgdpkbaaDoorRows
import GoSem.ClaimSeven
namespace Go.Proofs.YthmapnolgdpkbaaDoor
namespace Rows

/-- THE TIED CARD OF 'substationlaw05.StationEncodes'. -/
def stationEncodesCard : Claim7 := { stood := { row := stationEncodesRow, standIns := [], harness := (true, "aaa3fc61e1ea5b1de0c8233b6033df7220c34c92cd50e080dea110f7a8742b0f"), looks := false }, kinds := [], alts := [], laidByText := true, laidKinds := [.data, .data, .data], laidTests := true, laidLooks := .later }
def StationEncodesCardSaid : Prop := Claim7.holds Tryd.pinned (.plain (OpenSpec.ofChange stationEncodesSpec)) stationEncodesCard

/-- THE TIED CARD OF 'substationlaw05.StationRoundTrip'. -/
def stationRoundTripCard : Claim7 := { stood := { row := stationRoundTripRow, standIns := [], harness := (true, "aaa3fc61e1ea5b1de0c8233b6033df7220c34c92cd50e080dea110f7a8742b0f"), looks := false }, kinds := [], alts := [], laidByText := true, laidKinds := [.data, .data, .data], laidTests := true, laidLooks := .later }
def StationRoundTripCardSaid : Prop := Claim7.holds Tryd.pinned (.plain (OpenSpec.ofChange stationRoundTripSpec)) stationRoundTripCard

/-- THE SECOND FORM's CARD OF 'substationlaw05.StationEncodes'. -/
def stationEncodesUptoCard : Claim7 := { stood := { row := stationEncodesUptoRow, standIns := [], harness := (true, "aaa3fc61e1ea5b1de0c8233b6033df7220c34c92cd50e080dea110f7a8742b0f"), looks := false }, kinds := [], alts := [], laidByText := true, laidKinds := [.data, .data, .data], laidTests := true, laidLooks := .later }
def StationEncodesUptoCardSaid : Prop := Claim7.holds Tryd.pinned (.plain (OpenSpec.upto stationEncodesSpec)) stationEncodesUptoCard

/-- THE SECOND FORM's CARD OF 'substationlaw05.StationRoundTrip'. -/
def stationRoundTripUptoCard : Claim7 := { stood := { row := stationRoundTripUptoRow, standIns := [], harness := (true, "aaa3fc61e1ea5b1de0c8233b6033df7220c34c92cd50e080dea110f7a8742b0f"), looks := false }, kinds := [], alts := [], laidByText := true, laidKinds := [.data, .data, .data], laidTests := true, laidLooks := .later }
def StationRoundTripUptoCardSaid : Prop := Claim7.holds Tryd.pinned (.plain (OpenSpec.upto stationRoundTripSpec)) stationRoundTripUptoCard
end Rows
end Go.Proofs.YthmapnolgdpkbaaDoor
