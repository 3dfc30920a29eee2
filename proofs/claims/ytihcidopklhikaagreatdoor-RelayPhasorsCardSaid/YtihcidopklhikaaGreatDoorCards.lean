/-
  DERIVED. GIVEN WITH THE SEED: THE CARDS: each row of YtihcidopklhikaaGreatDoorRows.lean that lists a variable, with what it lists TIED to the program's text (the seventh form; the later family's looks); each row that meets fmt, with fmt's text TOLD by the authors' own Lean function (tested against real Go, not proved from fmt's source: count such statements apart). THE CARD IS WHAT COUNTS. Prove the row's statement (the work); the ties are given (YtihcidopklhikaaGreatDoorTie.lean); close each card by the builder's one call (the guide's Derived/Test/ToyasCard.lean, 'card_holds'). Laid BY PROGRAM, IN A SANDBOX (cutbox-door.mjs). By AI agents, Wed Nov 11 2026. No macro, syntax, notation, axiom, sorry.
-/
import Derived.Test.YtihcidopklhikaaGreatDoorRows
import GoSem.ClaimSeven
namespace Go.Proofs.YtihcidopklhikaaGreatDoor
namespace Rows

/-- THE TIED CARD OF 'substationlaw42.RelayPhasors'. -/
def relayPhasorsCard : Claim7 := { stood := { row := relayPhasorsRow, standIns := [], harness := (true, "511a97f59c5f379a3383de423d30f090e69f7f6f91cdd2ca5047362880e9e335"), looks := true }, kinds := [], alts := [], laidByText := true, laidKinds := [.data, .data, .data, .sentinel, .sentinel, .data], laidTests := true, laidLooks := .later }
def RelayPhasorsCardSaid : Prop := Claim7.holds Tryz.pinned (.plain (OpenSpec.ofChange relayPhasorsSpec)) relayPhasorsCard

/-- THE TIED CARD OF 'substationlaw42.RelayExamples'. -/
def relayExamplesCard : Claim7 := { stood := { row := relayExamplesRow, standIns := [], harness := (true, "511a97f59c5f379a3383de423d30f090e69f7f6f91cdd2ca5047362880e9e335"), looks := true }, kinds := [], alts := [], laidByText := true, laidKinds := [.data, .data, .data, .sentinel, .sentinel, .data], laidTests := true, laidLooks := .later }
def RelayExamplesCardSaid : Prop := Claim7.holds Tryz.pinned (.plain (OpenSpec.ofChange relayExamplesSpec)) relayExamplesCard

/-- THE SECOND FORM's CARD OF 'substationlaw42.RelayPhasors'. -/
def relayPhasorsUptoCard : Claim7 := { stood := { row := relayPhasorsUptoRow, standIns := [], harness := (true, "511a97f59c5f379a3383de423d30f090e69f7f6f91cdd2ca5047362880e9e335"), looks := true }, kinds := [], alts := [], laidByText := true, laidKinds := [.data, .data, .data, .sentinel, .sentinel, .data], laidTests := true, laidLooks := .later }
def RelayPhasorsUptoCardSaid : Prop := Claim7.holds Tryz.pinned (.plain (OpenSpec.upto relayPhasorsSpec)) relayPhasorsUptoCard

/-- THE SECOND FORM's CARD OF 'substationlaw42.RelayExamples'. -/
def relayExamplesUptoCard : Claim7 := { stood := { row := relayExamplesUptoRow, standIns := [], harness := (true, "511a97f59c5f379a3383de423d30f090e69f7f6f91cdd2ca5047362880e9e335"), looks := true }, kinds := [], alts := [], laidByText := true, laidKinds := [.data, .data, .data, .sentinel, .sentinel, .data], laidTests := true, laidLooks := .later }
def RelayExamplesUptoCardSaid : Prop := Claim7.holds Tryz.pinned (.plain (OpenSpec.upto relayExamplesSpec)) relayExamplesUptoCard
end Rows
end Go.Proofs.YtihcidopklhikaaGreatDoor
