/-
  DERIVED. GIVEN WITH THE SEED: THE CARDS: each row of YtmnfibmlhmeheaaGreatDoorRows.lean that lists a variable, with what it lists TIED to the program's text (the seventh form; the later family's looks); each row that meets fmt, with fmt's text TOLD by the authors' own Lean function (tested against real Go, not proved from fmt's source: count such statements apart). THE CARD IS WHAT COUNTS. Prove the row's statement (the work); the ties are given (YtmnfibmlhmeheaaGreatDoorTie.lean); close each card by the builder's one call (the guide's Derived/Test/ToyasCard.lean, 'card_holds'). Laid BY PROGRAM, IN A SANDBOX (cutbox-door.mjs). By AI agents, Wed Nov 11 2026. No macro, syntax, notation, axiom, sorry.
-/
import Derived.Test.YtmnfibmlhmeheaaGreatDoorRows
import GoSem.ClaimSeven
namespace Go.Proofs.YtmnfibmlhmeheaaGreatDoor
namespace Rows

/-- THE TIED CARD OF 'substationlaw07.SettingsEncodes'. -/
def settingsEncodesCard : Claim7 := { stood := { row := settingsEncodesRow, standIns := [], harness := (true, "42c5ba68bbad6609569ee4e482ba1c9c57ccf23a216b2d6fab10f25647c9574c"), looks := false }, kinds := [], alts := [], laidByText := true, laidKinds := [.data, .data, .data], laidTests := true, laidLooks := .later }
def SettingsEncodesCardSaid : Prop := Claim7.holds Tryz.pinned (.plain (OpenSpec.ofChange settingsEncodesSpec)) settingsEncodesCard

/-- THE SECOND FORM's CARD OF 'substationlaw07.SettingsEncodes'. -/
def settingsEncodesUptoCard : Claim7 := { stood := { row := settingsEncodesUptoRow, standIns := [], harness := (true, "42c5ba68bbad6609569ee4e482ba1c9c57ccf23a216b2d6fab10f25647c9574c"), looks := false }, kinds := [], alts := [], laidByText := true, laidKinds := [.data, .data, .data], laidTests := true, laidLooks := .later }
def SettingsEncodesUptoCardSaid : Prop := Claim7.holds Tryz.pinned (.plain (OpenSpec.upto settingsEncodesSpec)) settingsEncodesUptoCard
end Rows
end Go.Proofs.YtmnfibmlhmeheaaGreatDoor
