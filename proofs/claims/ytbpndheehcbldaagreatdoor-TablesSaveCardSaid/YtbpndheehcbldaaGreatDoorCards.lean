/-
  DERIVED. GIVEN WITH THE SEED: THE CARDS: each row of YtbpndheehcbldaaGreatDoorRows.lean that lists a variable, with what it lists TIED to the program's text (the seventh form; the later family's looks); each row that meets fmt, with fmt's text TOLD by the authors' own Lean function (tested against real Go, not proved from fmt's source: count such statements apart). THE CARD IS WHAT COUNTS. Prove the row's statement (the work); the ties are given (YtbpndheehcbldaaGreatDoorTie.lean); close each card by the builder's one call (the guide's Derived/Test/ToyasCard.lean, 'card_holds'). Laid BY PROGRAM, IN A SANDBOX (cutbox-door.mjs). By AI agents, Wed Nov 11 2026. No macro, syntax, notation, axiom, sorry.
-/
import Derived.Test.YtbpndheehcbldaaGreatDoorRows
import GoSem.ClaimSeven
namespace Go.Proofs.YtbpndheehcbldaaGreatDoor
namespace Rows

/-- THE TIED CARD OF 'substationlaw09.TablesCompile'. -/
def tablesCompileCard : Claim7 := { stood := { row := tablesCompileRow, standIns := [], harness := (true, "4c4322e6266ffede5b963eac051be684368d9115c0bce10eec2c9b699db92fd8"), looks := false }, kinds := [], alts := [], laidByText := true, laidKinds := [.data, .data, .data], laidTests := true, laidLooks := .later }
def TablesCompileCardSaid : Prop := Claim7.holds Tryz.pinned (.plain (OpenSpec.ofChange tablesCompileSpec)) tablesCompileCard

/-- THE TIED CARD OF 'substationlaw09.TablesInputs'. -/
def tablesInputsCard : Claim7 := { stood := { row := tablesInputsRow, standIns := [], harness := (true, "4c4322e6266ffede5b963eac051be684368d9115c0bce10eec2c9b699db92fd8"), looks := false }, kinds := [], alts := [], laidByText := true, laidKinds := [.data, .data, .data], laidTests := true, laidLooks := .later }
def TablesInputsCardSaid : Prop := Claim7.holds Tryz.pinned (.plain (OpenSpec.ofChange tablesInputsSpec)) tablesInputsCard

/-- THE TIED CARD OF 'substationlaw09.TablesSends'. -/
def tablesSendsCard : Claim7 := { stood := { row := tablesSendsRow, standIns := [], harness := (true, "4c4322e6266ffede5b963eac051be684368d9115c0bce10eec2c9b699db92fd8"), looks := false }, kinds := [], alts := [], laidByText := true, laidKinds := [.data, .data, .data], laidTests := true, laidLooks := .later }
def TablesSendsCardSaid : Prop := Claim7.holds Tryz.pinned (.plain (OpenSpec.ofChange tablesSendsSpec)) tablesSendsCard

/-- THE TIED CARD OF 'substationlaw09.TablesSave'. -/
def tablesSaveCard : Claim7 := { stood := { row := tablesSaveRow, standIns := [], harness := (true, "4c4322e6266ffede5b963eac051be684368d9115c0bce10eec2c9b699db92fd8"), looks := false }, kinds := [], alts := [], laidByText := true, laidKinds := [.data, .data, .data], laidTests := true, laidLooks := .later }
def TablesSaveCardSaid : Prop := Claim7.holds Tryz.pinned (.plain (OpenSpec.ofChange tablesSaveSpec)) tablesSaveCard

/-- THE SECOND FORM's CARD OF 'substationlaw09.TablesCompile'. -/
def tablesCompileUptoCard : Claim7 := { stood := { row := tablesCompileUptoRow, standIns := [], harness := (true, "4c4322e6266ffede5b963eac051be684368d9115c0bce10eec2c9b699db92fd8"), looks := false }, kinds := [], alts := [], laidByText := true, laidKinds := [.data, .data, .data], laidTests := true, laidLooks := .later }
def TablesCompileUptoCardSaid : Prop := Claim7.holds Tryz.pinned (.plain (OpenSpec.upto tablesCompileSpec)) tablesCompileUptoCard

/-- THE SECOND FORM's CARD OF 'substationlaw09.TablesInputs'. -/
def tablesInputsUptoCard : Claim7 := { stood := { row := tablesInputsUptoRow, standIns := [], harness := (true, "4c4322e6266ffede5b963eac051be684368d9115c0bce10eec2c9b699db92fd8"), looks := false }, kinds := [], alts := [], laidByText := true, laidKinds := [.data, .data, .data], laidTests := true, laidLooks := .later }
def TablesInputsUptoCardSaid : Prop := Claim7.holds Tryz.pinned (.plain (OpenSpec.upto tablesInputsSpec)) tablesInputsUptoCard

/-- THE SECOND FORM's CARD OF 'substationlaw09.TablesSends'. -/
def tablesSendsUptoCard : Claim7 := { stood := { row := tablesSendsUptoRow, standIns := [], harness := (true, "4c4322e6266ffede5b963eac051be684368d9115c0bce10eec2c9b699db92fd8"), looks := false }, kinds := [], alts := [], laidByText := true, laidKinds := [.data, .data, .data], laidTests := true, laidLooks := .later }
def TablesSendsUptoCardSaid : Prop := Claim7.holds Tryz.pinned (.plain (OpenSpec.upto tablesSendsSpec)) tablesSendsUptoCard

/-- THE SECOND FORM's CARD OF 'substationlaw09.TablesSave'. -/
def tablesSaveUptoCard : Claim7 := { stood := { row := tablesSaveUptoRow, standIns := [], harness := (true, "4c4322e6266ffede5b963eac051be684368d9115c0bce10eec2c9b699db92fd8"), looks := false }, kinds := [], alts := [], laidByText := true, laidKinds := [.data, .data, .data], laidTests := true, laidLooks := .later }
def TablesSaveUptoCardSaid : Prop := Claim7.holds Tryz.pinned (.plain (OpenSpec.upto tablesSaveSpec)) tablesSaveUptoCard
end Rows
end Go.Proofs.YtbpndheehcbldaaGreatDoor
