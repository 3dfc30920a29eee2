/-
  Closed facts of the row of the law, as the program's text gives them. No condition.
-/
import Derived.Test.YtihcidopklhikaaGreatDoorRows
import Derived.JoinedOf
import Derived.KernelRfl
import Derived.RowKit
namespace Go.Proofs.YtihcidopklhikaaGreatDoor.facts
open Go Go.RowKit
set_option maxRecDepth 100000
theorem f_in : (Rows.relayExamplesRow.inPlace == Tryz.prog.inPlace 4) = true := by kernel_rfl
theorem f_wf : Rows.relayExamplesRow.wf (OpenSpec.ofChange Rows.relayExamplesSpec) = true := by kernel_rfl
theorem f_pi : (Rows.relayExamplesRow.pinned == Rows.relayExamplesRow.pinnedBy) = true := by kernel_rfl
theorem f_mk : (Tryz.prog.make == some Rows.relayExamplesRow.make) = true := by kernel_rfl
theorem f_na : (Rows.relayExamplesRow.named == Tryz.prog.varsNamed 4) = true := by kernel_rfl
end Go.Proofs.YtihcidopklhikaaGreatDoor.facts
