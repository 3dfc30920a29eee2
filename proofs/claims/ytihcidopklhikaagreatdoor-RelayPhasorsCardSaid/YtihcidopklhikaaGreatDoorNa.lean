/-
  Closed facts of the row of the law, as the program's text gives them. No condition.
-/
import Derived.Test.YtihcidopklhikaaGreatDoorRows
import Derived.JoinedOf
import Derived.KernelRfl
import Derived.RowKit
namespace Go.Proofs.YtihcidopklhikaaGreatDoor.facts
open Go Go.RowKit
set_option maxRecDepth 100000
theorem f_in : (Rows.relayPhasorsRow.inPlace == Tryz.prog.inPlace 3) = true := by kernel_rfl
theorem f_wf : Rows.relayPhasorsRow.wf (OpenSpec.ofChange Rows.relayPhasorsSpec) = true := by kernel_rfl
theorem f_pi : (Rows.relayPhasorsRow.pinned == Rows.relayPhasorsRow.pinnedBy) = true := by kernel_rfl
theorem f_mk : (Tryz.prog.make == some Rows.relayPhasorsRow.make) = true := by kernel_rfl
theorem f_na : (Rows.relayPhasorsRow.named == Tryz.prog.varsNamed 3) = true := by kernel_rfl
end Go.Proofs.YtihcidopklhikaaGreatDoor.facts
