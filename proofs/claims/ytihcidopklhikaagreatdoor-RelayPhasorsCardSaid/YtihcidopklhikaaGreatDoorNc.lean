/-
  Closed facts of the row of the law, as the program's text gives them. No condition.
-/
import Derived.Test.YtihcidopklhikaaGreatDoorRows
import Derived.JoinedOf
import Derived.KernelRfl
import Derived.RowKit
namespace Go.Proofs.YtihcidopklhikaaGreatDoor.facts
open Go Go.RowKit
set_option maxRecDepth 100000
theorem f_la : laidOutB Tryz.prog = true := by kernel_rfl
theorem f_ma : mapsRowed Tryz.prog = true := by kernel_rfl
theorem f_pk : (Rows.relayPhasorsRow.plainKeys == Tryz.prog.plainKeys) = true := by kernel_rfl
theorem f_me : Tryz.prog.mayEnter = true := by kernel_rfl
theorem f_li : (Rows.relayPhasorsRow.lifted == Tryz.prog.liftsFinal) = true := by kernel_rfl
end Go.Proofs.YtihcidopklhikaaGreatDoor.facts
