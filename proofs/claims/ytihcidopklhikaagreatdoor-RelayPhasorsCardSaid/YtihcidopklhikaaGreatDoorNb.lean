/-
  Closed facts of the row of the law, as the program's text gives them. No condition.
-/
import Derived.Test.YtihcidopklhikaaGreatDoorRows
import Derived.JoinedOf
import Derived.KernelRfl
import Derived.RowKit
namespace Go.Proofs.YtihcidopklhikaaGreatDoor.facts
open Go Go.RowKit
set_option maxRecDepth 100000
theorem f_un : (Rows.relayPhasorsRow.unfollowed == Tryz.prog.unfollowed 3) = true := by kernel_rfl
theorem f_re : (Rows.relayPhasorsRow.recurses == Tryz.prog.recurses 3) = true := by kernel_rfl
theorem f_sh : Tryz.prog.stopsHeard = true := by kernel_rfl
theorem f_rd : Tryz.f3.params.all (Tryz.prog.readableRec ·) = true := by kernel_rfl
theorem f_nt : namedTie Tryz.prog Rows.relayPhasorsRow.named Rows.relayPhasorsSpec.vars = true := by kernel_rfl
end Go.Proofs.YtihcidopklhikaaGreatDoor.facts
