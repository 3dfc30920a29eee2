/-
  Closed facts of the row of the law, as the program's text gives them. No condition.
-/
import Derived.Test.YtihcidopklhikaaGreatDoorRows
import Derived.JoinedOf
import Derived.KernelRfl
import Derived.RowKit
namespace Go.Proofs.YtihcidopklhikaaGreatDoor.facts
open Go Go.RowKit
set_option maxRecDepth 100000
theorem f_un : (Rows.relayExamplesRow.unfollowed == Tryz.prog.unfollowed 4) = true := by kernel_rfl
theorem f_re : (Rows.relayExamplesRow.recurses == Tryz.prog.recurses 4) = true := by kernel_rfl
theorem f_sh : Tryz.prog.stopsHeard = true := by kernel_rfl
theorem f_rd : Tryz.f4.params.all (Tryz.prog.readableRec ·) = true := by kernel_rfl
theorem f_nt : namedTie Tryz.prog Rows.relayExamplesRow.named Rows.relayExamplesSpec.vars = true := by kernel_rfl
end Go.Proofs.YtihcidopklhikaaGreatDoor.facts
