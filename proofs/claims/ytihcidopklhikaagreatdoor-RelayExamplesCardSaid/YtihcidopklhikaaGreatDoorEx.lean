/-
  RelayExamples returns true: the fixed cases of the law, run in full; its listed variables are tied to the program's text. No condition.
-/
import Derived.Test.YtihcidopklhikaaGreatDoorLe
import Derived.Test.YtihcidopklhikaaGreatDoorMz
namespace Go.Proofs.YtihcidopklhikaaGreatDoor.examples
open Go Go.Ez Go.Proofs.YtihcidopklhikaaGreatDoor.cl
set_option maxRecDepth 100000
theorem proved : Rows.RelayExamplesCardSaid := carded (m := m51) rfl rfl rfl rfl (by decide) m51_all
end Go.Proofs.YtihcidopklhikaaGreatDoor.examples
