/-
  Some calls of a closed run come to what is said. Condition: so do the calls in them.
-/
import Derived.Test.YtihcidopklhikaaGreatDoorT0
import Derived.Test.YtihcidopklhikaaGreatDoorD0
import Derived.KernelRfl
open Go Go.Ez
namespace Go.Proofs.YtihcidopklhikaaGreatDoor.cl
set_option maxRecDepth 100000
theorem m51_ok (h : ∀ m ∈ ([m50, m39, m38, m37, m36, m35, m29, m16, m9] : List Me), MeOk Tryz.prog 1 m) : MeOk Tryz.prog 1 m51 :=
  MeOk.of (orc := deepM Tryz.prog 1 tab [m50, m39, m38, m37, m36, m35, m29, m16, m9] 100000 60) (deepM_ok tab_ok h 100000 60) (by kernel_rfl) (by kernel_rfl)
end Go.Proofs.YtihcidopklhikaaGreatDoor.cl
