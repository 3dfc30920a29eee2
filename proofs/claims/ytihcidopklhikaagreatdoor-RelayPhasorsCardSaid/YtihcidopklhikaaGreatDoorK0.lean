/-
  Some calls of a closed run come to what is said. Condition: so do the calls in them.
-/
import Derived.Test.YtihcidopklhikaaGreatDoorT0
import Derived.Test.YtihcidopklhikaaGreatDoorD0
import Derived.KernelRfl
open Go Go.Ez
namespace Go.Proofs.YtihcidopklhikaaGreatDoor.cl
set_option maxRecDepth 100000
theorem m40_ok (h : ∀ m ∈ ([] : List Me), MeOk Tryz.prog 1 m) : MeOk Tryz.prog 1 m40 :=
  MeOk.of (orc := deepM Tryz.prog 1 tab [] 100000 60) (deepM_ok tab_ok h 100000 60) (by kernel_rfl) (by kernel_rfl)
theorem m41_ok (h : ∀ m ∈ ([] : List Me), MeOk Tryz.prog 1 m) : MeOk Tryz.prog 1 m41 :=
  MeOk.of (orc := deepM Tryz.prog 1 tab [] 100000 60) (deepM_ok tab_ok h 100000 60) (by kernel_rfl) (by kernel_rfl)
theorem m42_ok (h : ∀ m ∈ ([] : List Me), MeOk Tryz.prog 1 m) : MeOk Tryz.prog 1 m42 :=
  MeOk.of (orc := deepM Tryz.prog 1 tab [] 100000 60) (deepM_ok tab_ok h 100000 60) (by kernel_rfl) (by kernel_rfl)
theorem m43_ok (h : ∀ m ∈ ([] : List Me), MeOk Tryz.prog 1 m) : MeOk Tryz.prog 1 m43 :=
  MeOk.of (orc := deepM Tryz.prog 1 tab [] 100000 60) (deepM_ok tab_ok h 100000 60) (by kernel_rfl) (by kernel_rfl)
theorem m44_ok (h : ∀ m ∈ ([m43, m42, m41] : List Me), MeOk Tryz.prog 1 m) : MeOk Tryz.prog 1 m44 :=
  MeOk.of (orc := deepM Tryz.prog 1 tab [m43, m42, m41] 100000 60) (deepM_ok tab_ok h 100000 60) (by kernel_rfl) (by kernel_rfl)
end Go.Proofs.YtihcidopklhikaaGreatDoor.cl
