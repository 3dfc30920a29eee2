/-
  Some calls of a closed run come to what is said. Condition: so do the calls in them.
-/
import Derived.Test.YtihcidopklhikaaGreatDoorT0
import Derived.Test.YtihcidopklhikaaGreatDoorD0
import Derived.KernelRfl
open Go Go.Ez
namespace Go.Proofs.YtihcidopklhikaaGreatDoor.cl
set_option maxRecDepth 100000
theorem m30_ok (h : ∀ m ∈ ([] : List Me), MeOk Tryz.prog 1 m) : MeOk Tryz.prog 1 m30 :=
  MeOk.of (orc := deepM Tryz.prog 1 tab [] 100000 60) (deepM_ok tab_ok h 100000 60) (by kernel_rfl) (by kernel_rfl)
theorem m31_ok (h : ∀ m ∈ ([] : List Me), MeOk Tryz.prog 1 m) : MeOk Tryz.prog 1 m31 :=
  MeOk.of (orc := deepM Tryz.prog 1 tab [] 100000 60) (deepM_ok tab_ok h 100000 60) (by kernel_rfl) (by kernel_rfl)
theorem m32_ok (h : ∀ m ∈ ([] : List Me), MeOk Tryz.prog 1 m) : MeOk Tryz.prog 1 m32 :=
  MeOk.of (orc := deepM Tryz.prog 1 tab [] 100000 60) (deepM_ok tab_ok h 100000 60) (by kernel_rfl) (by kernel_rfl)
theorem m33_ok (h : ∀ m ∈ ([] : List Me), MeOk Tryz.prog 1 m) : MeOk Tryz.prog 1 m33 :=
  MeOk.of (orc := deepM Tryz.prog 1 tab [] 100000 60) (deepM_ok tab_ok h 100000 60) (by kernel_rfl) (by kernel_rfl)
theorem m34_ok (h : ∀ m ∈ ([m33, m32, m31] : List Me), MeOk Tryz.prog 1 m) : MeOk Tryz.prog 1 m34 :=
  MeOk.of (orc := deepM Tryz.prog 1 tab [m33, m32, m31] 100000 60) (deepM_ok tab_ok h 100000 60) (by kernel_rfl) (by kernel_rfl)
end Go.Proofs.YtihcidopklhikaaGreatDoor.cl
