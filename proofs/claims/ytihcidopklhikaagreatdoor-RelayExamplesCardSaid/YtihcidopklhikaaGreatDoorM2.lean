/-
  Some calls of a closed run come to what is said. Condition: so do the calls in them.
-/
import Derived.Test.YtihcidopklhikaaGreatDoorT0
import Derived.Test.YtihcidopklhikaaGreatDoorD0
import Derived.KernelRfl
open Go Go.Ez
namespace Go.Proofs.YtihcidopklhikaaGreatDoor.cl
set_option maxRecDepth 100000
theorem m11_ok (h : ∀ m ∈ ([] : List Me), MeOk Tryz.prog 1 m) : MeOk Tryz.prog 1 m11 :=
  MeOk.of (orc := deepM Tryz.prog 1 tab [] 100000 60) (deepM_ok tab_ok h 100000 60) (by kernel_rfl) (by kernel_rfl)
theorem m12_ok (h : ∀ m ∈ ([] : List Me), MeOk Tryz.prog 1 m) : MeOk Tryz.prog 1 m12 :=
  MeOk.of (orc := deepM Tryz.prog 1 tab [] 100000 60) (deepM_ok tab_ok h 100000 60) (by kernel_rfl) (by kernel_rfl)
theorem m13_ok (h : ∀ m ∈ ([] : List Me), MeOk Tryz.prog 1 m) : MeOk Tryz.prog 1 m13 :=
  MeOk.of (orc := deepM Tryz.prog 1 tab [] 100000 60) (deepM_ok tab_ok h 100000 60) (by kernel_rfl) (by kernel_rfl)
theorem m14_ok (h : ∀ m ∈ ([m13, m12, m11] : List Me), MeOk Tryz.prog 1 m) : MeOk Tryz.prog 1 m14 :=
  MeOk.of (orc := deepM Tryz.prog 1 tab [m13, m12, m11] 100000 60) (deepM_ok tab_ok h 100000 60) (by kernel_rfl) (by kernel_rfl)
theorem m15_ok (h : ∀ m ∈ ([] : List Me), MeOk Tryz.prog 1 m) : MeOk Tryz.prog 1 m15 :=
  MeOk.of (orc := deepM Tryz.prog 1 tab [] 100000 60) (deepM_ok tab_ok h 100000 60) (by kernel_rfl) (by kernel_rfl)
end Go.Proofs.YtihcidopklhikaaGreatDoor.cl
