/-
  Some calls of a closed run come to what is said. Condition: so do the calls in them.
-/
import Derived.Test.YtihcidopklhikaaGreatDoorT0
import Derived.Test.YtihcidopklhikaaGreatDoorD0
import Derived.KernelRfl
open Go Go.Ez
namespace Go.Proofs.YtihcidopklhikaaGreatDoor.cl
set_option maxRecDepth 100000
theorem m0_ok (h : ∀ m ∈ ([] : List Me), MeOk Tryz.prog 1 m) : MeOk Tryz.prog 1 m0 :=
  MeOk.of (orc := deepM Tryz.prog 1 tab [] 100000 60) (deepM_ok tab_ok h 100000 60) (by kernel_rfl) (by kernel_rfl)
theorem m1_ok (h : ∀ m ∈ ([] : List Me), MeOk Tryz.prog 1 m) : MeOk Tryz.prog 1 m1 :=
  MeOk.of (orc := deepM Tryz.prog 1 tab [] 100000 60) (deepM_ok tab_ok h 100000 60) (by kernel_rfl) (by kernel_rfl)
theorem m2_ok (h : ∀ m ∈ ([] : List Me), MeOk Tryz.prog 1 m) : MeOk Tryz.prog 1 m2 :=
  MeOk.of (orc := deepM Tryz.prog 1 tab [] 100000 60) (deepM_ok tab_ok h 100000 60) (by kernel_rfl) (by kernel_rfl)
theorem m3_ok (h : ∀ m ∈ ([] : List Me), MeOk Tryz.prog 1 m) : MeOk Tryz.prog 1 m3 :=
  MeOk.of (orc := deepM Tryz.prog 1 tab [] 100000 60) (deepM_ok tab_ok h 100000 60) (by kernel_rfl) (by kernel_rfl)
theorem m4_ok (h : ∀ m ∈ ([m3, m2, m1] : List Me), MeOk Tryz.prog 1 m) : MeOk Tryz.prog 1 m4 :=
  MeOk.of (orc := deepM Tryz.prog 1 tab [m3, m2, m1] 100000 60) (deepM_ok tab_ok h 100000 60) (by kernel_rfl) (by kernel_rfl)
end Go.Proofs.YtihcidopklhikaaGreatDoor.cl
