/-
  Some calls of a closed run come to what is said. Condition: so do the calls in them.
-/
import Derived.Test.YtihcidopklhikaaGreatDoorT0
import Derived.Test.YtihcidopklhikaaGreatDoorD0
import Derived.KernelRfl
open Go Go.Ez
namespace Go.Proofs.YtihcidopklhikaaGreatDoor.cl
set_option maxRecDepth 100000
theorem m45_ok (h : ∀ m ∈ ([] : List Me), MeOk Tryz.prog 1 m) : MeOk Tryz.prog 1 m45 :=
  MeOk.of (orc := deepM Tryz.prog 1 tab [] 100000 60) (deepM_ok tab_ok h 100000 60) (by kernel_rfl) (by kernel_rfl)
theorem m46_ok (h : ∀ m ∈ ([] : List Me), MeOk Tryz.prog 1 m) : MeOk Tryz.prog 1 m46 :=
  MeOk.of (orc := deepM Tryz.prog 1 tab [] 100000 60) (deepM_ok tab_ok h 100000 60) (by kernel_rfl) (by kernel_rfl)
theorem m47_ok (h : ∀ m ∈ ([] : List Me), MeOk Tryz.prog 1 m) : MeOk Tryz.prog 1 m47 :=
  MeOk.of (orc := deepM Tryz.prog 1 tab [] 100000 60) (deepM_ok tab_ok h 100000 60) (by kernel_rfl) (by kernel_rfl)
theorem m48_ok (h : ∀ m ∈ ([m47, m46, m45] : List Me), MeOk Tryz.prog 1 m) : MeOk Tryz.prog 1 m48 :=
  MeOk.of (orc := deepM Tryz.prog 1 tab [m47, m46, m45] 100000 60) (deepM_ok tab_ok h 100000 60) (by kernel_rfl) (by kernel_rfl)
theorem m49_ok (h : ∀ m ∈ ([m48, m44, m40] : List Me), MeOk Tryz.prog 1 m) : MeOk Tryz.prog 1 m49 :=
  MeOk.of (orc := deepM Tryz.prog 1 tab [m48, m44, m40] 100000 60) (deepM_ok tab_ok h 100000 60) (by kernel_rfl) (by kernel_rfl)
theorem m50_ok (h : ∀ m ∈ ([m49] : List Me), MeOk Tryz.prog 1 m) : MeOk Tryz.prog 1 m50 :=
  MeOk.of (orc := deepM Tryz.prog 1 tab [m49] 100000 60) (deepM_ok tab_ok h 100000 60) (by kernel_rfl) (by kernel_rfl)
end Go.Proofs.YtihcidopklhikaaGreatDoor.cl
