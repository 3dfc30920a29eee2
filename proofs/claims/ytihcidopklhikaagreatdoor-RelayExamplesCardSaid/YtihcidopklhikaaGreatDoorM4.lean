/-
  Some calls of a closed run come to what is said. Condition: so do the calls in them.
-/
import Derived.Test.YtihcidopklhikaaGreatDoorT0
import Derived.Test.YtihcidopklhikaaGreatDoorD0
import Derived.KernelRfl
open Go Go.Ez
namespace Go.Proofs.YtihcidopklhikaaGreatDoor.cl
set_option maxRecDepth 100000
theorem m24_ok (h : ∀ m ∈ ([] : List Me), MeOk Tryz.prog 1 m) : MeOk Tryz.prog 1 m24 :=
  MeOk.of (orc := orcD [] 179 Tryz.f179 lm179 223 3) (orcD_ok (by exact h) Tryz.func179 (by kernel_rfl) nop179 ⟨_, Tryz.func223, by decide, by simp [Tryz.f223]⟩) (by kernel_rfl) (by kernel_rfl)
theorem m25_ok (h : ∀ m ∈ ([] : List Me), MeOk Tryz.prog 1 m) : MeOk Tryz.prog 1 m25 :=
  MeOk.of (orc := deepM Tryz.prog 1 tab [] 100000 60) (deepM_ok tab_ok h 100000 60) (by kernel_rfl) (by kernel_rfl)
theorem m26_ok (h : ∀ m ∈ ([] : List Me), MeOk Tryz.prog 1 m) : MeOk Tryz.prog 1 m26 :=
  MeOk.of (orc := deepM Tryz.prog 1 tab [] 100000 60) (deepM_ok tab_ok h 100000 60) (by kernel_rfl) (by kernel_rfl)
theorem m27_ok (h : ∀ m ∈ ([] : List Me), MeOk Tryz.prog 1 m) : MeOk Tryz.prog 1 m27 :=
  MeOk.of (orc := deepM Tryz.prog 1 tab [] 100000 60) (deepM_ok tab_ok h 100000 60) (by kernel_rfl) (by kernel_rfl)
theorem m28_ok (h : ∀ m ∈ ([m27, m26, m25, m24] : List Me), MeOk Tryz.prog 1 m) : MeOk Tryz.prog 1 m28 :=
  MeOk.of (orc := deepM Tryz.prog 1 tab [m27, m26, m25, m24] 100000 60) (deepM_ok tab_ok h 100000 60) (by kernel_rfl) (by kernel_rfl)
theorem m29_ok (h : ∀ m ∈ ([m28, m23, m18] : List Me), MeOk Tryz.prog 1 m) : MeOk Tryz.prog 1 m29 :=
  MeOk.of (orc := deepM Tryz.prog 1 tab [m28, m23, m18] 100000 60) (deepM_ok tab_ok h 100000 60) (by kernel_rfl) (by kernel_rfl)
end Go.Proofs.YtihcidopklhikaaGreatDoor.cl
