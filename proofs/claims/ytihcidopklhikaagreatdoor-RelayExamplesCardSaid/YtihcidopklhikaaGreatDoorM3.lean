/-
  Some calls of a closed run come to what is said. Condition: so do the calls in them.
-/
import Derived.Test.YtihcidopklhikaaGreatDoorT0
import Derived.Test.YtihcidopklhikaaGreatDoorD0
import Derived.KernelRfl
open Go Go.Ez
namespace Go.Proofs.YtihcidopklhikaaGreatDoor.cl
set_option maxRecDepth 100000
theorem m16_ok (h : ∀ m ∈ ([m15, m14, m10] : List Me), MeOk Tryz.prog 1 m) : MeOk Tryz.prog 1 m16 :=
  MeOk.of (orc := deepM Tryz.prog 1 tab [m15, m14, m10] 100000 60) (deepM_ok tab_ok h 100000 60) (by kernel_rfl) (by kernel_rfl)
theorem m17_ok (h : ∀ m ∈ ([] : List Me), MeOk Tryz.prog 1 m) : MeOk Tryz.prog 1 m17 :=
  MeOk.of (orc := orcD [] 179 Tryz.f179 lm179 223 3) (orcD_ok (by exact h) Tryz.func179 (by kernel_rfl) nop179 ⟨_, Tryz.func223, by decide, by simp [Tryz.f223]⟩) (by kernel_rfl) (by kernel_rfl)
theorem m18_ok (h : ∀ m ∈ ([m17] : List Me), MeOk Tryz.prog 1 m) : MeOk Tryz.prog 1 m18 :=
  MeOk.of (orc := deepM Tryz.prog 1 tab [m17] 100000 60) (deepM_ok tab_ok h 100000 60) (by kernel_rfl) (by kernel_rfl)
theorem m19_ok (h : ∀ m ∈ ([] : List Me), MeOk Tryz.prog 1 m) : MeOk Tryz.prog 1 m19 :=
  MeOk.of (orc := orcD [] 179 Tryz.f179 lm179 223 3) (orcD_ok (by exact h) Tryz.func179 (by kernel_rfl) nop179 ⟨_, Tryz.func223, by decide, by simp [Tryz.f223]⟩) (by kernel_rfl) (by kernel_rfl)
theorem m20_ok (h : ∀ m ∈ ([] : List Me), MeOk Tryz.prog 1 m) : MeOk Tryz.prog 1 m20 :=
  MeOk.of (orc := deepM Tryz.prog 1 tab [] 100000 60) (deepM_ok tab_ok h 100000 60) (by kernel_rfl) (by kernel_rfl)
theorem m21_ok (h : ∀ m ∈ ([] : List Me), MeOk Tryz.prog 1 m) : MeOk Tryz.prog 1 m21 :=
  MeOk.of (orc := deepM Tryz.prog 1 tab [] 100000 60) (deepM_ok tab_ok h 100000 60) (by kernel_rfl) (by kernel_rfl)
theorem m22_ok (h : ∀ m ∈ ([] : List Me), MeOk Tryz.prog 1 m) : MeOk Tryz.prog 1 m22 :=
  MeOk.of (orc := deepM Tryz.prog 1 tab [] 100000 60) (deepM_ok tab_ok h 100000 60) (by kernel_rfl) (by kernel_rfl)
theorem m23_ok (h : ∀ m ∈ ([m22, m21, m20, m19] : List Me), MeOk Tryz.prog 1 m) : MeOk Tryz.prog 1 m23 :=
  MeOk.of (orc := deepM Tryz.prog 1 tab [m22, m21, m20, m19] 100000 60) (deepM_ok tab_ok h 100000 60) (by kernel_rfl) (by kernel_rfl)
end Go.Proofs.YtihcidopklhikaaGreatDoor.cl
