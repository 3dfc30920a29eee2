/-
  Some calls of a closed run come to what is said. Condition: so do the calls in them.
-/
import Derived.Test.YtihcidopklhikaaGreatDoorK0
import Derived.Test.YtihcidopklhikaaGreatDoorD0
import Derived.KernelRfl
open Go Go.Ez
namespace Go.Proofs.YtihcidopklhikaaGreatDoor.cl
set_option maxRecDepth 100000
theorem m45_ok (h : ∀ m ∈ ([] : List Me), MeOk Tryz.prog 1 m) : MeOk Tryz.prog 1 m45 :=
  MeOk.of (orc := deepM Tryz.prog 1 tab [] 100000 60) (deepM_ok tab_ok h 100000 60) (by kernel_rfl) (by kernel_rfl)
theorem m46_ok (h : ∀ m ∈ ([] : List Me), MeOk Tryz.prog 1 m) : MeOk Tryz.prog 1 m46 :=
  MeOk.of (orc := deepM Tryz.prog 1 tab [] 100000 60) (deepM_ok tab_ok h 100000 60) (by kernel_rfl) (by kernel_rfl)
theorem m47_ok (h : ∀ m ∈ ([] : List Me), MeOk Tryz.prog 1 m) : MeOk Tryz.prog 1 m47 :=
  MeOk.of (orc := deepM Tryz.prog 1 tab [] 100000 60) (deepM_ok tab_ok h 100000 60) (by kernel_rfl) (by kernel_rfl)
theorem m48_ok (h : ∀ m ∈ ([m47, m46, m45] : List Me), MeOk Tryz.prog 1 m) : MeOk Tryz.prog 1 m48 :=
  MeOk.of (orc := deepM Tryz.prog 1 tab [m47, m46, m45] 100000 60) (deepM_ok tab_ok h 100000 60) (by kernel_rfl) (by kernel_rfl)
theorem m49_ok (h : ∀ m ∈ ([m48, m44, m40] : List Me), MeOk Tryz.prog 1 m) : MeOk Tryz.prog 1 m49 :=
  MeOk.of (orc := deepM Tryz.prog 1 tab [m48, m44, m40] 100000 60) (deepM_ok tab_ok h 100000 60) (by kernel_rfl) (by kernel_rfl)
theorem m50_ok (h : ∀ m ∈ ([m49] : List Me), MeOk Tryz.prog 1 m) : MeOk Tryz.prog 1 m50 :=
  MeOk.of (orc := deepM Tryz.prog 1 tab [m49] 100000 60) (deepM_ok tab_ok h 100000 60) (by kernel_rfl) (by kernel_rfl)
theorem all_nil {P : Program} {G : Nat} : ∀ m ∈ ([] : List Me), MeOk P G m := fun m h => by simp at h
theorem all_cons {P : Program} {G : Nat} {x : Me} {l : List Me} (h : MeOk P G x) (t : ∀ m ∈ l, MeOk P G m) : ∀ m ∈ x :: l, MeOk P G m := fun m hm => by
  rcases List.mem_cons.1 hm with rfl | hm
  · exact h
  · exact t m hm
theorem m40_all : MeOk Tryz.prog 1 m40 := m40_ok <| all_nil
theorem m41_all : MeOk Tryz.prog 1 m41 := m41_ok <| all_nil
theorem m42_all : MeOk Tryz.prog 1 m42 := m42_ok <| all_nil
theorem m43_all : MeOk Tryz.prog 1 m43 := m43_ok <| all_nil
theorem m44_all : MeOk Tryz.prog 1 m44 := m44_ok <| all_cons m43_all <| all_cons m42_all <| all_cons m41_all <| all_nil
theorem m45_all : MeOk Tryz.prog 1 m45 := m45_ok <| all_nil
theorem m46_all : MeOk Tryz.prog 1 m46 := m46_ok <| all_nil
theorem m47_all : MeOk Tryz.prog 1 m47 := m47_ok <| all_nil
theorem m48_all : MeOk Tryz.prog 1 m48 := m48_ok <| all_cons m47_all <| all_cons m46_all <| all_cons m45_all <| all_nil
theorem m49_all : MeOk Tryz.prog 1 m49 := m49_ok <| all_cons m48_all <| all_cons m44_all <| all_cons m40_all <| all_nil
theorem m50_all : MeOk Tryz.prog 1 m50 := m50_ok <| all_cons m49_all <| all_nil
end Go.Proofs.YtihcidopklhikaaGreatDoor.cl
