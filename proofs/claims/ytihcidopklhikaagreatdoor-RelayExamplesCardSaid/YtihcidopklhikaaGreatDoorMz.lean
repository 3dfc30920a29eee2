/-
  The closed run as a whole, out of its parts. No condition.
-/
import Derived.Test.YtihcidopklhikaaGreatDoorM0
import Derived.Test.YtihcidopklhikaaGreatDoorM1
import Derived.Test.YtihcidopklhikaaGreatDoorM2
import Derived.Test.YtihcidopklhikaaGreatDoorM3
import Derived.Test.YtihcidopklhikaaGreatDoorM4
import Derived.Test.YtihcidopklhikaaGreatDoorM5
import Derived.Test.YtihcidopklhikaaGreatDoorM6
import Derived.Test.YtihcidopklhikaaGreatDoorM7
import Derived.Test.YtihcidopklhikaaGreatDoorM8
import Derived.Test.YtihcidopklhikaaGreatDoorM9
open Go Go.Ez
namespace Go.Proofs.YtihcidopklhikaaGreatDoor.cl
theorem all_nil {P : Program} {G : Nat} : ∀ m ∈ ([] : List Me), MeOk P G m := fun m h => by simp at h
theorem all_cons {P : Program} {G : Nat} {x : Me} {l : List Me} (h : MeOk P G x) (t : ∀ m ∈ l, MeOk P G m) : ∀ m ∈ x :: l, MeOk P G m := fun m hm => by
  rcases List.mem_cons.1 hm with rfl | hm
  · exact h
  · exact t m hm
theorem m0_all : MeOk Tryz.prog 1 m0 := m0_ok <| all_nil
theorem m1_all : MeOk Tryz.prog 1 m1 := m1_ok <| all_nil
theorem m2_all : MeOk Tryz.prog 1 m2 := m2_ok <| all_nil
theorem m3_all : MeOk Tryz.prog 1 m3 := m3_ok <| all_nil
theorem m4_all : MeOk Tryz.prog 1 m4 := m4_ok <| all_cons m3_all <| all_cons m2_all <| all_cons m1_all <| all_nil
theorem m5_all : MeOk Tryz.prog 1 m5 := m5_ok <| all_nil
theorem m6_all : MeOk Tryz.prog 1 m6 := m6_ok <| all_nil
theorem m7_all : MeOk Tryz.prog 1 m7 := m7_ok <| all_nil
theorem m8_all : MeOk Tryz.prog 1 m8 := m8_ok <| all_cons m7_all <| all_cons m6_all <| all_cons m5_all <| all_nil
theorem m9_all : MeOk Tryz.prog 1 m9 := m9_ok <| all_cons m8_all <| all_cons m4_all <| all_cons m0_all <| all_nil
theorem m10_all : MeOk Tryz.prog 1 m10 := m10_ok <| all_nil
theorem m11_all : MeOk Tryz.prog 1 m11 := m11_ok <| all_nil
theorem m12_all : MeOk Tryz.prog 1 m12 := m12_ok <| all_nil
theorem m13_all : MeOk Tryz.prog 1 m13 := m13_ok <| all_nil
theorem m14_all : MeOk Tryz.prog 1 m14 := m14_ok <| all_cons m13_all <| all_cons m12_all <| all_cons m11_all <| all_nil
theorem m15_all : MeOk Tryz.prog 1 m15 := m15_ok <| all_nil
theorem m16_all : MeOk Tryz.prog 1 m16 := m16_ok <| all_cons m15_all <| all_cons m14_all <| all_cons m10_all <| all_nil
theorem m17_all : MeOk Tryz.prog 1 m17 := m17_ok <| all_nil
theorem m18_all : MeOk Tryz.prog 1 m18 := m18_ok <| all_cons m17_all <| all_nil
theorem m19_all : MeOk Tryz.prog 1 m19 := m19_ok <| all_nil
theorem m20_all : MeOk Tryz.prog 1 m20 := m20_ok <| all_nil
theorem m21_all : MeOk Tryz.prog 1 m21 := m21_ok <| all_nil
theorem m22_all : MeOk Tryz.prog 1 m22 := m22_ok <| all_nil
theorem m23_all : MeOk Tryz.prog 1 m23 := m23_ok <| all_cons m22_all <| all_cons m21_all <| all_cons m20_all <| all_cons m19_all <| all_nil
theorem m24_all : MeOk Tryz.prog 1 m24 := m24_ok <| all_nil
theorem m25_all : MeOk Tryz.prog 1 m25 := m25_ok <| all_nil
theorem m26_all : MeOk Tryz.prog 1 m26 := m26_ok <| all_nil
theorem m27_all : MeOk Tryz.prog 1 m27 := m27_ok <| all_nil
theorem m28_all : MeOk Tryz.prog 1 m28 := m28_ok <| all_cons m27_all <| all_cons m26_all <| all_cons m25_all <| all_cons m24_all <| all_nil
theorem m29_all : MeOk Tryz.prog 1 m29 := m29_ok <| all_cons m28_all <| all_cons m23_all <| all_cons m18_all <| all_nil
theorem m30_all : MeOk Tryz.prog 1 m30 := m30_ok <| all_nil
theorem m31_all : MeOk Tryz.prog 1 m31 := m31_ok <| all_nil
theorem m32_all : MeOk Tryz.prog 1 m32 := m32_ok <| all_nil
theorem m33_all : MeOk Tryz.prog 1 m33 := m33_ok <| all_nil
theorem m34_all : MeOk Tryz.prog 1 m34 := m34_ok <| all_cons m33_all <| all_cons m32_all <| all_cons m31_all <| all_nil
theorem m35_all : MeOk Tryz.prog 1 m35 := m35_ok <| all_cons m34_all <| all_cons m30_all <| all_nil
theorem m36_all : MeOk Tryz.prog 1 m36 := m36_ok <| all_nil
theorem m37_all : MeOk Tryz.prog 1 m37 := m37_ok <| all_nil
theorem m38_all : MeOk Tryz.prog 1 m38 := m38_ok <| all_nil
theorem m39_all : MeOk Tryz.prog 1 m39 := m39_ok <| all_nil
theorem m40_all : MeOk Tryz.prog 1 m40 := m40_ok <| all_nil
theorem m41_all : MeOk Tryz.prog 1 m41 := m41_ok <| all_nil
theorem m42_all : MeOk Tryz.prog 1 m42 := m42_ok <| all_nil
theorem m43_all : MeOk Tryz.prog 1 m43 := m43_ok <| all_nil
theorem m44_all : MeOk Tryz.prog 1 m44 := m44_ok <| all_cons m43_all <| all_cons m42_all <| all_cons m41_all <| all_nil
theorem m45_all : MeOk Tryz.prog 1 m45 := m45_ok <| all_nil
theorem m46_all : MeOk Tryz.prog 1 m46 := m46_ok <| all_nil
theorem m47_all : MeOk Tryz.prog 1 m47 := m47_ok <| all_nil
theorem m48_all : MeOk Tryz.prog 1 m48 := m48_ok <| all_cons m47_all <| all_cons m46_all <| all_cons m45_all <| all_nil
theorem m49_all : MeOk Tryz.prog 1 m49 := m49_ok <| all_cons m48_all <| all_cons m44_all <| all_cons m40_all <| all_nil
theorem m50_all : MeOk Tryz.prog 1 m50 := m50_ok <| all_cons m49_all <| all_nil
theorem m51_all : MeOk Tryz.prog 1 m51 := m51_ok <| all_cons m50_all <| all_cons m39_all <| all_cons m38_all <| all_cons m37_all <| all_cons m36_all <| all_cons m35_all <| all_cons m29_all <| all_cons m16_all <| all_cons m9_all <| all_nil
end Go.Proofs.YtihcidopklhikaaGreatDoor.cl
