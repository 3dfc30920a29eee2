/-
  The fundamentals of three windows, by the program and by the reference: what they compute. No condition.
-/
import Derived.Test.YtihcidopklhikaaGreatDoorZCy
import Derived.Test.YtihcidopklhikaaGreatDoorEc
import Derived.Test.YtihcidopklhikaaGreatDoorProg
import Derived.KernelRfl
namespace Go.Proofs.YtihcidopklhikaaGreatDoor.ph
open Go.RowKit Go.Eb
set_option maxRecDepth 100000

/-- the n-th window of an array of integers, as it is given on -/
def wA (X : Nat → Int) (n : Nat) : List AV := [.c (.d (.sl 1 12 (chunk ((List.range 12).map fun i => iD (X (12 * n + i))) 1))), vI 1]
def ints (X : Nat → Int) (n : Nat) : AV := .agg ((List.range n).map fun i => .d (iD (X i)))
noncomputable def oPh (f : FuncId) (ok : List AV → Bool) (a b c d e : List AV → Int) : Orc := Orc.cons f (ansG ok fun x => .tup [(true, [.d (iD (a x)), .d (iD (b x)), .d (iD (c x)), .d (iD (d x))]), (false, [.d (iD (e x))])]) Orc.nil
def z12 (e : Int) : Option (T (AV × Hp)) := some (.leaf (.tup [(true, (List.range 12).map fun _ => .d (iD 0)), (false, [.d (iD e)])], []))
theorem evPh (ok : List AV → Bool) (a b c d e : List AV → Int) (X : Nat → Int) : callC Tryz.prog (oPh 14 ok a b c d e) (annOf [(3, ⟨[1, 2, 4, 8], [(1, 0, 2000, 0)]⟩)]) 5 Tryz.f5 (bodyOf Tryz.f5) [ints X 36] [] =
 bif ok (wA X 0) then (bif e (wA X 0) != 0 then z12 (e (wA X 0)) else (bif ok (wA X 1) then (bif e (wA X 1) != 0 then z12 (e (wA X 1)) else (bif ok (wA X 2) then (bif e (wA X 2) != 0
 then z12 (e (wA X 2)) else some (.leaf (.tup [(true, [.d (iD (a (wA X 0))), .d (iD (b (wA X 0))), .d (iD (c (wA X 0))), .d (iD (d (wA X 0))), .d (iD (a (wA X 1))), .d (iD (b (wA X
 1))), .d (iD (c (wA X 1))), .d (iD (d (wA X 1))), .d (iD (a (wA X 2))), .d (iD (b (wA X 2))), .d (iD (c (wA X 2))), .d (iD (d (wA X 2)))]), (false, [.d (iD 0)])], []))) else none))
 else none)) else none := by kernel_rfl
theorem evPr (ok : List AV → Bool) (a b c d e : List AV → Int) (X : Nat → Int) : callC Tryz.prog (oPh 15 ok a b c d e) (annOf [(3, ⟨[1, 2, 3, 5], [(1, 0, 2000, 0)]⟩)]) 5 Tryz.f7 (bodyOf Tryz.f7) [ints X 36] [] =
 bif ok (wA X 0) then (bif ok (wA X 1) then (bif ok (wA X 2) then some (.leaf (.agg [.d (iD (a (wA X 0))), .d (iD (b (wA X 0))), .d (iD (c (wA X 0))), .d (iD (d (wA X 0))), .d (iD (a
 (wA X 1))), .d (iD (b (wA X 1))), .d (iD (c (wA X 1))), .d (iD (d (wA X 1))), .d (iD (a (wA X 2))), .d (iD (b (wA X 2))), .d (iD (c (wA X 2))), .d (iD (d (wA X 2)))], [])) else
 none) else none) else none := by kernel_rfl
end Go.Proofs.YtihcidopklhikaaGreatDoor.ph
