/-
  Numbers of the ring: what the program's functions on bits and limits compute. No condition.
-/
import Derived.Test.YtihcidopklhikaaGreatDoorZCy
import Derived.Test.YtihcidopklhikaaGreatDoorEc
import Derived.Test.YtihcidopklhikaaGreatDoorProg
import Derived.KernelRfl
namespace Go.Proofs.YtihcidopklhikaaGreatDoor.ph
open Go.RowKit Go.Eb
set_option maxRecDepth 100000

def uD (n : Int) : AV := .c (.d (.v (.int .u64 n)))
def dU2 : List AV → Option (Int × Int)
  | [.c (.d (.v (.int .u64 a))), .c (.d (.v (.int .u64 b)))] => some (a, b)
  | _ => none
def cU2 (a : Int × Int) : Bool := decide (0 ≤ a.1) && (decide (a.1 < 18446744073709551616) && (decide (0 ≤ a.2) && decide (a.2 < 18446744073709551616)))
def gU2 (a : Int × Int) : AV := .tup [(false, [.d (.v (.int .u64 (a.1 * a.2 / 18446744073709551616)))]), (false, [.d (.v (.int .u64 (a.1 * a.2 % 18446744073709551616)))])]
noncomputable def oBr : Orc := Orc.cons 49 (inl Tryz.prog Orc.nil na 20 Tryz.f49) Orc.nil
noncomputable def oIf : Orc := Orc.cons 153 (inl Tryz.prog oBr na 20 Tryz.f153) Orc.nil
noncomputable def oCf : Orc := Orc.cons 93 (inl Tryz.prog oIf na 20 Tryz.f93) Orc.nil
set_option maxRecDepth 100000 in
theorem evW_t (a b c d n : Int) : callC Tryz.prog oCf na 20 Tryz.f48 (bodyOf Tryz.f48) [.agg [.d (iD a), .d (iD b), .d (iD c), .d (iD d)], vI n] [] =
 (bif decide (a < IntKind.wrap IntKind.i64 ((0 : Int) - n)) then some (T.leaf (AV.c (C.d (D.v (Value.bool false))), [])) else (bif decide (a > n) then some (T.leaf (AV.c (C.d (D.v
 (Value.bool false))), [])) else (bif decide (b < IntKind.wrap IntKind.i64 ((0 : Int) - n)) then some (T.leaf (AV.c (C.d (D.v (Value.bool false))), [])) else (bif decide (b > n) then
 some (T.leaf (AV.c (C.d (D.v (Value.bool false))), [])) else (bif decide (c < IntKind.wrap IntKind.i64 ((0 : Int) - n)) then some (T.leaf (AV.c (C.d (D.v (Value.bool false))), []))
 else (bif decide (c > n) then some (T.leaf (AV.c (C.d (D.v (Value.bool false))), [])) else (bif decide (d < IntKind.wrap IntKind.i64 ((0 : Int) - n)) then some (T.leaf (AV.c (C.d
 (D.v (Value.bool false))), [])) else (bif decide (d > n) then some (T.leaf (AV.c (C.d (D.v (Value.bool false))), [])) else some (T.leaf (AV.c (C.d (D.v (Value.bool true))),
 [])))))))))) := by kernel_rfl
noncomputable def evW_v (a b c d n : Int) : Bool :=
 (bif decide (a < IntKind.wrap IntKind.i64 ((0 : Int) - n)) then (false) else (bif decide (a > n) then (false) else (bif decide (b < IntKind.wrap IntKind.i64 ((0 : Int) - n)) then
 (false) else (bif decide (b > n) then (false) else (bif decide (c < IntKind.wrap IntKind.i64 ((0 : Int) - n)) then (false) else (bif decide (c > n) then (false) else (bif decide (d
 < IntKind.wrap IntKind.i64 ((0 : Int) - n)) then (false) else (bif decide (d > n) then (false) else (true)))))))))
set_option maxRecDepth 100000 in
theorem evW (a b c d n : Int) : callC Tryz.prog oCf na 20 Tryz.f48 (bodyOf Tryz.f48) [.agg [.d (iD a), .d (iD b), .d (iD c), .d (iD d)], vI n] [] = some (.leaf (vB (evW_v a b c d n), [])) := by
  rw [evW_t]
  unfold evW_v
  simp only [bLeaf]
set_option maxRecDepth 100000 in
theorem evMul (x y : Nat) : callC Tryz.prog Orc.nil na 5 Tryz.f154 (bodyOf Tryz.f154) [.c (.d (.v (.int .u64 x))), .c (.d (.v (.int .u64 y)))] [] =
 some (T.leaf (AV.tup [(false, [C.d (D.v (Value.int IntKind.u64 (IntKind.wrap IntKind.u64 (IntKind.wrap IntKind.u64 (IntKind.wrap IntKind.u64 (Int.fdiv (↑x : Int) ((2 : Int) ^ min
 (Int.toNat (32 : Int)) (IntKind.bits IntKind.u64)) * Int.fdiv (↑y : Int) ((2 : Int) ^ min (Int.toNat (32 : Int)) (IntKind.bits IntKind.u64))) + Int.fdiv (IntKind.wrap IntKind.u64
 (IntKind.wrap IntKind.u64 (Int.fdiv (↑x : Int) ((2 : Int) ^ min (Int.toNat (32 : Int)) (IntKind.bits IntKind.u64)) * IntKind.wrap IntKind.u64 (↑(BitVec.toNat (BitVec.ofInt
 (IntKind.bits IntKind.u64) (↑y : Int) &&& BitVec.ofInt (IntKind.bits IntKind.u64) (4294967295 : Int))) : Int)) + Int.fdiv (IntKind.wrap IntKind.u64 (IntKind.wrap IntKind.u64
 (↑(BitVec.toNat (BitVec.ofInt (IntKind.bits IntKind.u64) (↑x : Int) &&& BitVec.ofInt (IntKind.bits IntKind.u64) (4294967295 : Int))) : Int) * IntKind.wrap IntKind.u64
 (↑(BitVec.toNat (BitVec.ofInt (IntKind.bits IntKind.u64) (↑y : Int) &&& BitVec.ofInt (IntKind.bits IntKind.u64) (4294967295 : Int))) : Int))) ((2 : Int) ^ min (Int.toNat (32 : Int))
 (IntKind.bits IntKind.u64)))) ((2 : Int) ^ min (Int.toNat (32 : Int)) (IntKind.bits IntKind.u64))) + Int.fdiv (IntKind.wrap IntKind.u64 (IntKind.wrap IntKind.u64 (↑(BitVec.toNat
 (BitVec.ofInt (IntKind.bits IntKind.u64) (IntKind.wrap IntKind.u64 (IntKind.wrap IntKind.u64 (Int.fdiv (↑x : Int) ((2 : Int) ^ min (Int.toNat (32 : Int)) (IntKind.bits IntKind.u64))
 * IntKind.wrap IntKind.u64 (↑(BitVec.toNat (BitVec.ofInt (IntKind.bits IntKind.u64) (↑y : Int) &&& BitVec.ofInt (IntKind.bits IntKind.u64) (4294967295 : Int))) : Int)) + Int.fdiv
 (IntKind.wrap IntKind.u64 (IntKind.wrap IntKind.u64 (↑(BitVec.toNat (BitVec.ofInt (IntKind.bits IntKind.u64) (↑x : Int) &&& BitVec.ofInt (IntKind.bits IntKind.u64) (4294967295 :
 Int))) : Int) * IntKind.wrap IntKind.u64 (↑(BitVec.toNat (BitVec.ofInt (IntKind.bits IntKind.u64) (↑y : Int) &&& BitVec.ofInt (IntKind.bits IntKind.u64) (4294967295 : Int))) :
 Int))) ((2 : Int) ^ min (Int.toNat (32 : Int)) (IntKind.bits IntKind.u64)))) &&& BitVec.ofInt (IntKind.bits IntKind.u64) (4294967295 : Int))) : Int) + IntKind.wrap IntKind.u64
 (IntKind.wrap IntKind.u64 (↑(BitVec.toNat (BitVec.ofInt (IntKind.bits IntKind.u64) (↑x : Int) &&& BitVec.ofInt (IntKind.bits IntKind.u64) (4294967295 : Int))) : Int) * Int.fdiv (↑y
 : Int) ((2 : Int) ^ min (Int.toNat (32 : Int)) (IntKind.bits IntKind.u64))))) ((2 : Int) ^ min (Int.toNat (32 : Int)) (IntKind.bits IntKind.u64))))))]), (false, [C.d (D.v (Value.int
 IntKind.u64 (IntKind.wrap IntKind.u64 ((↑x : Int) * (↑y : Int)))))])], [])) := by kernel_rfl
noncomputable def oTi : Orc := Orc.cons 154 (ansC dU2 cU2 gU2) (Orc.cons 155 (inl Tryz.prog Orc.nil na 20 Tryz.f155) Orc.nil)
set_option maxRecDepth 100000 in
theorem evTi (n k : Int) : callC Tryz.prog oTi na 20 Tryz.f95 (bodyOf Tryz.f95) [vI n, vI k] [] =
 (bif decide (n < (0 : Int)) then (bif decide (k < (0 : Int)) then (bif cU2 (IntKind.wrap IntKind.u64 ((0 : Int) - IntKind.wrap IntKind.u64 n), IntKind.wrap IntKind.u64 ((0 : Int) -
 IntKind.wrap IntKind.u64 k)) then (bif IntKind.wrap IntKind.u64 ((0 : Int) - IntKind.wrap IntKind.u64 n) * IntKind.wrap IntKind.u64 ((0 : Int) - IntKind.wrap IntKind.u64 k) /
 (18446744073709551616 : Int) != (0 : Int) then some (T.leaf (AV.tup [(false, [C.d (D.v (Value.int IntKind.i64 (0 : Int)))]), (false, [C.d (D.v (Value.bool false))])], [])) else (bif
 decide (IntKind.wrap IntKind.u64 ((0 : Int) - IntKind.wrap IntKind.u64 n) * IntKind.wrap IntKind.u64 ((0 : Int) - IntKind.wrap IntKind.u64 k) % (18446744073709551616 : Int) >
 (4611686018427387904 : Int)) then some (T.leaf (AV.tup [(false, [C.d (D.v (Value.int IntKind.i64 (0 : Int)))]), (false, [C.d (D.v (Value.bool false))])], [])) else some (T.leaf
 (AV.tup [(false, [C.d (D.v (Value.int IntKind.i64 (IntKind.wrap IntKind.i64 (n * k))))]), (false, [C.d (D.v (Value.bool true))])], [])))) else none) else (bif cU2 (IntKind.wrap
 IntKind.u64 ((0 : Int) - IntKind.wrap IntKind.u64 n), IntKind.wrap IntKind.u64 k) then (bif IntKind.wrap IntKind.u64 ((0 : Int) - IntKind.wrap IntKind.u64 n) * IntKind.wrap
 IntKind.u64 k / (18446744073709551616 : Int) != (0 : Int) then some (T.leaf (AV.tup [(false, [C.d (D.v (Value.int IntKind.i64 (0 : Int)))]), (false, [C.d (D.v (Value.bool
 false))])], [])) else (bif decide (IntKind.wrap IntKind.u64 ((0 : Int) - IntKind.wrap IntKind.u64 n) * IntKind.wrap IntKind.u64 k % (18446744073709551616 : Int) >
 (4611686018427387904 : Int)) then some (T.leaf (AV.tup [(false, [C.d (D.v (Value.int IntKind.i64 (0 : Int)))]), (false, [C.d (D.v (Value.bool false))])], [])) else some (T.leaf
 (AV.tup [(false, [C.d (D.v (Value.int IntKind.i64 (IntKind.wrap IntKind.i64 (n * k))))]), (false, [C.d (D.v (Value.bool true))])], [])))) else none)) else (bif decide (k < (0 :
 Int)) then (bif cU2 (IntKind.wrap IntKind.u64 n, IntKind.wrap IntKind.u64 ((0 : Int) - IntKind.wrap IntKind.u64 k)) then (bif IntKind.wrap IntKind.u64 n * IntKind.wrap IntKind.u64
 ((0 : Int) - IntKind.wrap IntKind.u64 k) / (18446744073709551616 : Int) != (0 : Int) then some (T.leaf (AV.tup [(false, [C.d (D.v (Value.int IntKind.i64 (0 : Int)))]), (false, [C.d
 (D.v (Value.bool false))])], [])) else (bif decide (IntKind.wrap IntKind.u64 n * IntKind.wrap IntKind.u64 ((0 : Int) - IntKind.wrap IntKind.u64 k) % (18446744073709551616 : Int) >
 (4611686018427387904 : Int)) then some (T.leaf (AV.tup [(false, [C.d (D.v (Value.int IntKind.i64 (0 : Int)))]), (false, [C.d (D.v (Value.bool false))])], [])) else some (T.leaf
 (AV.tup [(false, [C.d (D.v (Value.int IntKind.i64 (IntKind.wrap IntKind.i64 (n * k))))]), (false, [C.d (D.v (Value.bool true))])], [])))) else none) else (bif cU2 (IntKind.wrap
 IntKind.u64 n, IntKind.wrap IntKind.u64 k) then (bif IntKind.wrap IntKind.u64 n * IntKind.wrap IntKind.u64 k / (18446744073709551616 : Int) != (0 : Int) then some (T.leaf (AV.tup
 [(false, [C.d (D.v (Value.int IntKind.i64 (0 : Int)))]), (false, [C.d (D.v (Value.bool false))])], [])) else (bif decide (IntKind.wrap IntKind.u64 n * IntKind.wrap IntKind.u64 k %
 (18446744073709551616 : Int) > (4611686018427387904 : Int)) then some (T.leaf (AV.tup [(false, [C.d (D.v (Value.int IntKind.i64 (0 : Int)))]), (false, [C.d (D.v (Value.bool
 false))])], [])) else some (T.leaf (AV.tup [(false, [C.d (D.v (Value.int IntKind.i64 (IntKind.wrap IntKind.i64 (n * k))))]), (false, [C.d (D.v (Value.bool true))])], [])))) else
 none))) := by kernel_rfl
end Go.Proofs.YtihcidopklhikaaGreatDoor.ph
