/-
  Numbers of the ring: what the program's functions compute, given those on bits and limits. No condition.
-/
import Derived.Test.YtihcidopklhikaaGreatDoorPa
namespace Go.Proofs.YtihcidopklhikaaGreatDoor.ph
open Go.RowKit Go.Eb
set_option maxRecDepth 100000

def dII : List AV → Option (Int × Int)
  | [.c (.d (.v (.int .i64 a))), .c (.d (.v (.int .i64 b)))] => some (a, b)
  | _ => none
def cTi (a : Int × Int) : Bool := inI 536870912 a.1 && inI 536870912 a.2
def gTi (a : Int × Int) : AV := .tup [(false, [.d (iD (a.1 * a.2))]), (false, [.d (.v (.bool true))])]
noncomputable def oSw (r : Orc) : Orc := Orc.cons 94 (inl Tryz.prog Orc.nil na 20 Tryz.f94) r
noncomputable def oSs : Orc := oSw (Orc.cons 95 (ansC dII cTi gTi) (Orc.cons 96 (inl Tryz.prog (oSw Orc.nil) na 20 Tryz.f96) Orc.nil))
set_option maxRecDepth 100000 in
theorem evSs (a b k : Int) : callC Tryz.prog oSs na 20 Tryz.f50 (bodyOf Tryz.f50) [.agg [.d (iD a), .d (iD b)], vI k] [] =
 (bif decide (a < IntKind.wrap IntKind.i64 ((0 : Int) - (1152921504606846976 : Int))) then some (T.leaf (AV.tup [(true, [C.d (D.v (Value.int IntKind.i64 (0 : Int))), C.d (D.v
 (Value.int IntKind.i64 (0 : Int)))]), (false, [C.d (D.v (Value.int IntKind.i64 (1 : Int)))])], [])) else (bif decide (a > (1152921504606846976 : Int)) then some (T.leaf (AV.tup
 [(true, [C.d (D.v (Value.int IntKind.i64 (0 : Int))), C.d (D.v (Value.int IntKind.i64 (0 : Int)))]), (false, [C.d (D.v (Value.int IntKind.i64 (1 : Int)))])], [])) else (bif decide
 (b < IntKind.wrap IntKind.i64 ((0 : Int) - (1152921504606846976 : Int))) then some (T.leaf (AV.tup [(true, [C.d (D.v (Value.int IntKind.i64 (0 : Int))), C.d (D.v (Value.int
 IntKind.i64 (0 : Int)))]), (false, [C.d (D.v (Value.int IntKind.i64 (1 : Int)))])], [])) else (bif decide (b > (1152921504606846976 : Int)) then some (T.leaf (AV.tup [(true, [C.d
 (D.v (Value.int IntKind.i64 (0 : Int))), C.d (D.v (Value.int IntKind.i64 (0 : Int)))]), (false, [C.d (D.v (Value.int IntKind.i64 (1 : Int)))])], [])) else (bif decide (k <
 IntKind.wrap IntKind.i64 ((0 : Int) - (1152921504606846976 : Int))) then some (T.leaf (AV.tup [(true, [C.d (D.v (Value.int IntKind.i64 (0 : Int))), C.d (D.v (Value.int IntKind.i64
 (0 : Int)))]), (false, [C.d (D.v (Value.int IntKind.i64 (1 : Int)))])], [])) else (bif decide (k > (1152921504606846976 : Int)) then some (T.leaf (AV.tup [(true, [C.d (D.v
 (Value.int IntKind.i64 (0 : Int))), C.d (D.v (Value.int IntKind.i64 (0 : Int)))]), (false, [C.d (D.v (Value.int IntKind.i64 (1 : Int)))])], [])) else (bif cTi (a, k) then (bif cTi
 (b, k) then (bif decide (a * k < IntKind.wrap IntKind.i64 ((0 : Int) - (1152921504606846976 : Int))) then some (T.leaf (AV.tup [(true, [C.d (D.v (Value.int IntKind.i64 (0 : Int))),
 C.d (D.v (Value.int IntKind.i64 (0 : Int)))]), (false, [C.d (D.v (Value.int IntKind.i64 (2 : Int)))])], [])) else (bif decide (a * k > (1152921504606846976 : Int)) then some (T.leaf
 (AV.tup [(true, [C.d (D.v (Value.int IntKind.i64 (0 : Int))), C.d (D.v (Value.int IntKind.i64 (0 : Int)))]), (false, [C.d (D.v (Value.int IntKind.i64 (2 : Int)))])], [])) else (bif
 decide (b * k < IntKind.wrap IntKind.i64 ((0 : Int) - (1152921504606846976 : Int))) then some (T.leaf (AV.tup [(true, [C.d (D.v (Value.int IntKind.i64 (0 : Int))), C.d (D.v
 (Value.int IntKind.i64 (0 : Int)))]), (false, [C.d (D.v (Value.int IntKind.i64 (2 : Int)))])], [])) else (bif decide (b * k > (1152921504606846976 : Int)) then some (T.leaf (AV.tup
 [(true, [C.d (D.v (Value.int IntKind.i64 (0 : Int))), C.d (D.v (Value.int IntKind.i64 (0 : Int)))]), (false, [C.d (D.v (Value.int IntKind.i64 (2 : Int)))])], [])) else some (T.leaf
 (AV.tup [(true, [C.d (D.v (Value.int IntKind.i64 (a * k))), C.d (D.v (Value.int IntKind.i64 (b * k)))]), (false, [C.d (D.v (Value.int IntKind.i64 (0 : Int)))])], [])))))) else none)
 else none))))))) := by kernel_rfl
def dW : List AV → Option (Int × Int × Int × Int × Int)
  | [.agg [.d (.v (.int .i64 a)), .d (.v (.int .i64 b)), .d (.v (.int .i64 c)), .d (.v (.int .i64 d))], .c (.d (.v (.int .i64 n)))] => some (a, b, c, d, n)
  | _ => none
def cW (x : Int × Int × Int × Int × Int) : Bool := inI 2305843009213693952 x.2.2.2.2
def gW (x : Int × Int × Int × Int × Int) : AV := vB (in4 x.2.2.2.2 (x.1, x.2.1, x.2.2.1, x.2.2.2.1))
noncomputable def oCw (r : Orc) : Orc := Orc.cons 48 (ansC dW cW gW) r
noncomputable def oLi : Orc := Orc.cons 51 (inl Tryz.prog (oCw Orc.nil) na 20 Tryz.f51) Orc.nil
def dSs : List AV → Option (Int × Int × Int)
  | [.agg [.d (.v (.int .i64 a)), .d (.v (.int .i64 b))], .c (.d (.v (.int .i64 k)))] => some (a, b, k)
  | _ => none
def cSs (x : Int × Int × Int) : Bool := inI 536870912 x.1 && (inI 536870912 x.2.1 && inI 536870912 x.2.2)
def gSs (x : Int × Int × Int) : AV := .tup [(true, [.d (iD (x.1 * x.2.2)), .d (iD (x.2.1 * x.2.2))]), (false, [.d (iD 0)])]
noncomputable def oSc : Orc := oCw (Orc.cons 49 (inl Tryz.prog Orc.nil na 20 Tryz.f49) (Orc.cons 50 (ansC dSs cSs gSs) oLi))
set_option maxRecDepth 100000 in
theorem evSc (a b c d k : Int) : callC Tryz.prog oSc na 20 Tryz.f24 (bodyOf Tryz.f24) [.agg [.d (iD a), .d (iD b), .d (iD c), .d (iD d)], vI k] [] =
 (bif !in4 (576460752303423488 : Int) (a, b, c, d) then some (T.leaf (AV.tup [(true, [C.d (D.v (Value.int IntKind.i64 (0 : Int))), C.d (D.v (Value.int IntKind.i64 (0 : Int))), C.d
 (D.v (Value.int IntKind.i64 (0 : Int))), C.d (D.v (Value.int IntKind.i64 (0 : Int)))]), (false, [C.d (D.v (Value.int IntKind.i64 (1 : Int)))])], [])) else (bif decide (k <
 IntKind.wrap IntKind.i64 ((0 : Int) - (576460752303423488 : Int))) then some (T.leaf (AV.tup [(true, [C.d (D.v (Value.int IntKind.i64 (0 : Int))), C.d (D.v (Value.int IntKind.i64 (0
 : Int))), C.d (D.v (Value.int IntKind.i64 (0 : Int))), C.d (D.v (Value.int IntKind.i64 (0 : Int)))]), (false, [C.d (D.v (Value.int IntKind.i64 (1 : Int)))])], [])) else (bif decide
 (k > (576460752303423488 : Int)) then some (T.leaf (AV.tup [(true, [C.d (D.v (Value.int IntKind.i64 (0 : Int))), C.d (D.v (Value.int IntKind.i64 (0 : Int))), C.d (D.v (Value.int
 IntKind.i64 (0 : Int))), C.d (D.v (Value.int IntKind.i64 (0 : Int)))]), (false, [C.d (D.v (Value.int IntKind.i64 (1 : Int)))])], [])) else (bif cSs (a, b, k) then (bif cSs (c, d, k)
 then (bif !in4 (576460752303423488 : Int) (a * k, b * k, c * k, d * k) then some (T.leaf (AV.tup [(true, [C.d (D.v (Value.int IntKind.i64 (0 : Int))), C.d (D.v (Value.int
 IntKind.i64 (0 : Int))), C.d (D.v (Value.int IntKind.i64 (0 : Int))), C.d (D.v (Value.int IntKind.i64 (0 : Int)))]), (false, [C.d (D.v (Value.int IntKind.i64 (2 : Int)))])], []))
 else some (T.leaf (AV.tup [(true, [C.d (D.v (Value.int IntKind.i64 (a * k))), C.d (D.v (Value.int IntKind.i64 (b * k))), C.d (D.v (Value.int IntKind.i64 (c * k))), C.d (D.v
 (Value.int IntKind.i64 (d * k)))]), (false, [C.d (D.v (Value.int IntKind.i64 (0 : Int)))])], []))) else none) else none)))) := by kernel_rfl
set_option maxRecDepth 100000 in
theorem evAd (a b c d e f g h : Int) : callC Tryz.prog (oCw oLi) na 20 Tryz.f47 (bodyOf Tryz.f47) [.agg [.d (iD a), .d (iD b), .d (iD c), .d (iD d)], .agg [.d (iD e), .d (iD f), .d (iD g), .d (iD h)]] [] =
 (bif !in4 (576460752303423488 : Int) (a, b, c, d) then some (T.leaf (AV.tup [(true, [C.d (D.v (Value.int IntKind.i64 (0 : Int))), C.d (D.v (Value.int IntKind.i64 (0 : Int))), C.d
 (D.v (Value.int IntKind.i64 (0 : Int))), C.d (D.v (Value.int IntKind.i64 (0 : Int)))]), (false, [C.d (D.v (Value.int IntKind.i64 (1 : Int)))])], [])) else (bif !in4
 (576460752303423488 : Int) (e, f, g, h) then some (T.leaf (AV.tup [(true, [C.d (D.v (Value.int IntKind.i64 (0 : Int))), C.d (D.v (Value.int IntKind.i64 (0 : Int))), C.d (D.v
 (Value.int IntKind.i64 (0 : Int))), C.d (D.v (Value.int IntKind.i64 (0 : Int)))]), (false, [C.d (D.v (Value.int IntKind.i64 (1 : Int)))])], [])) else (bif !in4 (576460752303423488 :
 Int) (IntKind.wrap IntKind.i64 (a + e), IntKind.wrap IntKind.i64 (b + f), IntKind.wrap IntKind.i64 (c + g), IntKind.wrap IntKind.i64 (d + h)) then some (T.leaf (AV.tup [(true, [C.d
 (D.v (Value.int IntKind.i64 (0 : Int))), C.d (D.v (Value.int IntKind.i64 (0 : Int))), C.d (D.v (Value.int IntKind.i64 (0 : Int))), C.d (D.v (Value.int IntKind.i64 (0 : Int)))]),
 (false, [C.d (D.v (Value.int IntKind.i64 (2 : Int)))])], [])) else some (T.leaf (AV.tup [(true, [C.d (D.v (Value.int IntKind.i64 (IntKind.wrap IntKind.i64 (a + e)))), C.d (D.v
 (Value.int IntKind.i64 (IntKind.wrap IntKind.i64 (b + f)))), C.d (D.v (Value.int IntKind.i64 (IntKind.wrap IntKind.i64 (c + g)))), C.d (D.v (Value.int IntKind.i64 (IntKind.wrap
 IntKind.i64 (d + h))))]), (false, [C.d (D.v (Value.int IntKind.i64 (0 : Int)))])], []))))) := by kernel_rfl
noncomputable def oRo : Orc := Orc.cons 52 (inl Tryz.prog Orc.nil na 20 Tryz.f52) (Orc.cons 53 (inl Tryz.prog Orc.nil na 20 Tryz.f53) Orc.nil)
set_option maxRecDepth 100000 in
theorem evRo1 (u : Unit) : callC Tryz.prog oRo na 20 Tryz.f25 (bodyOf Tryz.f25) [vI (-1)] [] =
 some (T.leaf (AV.agg [C.d (D.v (Value.int IntKind.i64 (IntKind.wrap IntKind.i64 ((0 : Int) - List.getD [(1 : Int), (0 : Int), (0 : Int), (0 : Int), (0 : Int), (1 : Int), (0 : Int),
 (0 : Int), (0 : Int), (0 : Int), (1 : Int), (0 : Int), (0 : Int), (0 : Int), (0 : Int), (1 : Int), (-1 : Int), (0 : Int), (1 : Int), (0 : Int), (0 : Int), (-1 : Int), (0 : Int), (1
 : Int)] ((20 : Nat)) (0 : Int))))), C.d (D.v (Value.int IntKind.i64 (IntKind.wrap IntKind.i64 ((0 : Int) - List.getD [(1 : Int), (0 : Int), (0 : Int), (0 : Int), (0 : Int), (1 :
 Int), (0 : Int), (0 : Int), (0 : Int), (0 : Int), (1 : Int), (0 : Int), (0 : Int), (0 : Int), (0 : Int), (1 : Int), (-1 : Int), (0 : Int), (1 : Int), (0 : Int), (0 : Int), (-1 :
 Int), (0 : Int), (1 : Int)] ((21 : Nat)) (0 : Int))))), C.d (D.v (Value.int IntKind.i64 (IntKind.wrap IntKind.i64 ((0 : Int) - List.getD [(1 : Int), (0 : Int), (0 : Int), (0 : Int),
 (0 : Int), (1 : Int), (0 : Int), (0 : Int), (0 : Int), (0 : Int), (1 : Int), (0 : Int), (0 : Int), (0 : Int), (0 : Int), (1 : Int), (-1 : Int), (0 : Int), (1 : Int), (0 : Int), (0 :
 Int), (-1 : Int), (0 : Int), (1 : Int)] ((22 : Nat)) (0 : Int))))), C.d (D.v (Value.int IntKind.i64 (IntKind.wrap IntKind.i64 ((0 : Int) - List.getD [(1 : Int), (0 : Int), (0 :
 Int), (0 : Int), (0 : Int), (1 : Int), (0 : Int), (0 : Int), (0 : Int), (0 : Int), (1 : Int), (0 : Int), (0 : Int), (0 : Int), (0 : Int), (1 : Int), (-1 : Int), (0 : Int), (1 :
 Int), (0 : Int), (0 : Int), (-1 : Int), (0 : Int), (1 : Int)] ((23 : Nat)) (0 : Int)))))], [])) := by kernel_rfl
set_option maxRecDepth 100000 in
theorem evRo8 (u : Unit) : callC Tryz.prog oRo na 20 Tryz.f25 (bodyOf Tryz.f25) [vI (-8)] [] =
 some (T.leaf (AV.agg [C.d (D.v (Value.int IntKind.i64 (List.getD [(1 : Int), (0 : Int), (0 : Int), (0 : Int), (0 : Int), (1 : Int), (0 : Int), (0 : Int), (0 : Int), (0 : Int), (1 :
 Int), (0 : Int), (0 : Int), (0 : Int), (0 : Int), (1 : Int), (-1 : Int), (0 : Int), (1 : Int), (0 : Int), (0 : Int), (-1 : Int), (0 : Int), (1 : Int)] ((16 : Nat)) (0 : Int)))), C.d
 (D.v (Value.int IntKind.i64 (List.getD [(1 : Int), (0 : Int), (0 : Int), (0 : Int), (0 : Int), (1 : Int), (0 : Int), (0 : Int), (0 : Int), (0 : Int), (1 : Int), (0 : Int), (0 :
 Int), (0 : Int), (0 : Int), (1 : Int), (-1 : Int), (0 : Int), (1 : Int), (0 : Int), (0 : Int), (-1 : Int), (0 : Int), (1 : Int)] ((17 : Nat)) (0 : Int)))), C.d (D.v (Value.int
 IntKind.i64 (List.getD [(1 : Int), (0 : Int), (0 : Int), (0 : Int), (0 : Int), (1 : Int), (0 : Int), (0 : Int), (0 : Int), (0 : Int), (1 : Int), (0 : Int), (0 : Int), (0 : Int), (0
 : Int), (1 : Int), (-1 : Int), (0 : Int), (1 : Int), (0 : Int), (0 : Int), (-1 : Int), (0 : Int), (1 : Int)] ((18 : Nat)) (0 : Int)))), C.d (D.v (Value.int IntKind.i64 (List.getD
 [(1 : Int), (0 : Int), (0 : Int), (0 : Int), (0 : Int), (1 : Int), (0 : Int), (0 : Int), (0 : Int), (0 : Int), (1 : Int), (0 : Int), (0 : Int), (0 : Int), (0 : Int), (1 : Int), (-1
 : Int), (0 : Int), (1 : Int), (0 : Int), (0 : Int), (-1 : Int), (0 : Int), (1 : Int)] ((19 : Nat)) (0 : Int))))], [])) := by kernel_rfl
set_option maxRecDepth 100000 in
theorem evRr8 (u : Unit) : callC Tryz.prog Orc.nil na 20 Tryz.f54 (bodyOf Tryz.f54) [vI (-8)] [] =
 some (T.leaf (AV.agg [C.d (D.v (Value.int IntKind.i64 (IntKind.wrap IntKind.i64 ((0 : Int) - (1 : Int))))), C.d (D.v (Value.int IntKind.i64 (0 : Int))), C.d (D.v (Value.int
 IntKind.i64 (1 : Int))), C.d (D.v (Value.int IntKind.i64 (0 : Int)))], [])) := by kernel_rfl
end Go.Proofs.YtihcidopklhikaaGreatDoor.ph
