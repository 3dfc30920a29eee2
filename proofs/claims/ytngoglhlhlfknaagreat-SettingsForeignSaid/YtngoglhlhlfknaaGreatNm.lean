/-
  Names of a diagram, by the reference: what it computes. No condition.
-/
import Derived.Test.YtngoglhlhlfknaaGreatZSn
import Derived.Test.YtngoglhlhlfknaaGreatZTy
import Derived.Test.YtngoglhlhlfknaaGreatSj
namespace Go.Proofs.YtngoglhlhlfknaaGreat.st
open Go.RowKit Go.Eb
set_option maxRecDepth 100000

noncomputable def o9n (okn : List AV → Bool) (nm : List AV → List ByteArray) : Orc := Orc.cons 21 (ansG okn fun x => .c (.d (busesD (nm x)))) Orc.nil
noncomputable def ann9n : Ann := annOf []
theorem b9n : Tryz.f86.body = some (bodyOf Tryz.f86) := by kernel_rfl
set_option maxRecDepth 100000 in
theorem ev9n (okn : List AV → Bool) (nm : List AV → List ByteArray) (s : SSta) (g : Nat) : callC Tryz.prog (o9n okn nm) ann9n g Tryz.f86 (bodyOf Tryz.f86) [aSta s] [] =
 (bif okn [AV.agg (List.map C.d (staC s)), AV.c (C.d (D.v (Value.int IntKind.i64 (↑(List.length (SSta.buses s)) : Int)))), AV.c (C.d (D.v (Value.int IntKind.i64 (↑(List.length
 (SSta.lines s)) : Int)))), AV.c (C.d (D.v (Value.int IntKind.i64 (↑(List.length (SSta.srcs s)) : Int)))), AV.c (C.d (D.v (Value.int IntKind.i64 (↑(List.length (SSta.bays s)) :
 Int))))] then some (T.leaf (AV.c (C.d (listD ((1 : Nat)) busC e0 (nm [AV.agg (List.map C.d (staC s)), AV.c (C.d (D.v (Value.int IntKind.i64 (↑(List.length (SSta.buses s)) : Int)))),
 AV.c (C.d (D.v (Value.int IntKind.i64 (↑(List.length (SSta.lines s)) : Int)))), AV.c (C.d (D.v (Value.int IntKind.i64 (↑(List.length (SSta.srcs s)) : Int)))), AV.c (C.d (D.v
 (Value.int IntKind.i64 (↑(List.length (SSta.bays s)) : Int))))]))), [])) else none) := by kernel_rfl
end Go.Proofs.YtngoglhlhlfknaaGreat.st
