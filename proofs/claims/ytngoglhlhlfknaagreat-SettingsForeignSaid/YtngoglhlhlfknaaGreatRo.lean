/-
  Check of settings, the reference: what the whole computes. No condition.
-/
import Derived.Test.YtngoglhlhlfknaaGreatZRw
import Derived.Test.YtngoglhlhlfknaaGreatZLd
import Derived.Test.YtngoglhlhlfknaaGreatSu
namespace Go.Proofs.YtngoglhlhlfknaaGreat.se
open Go.RowKit Go.Eb
set_option maxRecDepth 100000

structure KOn where
  okn : List AV → Bool
  nm : List AV → List ByteArray
  oki : List AV → Bool
  ix : List AV → Int
  okp : List AV → Bool
  pl : List AV → Int
  okr : List AV → Bool
  fo : List AV → Bool
  nu : List AV → Bool
  mi : List AV → Bool
  ma : List AV → Bool
  oku : List AV → Bool
  ru : List AV → Int
  li : List AV → Int
noncomputable def oOn (Z : KOn) (nk : ByteArray → Bool) : Orc := Orc.cons 19 (ansP decS fun s => vB (nk s)) (Orc.cons 86 (ansG Z.okn fun x => .c (.d (busesD (Z.nm x)))) (Orc.cons 44 (ansL Z.oki fun x => vI (Z.ix x)) (Orc.cons 87 (ansG Z.okp fun x => vI (Z.pl x))
  (Orc.cons 88 (ansG Z.okr fun x => vB (Z.fo x)) (Orc.cons 89 (ansG Z.okr fun x => vB (Z.nu x)) (Orc.cons 90 (ansG Z.okr fun x => vB (Z.mi x)) (Orc.cons 91 (ansG Z.okr fun x => vB (Z.ma x))
  (Orc.cons 92 (ansG Z.oku fun x => vI (Z.ru x)) (Orc.cons 93 (ansG Z.oku fun x => vI (Z.li x)) Orc.nil)))))))))
noncomputable def annon7 : Ann := annOf [(6, ⟨[5, 1, 3, 7], []⟩)]
noncomputable def Lon7_6 (Z : KOn) (nk : ByteArray → Bool) (s : SSta) (b : List SRel) (r : SRel) (g m : Nat) (i7 : Int) := LK Tryz.prog (oOn Z nk) annon7 (List.length (α := Nat × Blk) []) g Tryz.f34 6 m ⟨frm [(1, AV.c (C.d (listD 53 relC rel0 b))), (3, AV.c (C.ptr 0 0)), (5, AV.c (C.ptr 1 0)), (7, AV.c (C.d (D.v (Value.int IntKind.i64 i7))))] 0 Tryz.f34.ntmps, [(0, Blk.cells (List.map C.d (staC s)) 27), (1, Blk.cells (List.map C.d (relC r)) 57)], 2⟩
theorem bon7 : Tryz.f34.body = some (bodyOf Tryz.f34) := by kernel_rfl
set_option maxRecDepth 100000 in
theorem evon7 (Z : KOn) (nk : ByteArray → Bool) (s : SSta) (b : List SRel) (r : SRel) (g : Nat) : callC Tryz.prog (oOn Z nk) annon7 g Tryz.f34 (bodyOf Tryz.f34) [aSta s, .c (.d (relsD b)), aRel r] [] =
 (bif !nk (SRel.name r) then some (T.leaf (AV.c (C.d (D.v (Value.int IntKind.i64 (7 : Int)))), [])) else (bif KOn.okn Z [AV.agg (List.map C.d (staC s))] then (bif KOn.oki Z [AV.c
 (C.d (listD ((1 : Nat)) busC e0 (KOn.nm Z [AV.agg (List.map C.d (staC s))]))), AV.c (C.d (D.v (Value.string (SRel.name r))))] then (bif decide (KOn.ix Z [AV.c (C.d (listD ((1 :
 Nat)) busC e0 (KOn.nm Z [AV.agg (List.map C.d (staC s))]))), AV.c (C.d (D.v (Value.string (SRel.name r))))] ≥ (0 : Int)) then some (T.leaf (AV.c (C.d (D.v (Value.int IntKind.i64 (8
 : Int)))), [])) else Lon7_6 Z nk s b r g g ((0 : Int))) else none) else none)) := by kernel_rfl
set_option maxRecDepth 100000 in
theorem ston7_6 (Z : KOn) (nk : ByteArray → Bool) (s : SSta) (b : List SRel) (r : SRel) (g m : Nat) (i7 : Int) : Lon7_6 Z nk s b r g (m + 1) i7 =
 (bif decide (i7 < (↑(List.length b) : Int)) then (bif decide ((0 : Int) ≤ i7) && decide (i7 < (↑(List.length b) : Int)) then (bif ByteArray.toList (SRel.name (List.getD b (Int.toNat
 i7) rel0)) == ByteArray.toList (SRel.name r) then some (T.leaf (AV.c (C.d (D.v (Value.int IntKind.i64 (8 : Int)))), [])) else Lon7_6 Z nk s b r g m (IntKind.wrap IntKind.i64 (i7 +
 (1 : Int)))) else none) else (bif KOn.okp Z [AV.agg (List.map C.d (staC s)), AV.c (C.d (listD ((53 : Nat)) relC rel0 b)), AV.agg (List.map C.d (relC r))] then (bif KOn.pl Z [AV.agg
 (List.map C.d (staC s)), AV.c (C.d (listD ((53 : Nat)) relC rel0 b)), AV.agg (List.map C.d (relC r))] != (0 : Int) then some (T.leaf (AV.c (C.d (D.v (Value.int IntKind.i64 (KOn.pl Z
 [AV.agg (List.map C.d (staC s)), AV.c (C.d (listD ((53 : Nat)) relC rel0 b)), AV.agg (List.map C.d (relC r))])))), [])) else (bif KOn.okr Z [AV.agg (List.map C.d (relC r))] then
 (bif KOn.fo Z [AV.agg (List.map C.d (relC r))] then some (T.leaf (AV.c (C.d (D.v (Value.int IntKind.i64 (12 : Int)))), [])) else (bif KOn.okr Z [AV.agg (List.map C.d (relC r))] then
 (bif !KOn.nu Z [AV.agg (List.map C.d (relC r))] then some (T.leaf (AV.c (C.d (D.v (Value.int IntKind.i64 (2 : Int)))), [])) else (bif KOn.okr Z [AV.agg (List.map C.d (relC r))] then
 (bif KOn.mi Z [AV.agg (List.map C.d (relC r))] then some (T.leaf (AV.c (C.d (D.v (Value.int IntKind.i64 (11 : Int)))), [])) else (bif KOn.okr Z [AV.agg (List.map C.d (relC r))] then
 (bif KOn.ma Z [AV.agg (List.map C.d (relC r))] then some (T.leaf (AV.c (C.d (D.v (Value.int IntKind.i64 (3 : Int)))), [])) else (bif KOn.oku Z [AV.agg (List.map C.d (relC r))] then
 (bif KOn.ru Z [AV.agg (List.map C.d (relC r))] != (0 : Int) then some (T.leaf (AV.c (C.d (D.v (Value.int IntKind.i64 (KOn.ru Z [AV.agg (List.map C.d (relC r))])))), [])) else (bif
 KOn.oku Z [AV.agg (List.map C.d (relC r))] then some (T.leaf (AV.c (C.d (D.v (Value.int IntKind.i64 (KOn.li Z [AV.agg (List.map C.d (relC r))])))), [])) else none)) else none)) else
 none)) else none)) else none)) else none)) else none)) := by kernel_rfl
noncomputable def oCk (oko : List AV → Bool) (on : List AV → Int) : Orc := Orc.cons 34 (ansG oko fun x => vI (on x)) Orc.nil
noncomputable def annck7 : Ann := annOf [(2, ⟨[6, 1, 2], []⟩)]
noncomputable def Lck7_2 (oko : List AV → Bool) (on : List AV → Int) (s : SSta) (l : List SRel) (g m : Nat) (i6 : Int) := LK Tryz.prog (oCk oko on) annck7 (List.length (α := Nat × Blk) []) g Tryz.f15 2 m ⟨frm [(1, AV.c (C.d (listD 53 relC rel0 l))), (2, AV.c (C.ptr 0 0)), (6, AV.c (C.d (D.v (Value.int IntKind.i64 i6))))] 0 Tryz.f15.ntmps, [(0, Blk.cells (List.map C.d (staC s)) 27)], 1⟩
theorem bck7 : Tryz.f15.body = some (bodyOf Tryz.f15) := by kernel_rfl
set_option maxRecDepth 100000 in
theorem evck7 (oko : List AV → Bool) (on : List AV → Int) (s : SSta) (l : List SRel) (g : Nat) : callC Tryz.prog (oCk oko on) annck7 g Tryz.f15 (bodyOf Tryz.f15) [aSta s, .c (.d (relsD l))] [] =
 Lck7_2 oko on s l g g ((0 : Int)) := by kernel_rfl
set_option maxRecDepth 100000 in
theorem stck7_2 (oko : List AV → Bool) (on : List AV → Int) (s : SSta) (l : List SRel) (g m : Nat) (i6 : Int) : Lck7_2 oko on s l g (m + 1) i6 =
 (bif decide (i6 < (↑(List.length l) : Int)) then (bif decide ((0 : Int) ≤ (↑(0 : Nat) : Int)) && decide ((↑(0 : Nat) : Int) ≤ i6) && decide (i6 ≤ (↑(List.length l) : Int)) then (bif
 decide ((0 : Int) ≤ i6) && decide (i6 < (↑(List.length l) : Int)) then (bif oko [AV.agg (List.map C.d (staC s)), AV.c (C.d (D.sl ((53 : Nat)) (Int.toNat i6 - Int.toNat (↑(0 : Nat) :
 Int)) fun i => relC (List.getD l (Int.toNat (↑(0 : Nat) : Int) + i) rel0))), AV.agg (List.map C.d (relC (List.getD l (Int.toNat i6) rel0)))] then (bif on [AV.agg (List.map C.d (staC
 s)), AV.c (C.d (D.sl ((53 : Nat)) (Int.toNat i6 - Int.toNat (↑(0 : Nat) : Int)) fun i => relC (List.getD l (Int.toNat (↑(0 : Nat) : Int) + i) rel0))), AV.agg (List.map C.d (relC
 (List.getD l (Int.toNat i6) rel0)))] != (0 : Int) then some (T.leaf (AV.tup [(false, [C.d (D.v (Value.int IntKind.i64 i6))]), (false, [C.d (D.v (Value.int IntKind.i64 (on [AV.agg
 (List.map C.d (staC s)), AV.c (C.d (D.sl ((53 : Nat)) (Int.toNat i6 - Int.toNat (↑(0 : Nat) : Int)) fun i => relC (List.getD l (Int.toNat (↑(0 : Nat) : Int) + i) rel0))), AV.agg
 (List.map C.d (relC (List.getD l (Int.toNat i6) rel0)))])))])], [])) else Lck7_2 oko on s l g m (IntKind.wrap IntKind.i64 (i6 + (1 : Int)))) else none) else none) else none) else
 some (T.leaf (AV.tup [(false, [C.d (D.v (Value.int IntKind.i64 (0 : Int)))]), (false, [C.d (D.v (Value.int IntKind.i64 (0 : Int)))])], []))) := by kernel_rfl
end Go.Proofs.YtngoglhlhlfknaaGreat.se
