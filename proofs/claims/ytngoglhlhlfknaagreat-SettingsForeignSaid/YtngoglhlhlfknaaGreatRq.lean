/-
  SettingsForeign: what the statement computes. No condition.
-/
import Derived.Test.YtngoglhlhlfknaaGreatZLd
import Derived.Test.YtngoglhlhlfknaaGreatRi
namespace Go.Proofs.YtngoglhlhlfknaaGreat.se
open Go.RowKit Go.Eb Go.Proofs.YtngoglhlhlfknaaGreat.st
set_option maxRecDepth 100000

structure KFo where
  okf : List AV → Bool
  fi : List AV → Bool
  okc : List AV → Bool
  ci : List AV → Int
  ce : List AV → Int
noncomputable def oFo (Z : KFo) : Orc := Orc.cons 7 (ansP dec0 fun _ => vB true) (Orc.cons 14 (ansG Z.okf fun x => vB (Z.fi x)) (Orc.cons 15 (ansG Z.okc fun x => .tup [(false, [.d (dI (Z.ci x))]), (false, [.d (dI (Z.ce x))])]) (Orc.cons 13 (ansL Z.okc fun x => .tup [(false, [.d (dI (Z.ci x))]), (false, [.d (dI (Z.ce x))])]) Orc.nil)))
def forC (s : SSta) (l : List SRel) (p q : Int) : List D := staC s ++ [relsD l, dI p, dI q]
abbrev aFor (s : SSta) (l : List SRel) (p q : Int) : AV := .agg ((forC s l p q).map .d)
noncomputable def annfo : Ann := annOf [(100012, ⟨[5, 3, 6, 4], []⟩)]
noncomputable def Lfo_12 (Z : KFo) (s : SSta) (l : List SRel) (p q : Int) (g m : Nat) (i5 : Int) (i6 : Int) := GK Tryz.prog (oFo Z) annfo (List.length (α := Nat × Blk) []) g Tryz.f5 12 m ⟨frm [(3, AV.c (C.ptr 0 0)), (4, AV.c (C.d (listD 53 relC rel0 l))), (5, AV.c (C.d (D.v (Value.int IntKind.i64 i5)))), (6, AV.c (C.d (D.v (Value.int IntKind.i64 i6))))] 0 Tryz.f5.ntmps, [(0, Blk.cells (List.map C.d (staC s)) 27)], 1⟩
theorem bfo : Tryz.f5.body = some (bodyOf Tryz.f5) := by kernel_rfl
set_option maxRecDepth 100000 in
theorem evfo (Z : KFo) (s : SSta) (l : List SRel) (p q : Int) (g : Nat) : callC Tryz.prog (oFo Z) annfo g Tryz.f5 (bodyOf Tryz.f5) [aFor s l p q] [] =
 (bif KFo.okf Z [AV.agg (List.map C.d (staC s)), AV.c (C.d (listD ((53 : Nat)) relC rel0 l))] then (bif !KFo.fi Z [AV.agg (List.map C.d (staC s)), AV.c (C.d (listD ((53 : Nat)) relC
 rel0 l))] then some (T.leaf (AV.c (C.d (D.v (Value.bool true))), [])) else (bif (↑(List.length l) : Int) == (0 : Int) then some (T.leaf (AV.c (C.d (D.v (Value.bool true))), []))
 else (bif KFo.okc Z [AV.agg (List.map C.d (staC s)), AV.c (C.d (listD ((53 : Nat)) relC rel0 l))] then (bif KFo.ce Z [AV.agg (List.map C.d (staC s)), AV.c (C.d (listD ((53 : Nat))
 relC rel0 l))] != (0 : Int) then some (T.leaf (AV.c (C.d (D.v (Value.bool true))), [])) else (bif !(↑(List.length l) : Int) == (0 : Int) then (bif decide (Int.tmod p (↑(List.length
 l) : Int) < (0 : Int)) then Lfo_12 Z s l p q g g (IntKind.wrap IntKind.i64 (Int.tmod p (↑(List.length l) : Int) + (↑(List.length l) : Int))) (Int.tmod q (4 : Int)) else Lfo_12 Z s l
 p q g g (Int.tmod p (↑(List.length l) : Int)) (Int.tmod q (4 : Int))) else none)) else none))) else none) := by kernel_rfl
set_option maxRecDepth 100000 in
theorem stfo_12 (Z : KFo) (s : SSta) (l : List SRel) (p q : Int) (g m : Nat) (i5 : Int) (i6 : Int) : Lfo_12 Z s l p q g (m + 1) i5 i6 =
 (bif decide (((0 : Nat) + List.length l) * (472 : Nat) ≤ (140737488355328 : Nat)) && decide ((0 : Nat) + List.length l ≤ (9223372036854775807 : Nat)) then (bif decide ((0 : Int) ≤
 i5) && decide (i5 < (↑((0 : Nat) + List.length l) : Int)) then (bif i6 == (0 : Int) then (bif decide ((0 : Int) ≤ i5) && decide (i5 < (↑((0 : Nat) + List.length l) : Int)) then (bif
 KFo.okc Z [AV.agg (List.map C.d (staC s)), AV.c (C.d (D.sl ((53 : Nat)) ((0 : Nat) + List.length l) fun j => bif Nat.beq j (Int.toNat i5) then splice (appF (0 : Nat) (chunk [] ((52
 : Nat) + (1 : Nat))) (fun i => relC (List.getD l i rel0)) j) (0 : Nat) [dS (SRel.name (List.getD l (Int.toNat i5 - (0 : Nat)) rel0)), dI (SRel.kind (List.getD l (Int.toNat i5 - (0 :
 Nat)) rel0)), dI (SRel.bay (List.getD l (Int.toNat i5 - (0 : Nat)) rel0)), dB (SRel.zon0 (List.getD l (Int.toNat i5 - (0 : Nat)) rel0)), dB (SRel.zfw0 (List.getD l (Int.toNat i5 -
 (0 : Nat)) rel0)), dI (SRel.zx0 (List.getD l (Int.toNat i5 - (0 : Nat)) rel0)), dI (SRel.zr0 (List.getD l (Int.toNat i5 - (0 : Nat)) rel0)), dI (SRel.zl0 (List.getD l (Int.toNat i5
 - (0 : Nat)) rel0)), dI (SRel.zd0 (List.getD l (Int.toNat i5 - (0 : Nat)) rel0)), dB (SRel.zon1 (List.getD l (Int.toNat i5 - (0 : Nat)) rel0)), dB (SRel.zfw1 (List.getD l (Int.toNat
 i5 - (0 : Nat)) rel0)), dI (SRel.zx1 (List.getD l (Int.toNat i5 - (0 : Nat)) rel0)), dI (SRel.zr1 (List.getD l (Int.toNat i5 - (0 : Nat)) rel0)), dI (SRel.zl1 (List.getD l
 (Int.toNat i5 - (0 : Nat)) rel0)), dI (SRel.zd1 (List.getD l (Int.toNat i5 - (0 : Nat)) rel0)), dB (SRel.zon2 (List.getD l (Int.toNat i5 - (0 : Nat)) rel0)), dB (SRel.zfw2
 (List.getD l (Int.toNat i5 - (0 : Nat)) rel0)), dI (SRel.zx2 (List.getD l (Int.toNat i5 - (0 : Nat)) rel0)), dI (SRel.zr2 (List.getD l (Int.toNat i5 - (0 : Nat)) rel0)), dI
 (SRel.zl2 (List.getD l (Int.toNat i5 - (0 : Nat)) rel0)), dI (SRel.zd2 (List.getD l (Int.toNat i5 - (0 : Nat)) rel0)), dI (SRel.min (List.getD l (Int.toNat i5 - (0 : Nat)) rel0)),
 dI (SRel.kre (List.getD l (Int.toNat i5 - (0 : Nat)) rel0)), dI (SRel.kim (List.getD l (Int.toNat i5 - (0 : Nat)) rel0)), dI (SRel.scheme (List.getD l (Int.toNat i5 - (0 : Nat))
 rel0)), dI (SRel.wait (List.getD l (Int.toNat i5 - (0 : Nat)) rel0)), dI (SRel.guard (List.getD l (Int.toNat i5 - (0 : Nat)) rel0)), dB (SRel.don (List.getD l (Int.toNat i5 - (0 :
 Nat)) rel0)), dI (SRel.dpk (List.getD l (Int.toNat i5 - (0 : Nat)) rel0)), dI (SRel.ddl (List.getD l (Int.toNat i5 - (0 : Nat)) rel0)), dB (SRel.ion (List.getD l (Int.toNat i5 - (0
 : Nat)) rel0)), dI (SRel.ipk (List.getD l (Int.toNat i5 - (0 : Nat)) rel0)), dI (SRel.idl (List.getD l (Int.toNat i5 - (0 : Nat)) rel0)), dB (SRel.fon (List.getD l (Int.toNat i5 -
 (0 : Nat)) rel0)), dI (SRel.fpk (List.getD l (Int.toNat i5 - (0 : Nat)) rel0)), dI (SRel.fdl (List.getD l (Int.toNat i5 - (0 : Nat)) rel0)), D.v (Value.int IntKind.i64 (1 : Int)),
 D.v (Value.int IntKind.i64 (1 : Int)), D.v (Value.int IntKind.i64 (1 : Int)), dB (SRel.uon (List.getD l (Int.toNat i5 - (0 : Nat)) rel0)), dI (SRel.upk (List.getD l (Int.toNat i5 -
 (0 : Nat)) rel0)), dI (SRel.udl (List.getD l (Int.toNat i5 - (0 : Nat)) rel0)), dB (SRel.oon (List.getD l (Int.toNat i5 - (0 : Nat)) rel0)), dI (SRel.opk (List.getD l (Int.toNat i5
 - (0 : Nat)) rel0)), dI (SRel.odl (List.getD l (Int.toNat i5 - (0 : Nat)) rel0)), dI (SRel.diff (List.getD l (Int.toNat i5 - (0 : Nat)) rel0)), dI (SRel.num (List.getD l (Int.toNat
 i5 - (0 : Nat)) rel0)), dI (SRel.den (List.getD l (Int.toNat i5 - (0 : Nat)) rel0)), dI (SRel.harm (List.getD l (Int.toNat i5 - (0 : Nat)) rel0)), rulesD (SRel.rules (List.getD l
 (Int.toNat i5 - (0 : Nat)) rel0)), setsD (SRel.sets (List.getD l (Int.toNat i5 - (0 : Nat)) rel0)), pubsD (SRel.pubs (List.getD l (Int.toNat i5 - (0 : Nat)) rel0)), subsD (SRel.subs
 (List.getD l (Int.toNat i5 - (0 : Nat)) rel0))] else appF (0 : Nat) (chunk [] ((52 : Nat) + (1 : Nat))) (fun i => relC (List.getD l i rel0)) j))] then (bif !SRel.kind (List.getD l
 (Int.toNat i5 - (0 : Nat)) rel0) != (1 : Int) then (bif KFo.ci Z [AV.agg (List.map C.d (staC s)), AV.c (C.d (D.sl ((53 : Nat)) ((0 : Nat) + List.length l) fun j => bif Nat.beq j
 (Int.toNat i5) then splice (appF (0 : Nat) (chunk [] ((52 : Nat) + (1 : Nat))) (fun i => relC (List.getD l i rel0)) j) (0 : Nat) [dS (SRel.name (List.getD l (Int.toNat i5 - (0 :
 Nat)) rel0)), dI (SRel.kind (List.getD l (Int.toNat i5 - (0 : Nat)) rel0)), dI (SRel.bay (List.getD l (Int.toNat i5 - (0 : Nat)) rel0)), dB (SRel.zon0 (List.getD l (Int.toNat i5 -
 (0 : Nat)) rel0)), dB (SRel.zfw0 (List.getD l (Int.toNat i5 - (0 : Nat)) rel0)), dI (SRel.zx0 (List.getD l (Int.toNat i5 - (0 : Nat)) rel0)), dI (SRel.zr0 (List.getD l (Int.toNat i5
 - (0 : Nat)) rel0)), dI (SRel.zl0 (List.getD l (Int.toNat i5 - (0 : Nat)) rel0)), dI (SRel.zd0 (List.getD l (Int.toNat i5 - (0 : Nat)) rel0)), dB (SRel.zon1 (List.getD l (Int.toNat
 i5 - (0 : Nat)) rel0)), dB (SRel.zfw1 (List.getD l (Int.toNat i5 - (0 : Nat)) rel0)), dI (SRel.zx1 (List.getD l (Int.toNat i5 - (0 : Nat)) rel0)), dI (SRel.zr1 (List.getD l
 (Int.toNat i5 - (0 : Nat)) rel0)), dI (SRel.zl1 (List.getD l (Int.toNat i5 - (0 : Nat)) rel0)), dI (SRel.zd1 (List.getD l (Int.toNat i5 - (0 : Nat)) rel0)), dB (SRel.zon2 (List.getD
 l (Int.toNat i5 - (0 : Nat)) rel0)), dB (SRel.zfw2 (List.getD l (Int.toNat i5 - (0 : Nat)) rel0)), dI (SRel.zx2 (List.getD l (Int.toNat i5 - (0 : Nat)) rel0)), dI (SRel.zr2
 (List.getD l (Int.toNat i5 - (0 : Nat)) rel0)), dI (SRel.zl2 (List.getD l (Int.toNat i5 - (0 : Nat)) rel0)), dI (SRel.zd2 (List.getD l (Int.toNat i5 - (0 : Nat)) rel0)), dI
 (SRel.min (List.getD l (Int.toNat i5 - (0 : Nat)) rel0)), dI (SRel.kre (List.getD l (Int.toNat i5 - (0 : Nat)) rel0)), dI (SRel.kim (List.getD l (Int.toNat i5 - (0 : Nat)) rel0)),
 dI (SRel.scheme (List.getD l (Int.toNat i5 - (0 : Nat)) rel0)), dI (SRel.wait (List.getD l (Int.toNat i5 - (0 : Nat)) rel0)), dI (SRel.guard (List.getD l (Int.toNat i5 - (0 : Nat))
 rel0)), dB (SRel.don (List.getD l (Int.toNat i5 - (0 : Nat)) rel0)), dI (SRel.dpk (List.getD l (Int.toNat i5 - (0 : Nat)) rel0)), dI (SRel.ddl (List.getD l (Int.toNat i5 - (0 :
 Nat)) rel0)), dB (SRel.ion (List.getD l (Int.toNat i5 - (0 : Nat)) rel0)), dI (SRel.ipk (List.getD l (Int.toNat i5 - (0 : Nat)) rel0)), dI (SRel.idl (List.getD l (Int.toNat i5 - (0
 : Nat)) rel0)), dB (SRel.fon (List.getD l (Int.toNat i5 - (0 : Nat)) rel0)), dI (SRel.fpk (List.getD l (Int.toNat i5 - (0 : Nat)) rel0)), dI (SRel.fdl (List.getD l (Int.toNat i5 -
 (0 : Nat)) rel0)), D.v (Value.int IntKind.i64 (1 : Int)), D.v (Value.int IntKind.i64 (1 : Int)), D.v (Value.int IntKind.i64 (1 : Int)), dB (SRel.uon (List.getD l (Int.toNat i5 - (0
 : Nat)) rel0)), dI (SRel.upk (List.getD l (Int.toNat i5 - (0 : Nat)) rel0)), dI (SRel.udl (List.getD l (Int.toNat i5 - (0 : Nat)) rel0)), dB (SRel.oon (List.getD l (Int.toNat i5 -
 (0 : Nat)) rel0)), dI (SRel.opk (List.getD l (Int.toNat i5 - (0 : Nat)) rel0)), dI (SRel.odl (List.getD l (Int.toNat i5 - (0 : Nat)) rel0)), dI (SRel.diff (List.getD l (Int.toNat i5
 - (0 : Nat)) rel0)), dI (SRel.num (List.getD l (Int.toNat i5 - (0 : Nat)) rel0)), dI (SRel.den (List.getD l (Int.toNat i5 - (0 : Nat)) rel0)), dI (SRel.harm (List.getD l (Int.toNat
 i5 - (0 : Nat)) rel0)), rulesD (SRel.rules (List.getD l (Int.toNat i5 - (0 : Nat)) rel0)), setsD (SRel.sets (List.getD l (Int.toNat i5 - (0 : Nat)) rel0)), pubsD (SRel.pubs
 (List.getD l (Int.toNat i5 - (0 : Nat)) rel0)), subsD (SRel.subs (List.getD l (Int.toNat i5 - (0 : Nat)) rel0))] else appF (0 : Nat) (chunk [] ((52 : Nat) + (1 : Nat))) (fun i =>
 relC (List.getD l i rel0)) j))] == (0 : Int) then some (T.leaf (AV.c (C.d (D.v (Value.bool (KFo.ce Z [AV.agg (List.map C.d (staC s)), AV.c (C.d (D.sl ((53 : Nat)) ((0 : Nat) +
 List.length l) fun j => bif Nat.beq j (Int.toNat i5) then splice (appF (0 : Nat) (chunk [] ((52 : Nat) + (1 : Nat))) (fun i => relC (List.getD l i rel0)) j) (0 : Nat) [dS (SRel.name
 (List.getD l (Int.toNat i5 - (0 : Nat)) rel0)), dI (SRel.kind (List.getD l (Int.toNat i5 - (0 : Nat)) rel0)), dI (SRel.bay (List.getD l (Int.toNat i5 - (0 : Nat)) rel0)), dB
 (SRel.zon0 (List.getD l (Int.toNat i5 - (0 : Nat)) rel0)), dB (SRel.zfw0 (List.getD l (Int.toNat i5 - (0 : Nat)) rel0)), dI (SRel.zx0 (List.getD l (Int.toNat i5 - (0 : Nat)) rel0)),
 dI (SRel.zr0 (List.getD l (Int.toNat i5 - (0 : Nat)) rel0)), dI (SRel.zl0 (List.getD l (Int.toNat i5 - (0 : Nat)) rel0)), dI (SRel.zd0 (List.getD l (Int.toNat i5 - (0 : Nat))
 rel0)), dB (SRel.zon1 (List.getD l (Int.toNat i5 - (0 : Nat)) rel0)), dB (SRel.zfw1 (List.getD l (Int.toNat i5 - (0 : Nat)) rel0)), dI (SRel.zx1 (List.getD l (Int.toNat i5 - (0 :
 Nat)) rel0)), dI (SRel.zr1 (List.getD l (Int.toNat i5 - (0 : Nat)) rel0)), dI (SRel.zl1 (List.getD l (Int.toNat i5 - (0 : Nat)) rel0)), dI (SRel.zd1 (List.getD l (Int.toNat i5 - (0
 : Nat)) rel0)), dB (SRel.zon2 (List.getD l (Int.toNat i5 - (0 : Nat)) rel0)), dB (SRel.zfw2 (List.getD l (Int.toNat i5 - (0 : Nat)) rel0)), dI (SRel.zx2 (List.getD l (Int.toNat i5 -
 (0 : Nat)) rel0)), dI (SRel.zr2 (List.getD l (Int.toNat i5 - (0 : Nat)) rel0)), dI (SRel.zl2 (List.getD l (Int.toNat i5 - (0 : Nat)) rel0)), dI (SRel.zd2 (List.getD l (Int.toNat i5
 - (0 : Nat)) rel0)), dI (SRel.min (List.getD l (Int.toNat i5 - (0 : Nat)) rel0)), dI (SRel.kre (List.getD l (Int.toNat i5 - (0 : Nat)) rel0)), dI (SRel.kim (List.getD l (Int.toNat
 i5 - (0 : Nat)) rel0)), dI (SRel.scheme (List.getD l (Int.toNat i5 - (0 : Nat)) rel0)), dI (SRel.wait (List.getD l (Int.toNat i5 - (0 : Nat)) rel0)), dI (SRel.guard (List.getD l
 (Int.toNat i5 - (0 : Nat)) rel0)), dB (SRel.don (List.getD l (Int.toNat i5 - (0 : Nat)) rel0)), dI (SRel.dpk (List.getD l (Int.toNat i5 - (0 : Nat)) rel0)), dI (SRel.ddl (List.getD
 l (Int.toNat i5 - (0 : Nat)) rel0)), dB (SRel.ion (List.getD l (Int.toNat i5 - (0 : Nat)) rel0)), dI (SRel.ipk (List.getD l (Int.toNat i5 - (0 : Nat)) rel0)), dI (SRel.idl
 (List.getD l (Int.toNat i5 - (0 : Nat)) rel0)), dB (SRel.fon (List.getD l (Int.toNat i5 - (0 : Nat)) rel0)), dI (SRel.fpk (List.getD l (Int.toNat i5 - (0 : Nat)) rel0)), dI
 (SRel.fdl (List.getD l (Int.toNat i5 - (0 : Nat)) rel0)), D.v (Value.int IntKind.i64 (1 : Int)), D.v (Value.int IntKind.i64 (1 : Int)), D.v (Value.int IntKind.i64 (1 : Int)), dB
 (SRel.uon (List.getD l (Int.toNat i5 - (0 : Nat)) rel0)), dI (SRel.upk (List.getD l (Int.toNat i5 - (0 : Nat)) rel0)), dI (SRel.udl (List.getD l (Int.toNat i5 - (0 : Nat)) rel0)),
 dB (SRel.oon (List.getD l (Int.toNat i5 - (0 : Nat)) rel0)), dI (SRel.opk (List.getD l (Int.toNat i5 - (0 : Nat)) rel0)), dI (SRel.odl (List.getD l (Int.toNat i5 - (0 : Nat))
 rel0)), dI (SRel.diff (List.getD l (Int.toNat i5 - (0 : Nat)) rel0)), dI (SRel.num (List.getD l (Int.toNat i5 - (0 : Nat)) rel0)), dI (SRel.den (List.getD l (Int.toNat i5 - (0 :
 Nat)) rel0)), dI (SRel.harm (List.getD l (Int.toNat i5 - (0 : Nat)) rel0)), rulesD (SRel.rules (List.getD l (Int.toNat i5 - (0 : Nat)) rel0)), setsD (SRel.sets (List.getD l
 (Int.toNat i5 - (0 : Nat)) rel0)), pubsD (SRel.pubs (List.getD l (Int.toNat i5 - (0 : Nat)) rel0)), subsD (SRel.subs (List.getD l (Int.toNat i5 - (0 : Nat)) rel0))] else appF (0 :
 Nat) (chunk [] ((52 : Nat) + (1 : Nat))) (fun i => relC (List.getD l i rel0)) j))] == (0 : Int))))), [])) else some (T.leaf (AV.c (C.d (D.v (Value.bool false))), []))) else (bif
 KFo.ci Z [AV.agg (List.map C.d (staC s)), AV.c (C.d (D.sl ((53 : Nat)) ((0 : Nat) + List.length l) fun j => bif Nat.beq j (Int.toNat i5) then splice (appF (0 : Nat) (chunk [] ((52 :
 Nat) + (1 : Nat))) (fun i => relC (List.getD l i rel0)) j) (0 : Nat) [dS (SRel.name (List.getD l (Int.toNat i5 - (0 : Nat)) rel0)), dI (SRel.kind (List.getD l (Int.toNat i5 - (0 :
 Nat)) rel0)), dI (SRel.bay (List.getD l (Int.toNat i5 - (0 : Nat)) rel0)), dB (SRel.zon0 (List.getD l (Int.toNat i5 - (0 : Nat)) rel0)), dB (SRel.zfw0 (List.getD l (Int.toNat i5 -
 (0 : Nat)) rel0)), dI (SRel.zx0 (List.getD l (Int.toNat i5 - (0 : Nat)) rel0)), dI (SRel.zr0 (List.getD l (Int.toNat i5 - (0 : Nat)) rel0)), dI (SRel.zl0 (List.getD l (Int.toNat i5
 - (0 : Nat)) rel0)), dI (SRel.zd0 (List.getD l (Int.toNat i5 - (0 : Nat)) rel0)), dB (SRel.zon1 (List.getD l (Int.toNat i5 - (0 : Nat)) rel0)), dB (SRel.zfw1 (List.getD l (Int.toNat
 i5 - (0 : Nat)) rel0)), dI (SRel.zx1 (List.getD l (Int.toNat i5 - (0 : Nat)) rel0)), dI (SRel.zr1 (List.getD l (Int.toNat i5 - (0 : Nat)) rel0)), dI (SRel.zl1 (List.getD l
 (Int.toNat i5 - (0 : Nat)) rel0)), dI (SRel.zd1 (List.getD l (Int.toNat i5 - (0 : Nat)) rel0)), dB (SRel.zon2 (List.getD l (Int.toNat i5 - (0 : Nat)) rel0)), dB (SRel.zfw2
 (List.getD l (Int.toNat i5 - (0 : Nat)) rel0)), dI (SRel.zx2 (List.getD l (Int.toNat i5 - (0 : Nat)) rel0)), dI (SRel.zr2 (List.getD l (Int.toNat i5 - (0 : Nat)) rel0)), dI
 (SRel.zl2 (List.getD l (Int.toNat i5 - (0 : Nat)) rel0)), dI (SRel.zd2 (List.getD l (Int.toNat i5 - (0 : Nat)) rel0)), dI (SRel.min (List.getD l (Int.toNat i5 - (0 : Nat)) rel0)),
 dI (SRel.kre (List.getD l (Int.toNat i5 - (0 : Nat)) rel0)), dI (SRel.kim (List.getD l (Int.toNat i5 - (0 : Nat)) rel0)), dI (SRel.scheme (List.getD l (Int.toNat i5 - (0 : Nat))
 rel0)), dI (SRel.wait (List.getD l (Int.toNat i5 - (0 : Nat)) rel0)), dI (SRel.guard (List.getD l (Int.toNat i5 - (0 : Nat)) rel0)), dB (SRel.don (List.getD l (Int.toNat i5 - (0 :
 Nat)) rel0)), dI (SRel.dpk (List.getD l (Int.toNat i5 - (0 : Nat)) rel0)), dI (SRel.ddl (List.getD l (Int.toNat i5 - (0 : Nat)) rel0)), dB (SRel.ion (List.getD l (Int.toNat i5 - (0
 : Nat)) rel0)), dI (SRel.ipk (List.getD l (Int.toNat i5 - (0 : Nat)) rel0)), dI (SRel.idl (List.getD l (Int.toNat i5 - (0 : Nat)) rel0)), dB (SRel.fon (List.getD l (Int.toNat i5 -
 (0 : Nat)) rel0)), dI (SRel.fpk (List.getD l (Int.toNat i5 - (0 : Nat)) rel0)), dI (SRel.fdl (List.getD l (Int.toNat i5 - (0 : Nat)) rel0)), D.v (Value.int IntKind.i64 (1 : Int)),
 D.v (Value.int IntKind.i64 (1 : Int)), D.v (Value.int IntKind.i64 (1 : Int)), dB (SRel.uon (List.getD l (Int.toNat i5 - (0 : Nat)) rel0)), dI (SRel.upk (List.getD l (Int.toNat i5 -
 (0 : Nat)) rel0)), dI (SRel.udl (List.getD l (Int.toNat i5 - (0 : Nat)) rel0)), dB (SRel.oon (List.getD l (Int.toNat i5 - (0 : Nat)) rel0)), dI (SRel.opk (List.getD l (Int.toNat i5
 - (0 : Nat)) rel0)), dI (SRel.odl (List.getD l (Int.toNat i5 - (0 : Nat)) rel0)), dI (SRel.diff (List.getD l (Int.toNat i5 - (0 : Nat)) rel0)), dI (SRel.num (List.getD l (Int.toNat
 i5 - (0 : Nat)) rel0)), dI (SRel.den (List.getD l (Int.toNat i5 - (0 : Nat)) rel0)), dI (SRel.harm (List.getD l (Int.toNat i5 - (0 : Nat)) rel0)), rulesD (SRel.rules (List.getD l
 (Int.toNat i5 - (0 : Nat)) rel0)), setsD (SRel.sets (List.getD l (Int.toNat i5 - (0 : Nat)) rel0)), pubsD (SRel.pubs (List.getD l (Int.toNat i5 - (0 : Nat)) rel0)), subsD (SRel.subs
 (List.getD l (Int.toNat i5 - (0 : Nat)) rel0))] else appF (0 : Nat) (chunk [] ((52 : Nat) + (1 : Nat))) (fun i => relC (List.getD l i rel0)) j))] == i5 then some (T.leaf (AV.c (C.d
 (D.v (Value.bool (KFo.ce Z [AV.agg (List.map C.d (staC s)), AV.c (C.d (D.sl ((53 : Nat)) ((0 : Nat) + List.length l) fun j => bif Nat.beq j (Int.toNat i5) then splice (appF (0 :
 Nat) (chunk [] ((52 : Nat) + (1 : Nat))) (fun i => relC (List.getD l i rel0)) j) (0 : Nat) [dS (SRel.name (List.getD l (Int.toNat i5 - (0 : Nat)) rel0)), dI (SRel.kind (List.getD l
 (Int.toNat i5 - (0 : Nat)) rel0)), dI (SRel.bay (List.getD l (Int.toNat i5 - (0 : Nat)) rel0)), dB (SRel.zon0 (List.getD l (Int.toNat i5 - (0 : Nat)) rel0)), dB (SRel.zfw0
 (List.getD l (Int.toNat i5 - (0 : Nat)) rel0)), dI (SRel.zx0 (List.getD l (Int.toNat i5 - (0 : Nat)) rel0)), dI (SRel.zr0 (List.getD l (Int.toNat i5 - (0 : Nat)) rel0)), dI
 (SRel.zl0 (List.getD l (Int.toNat i5 - (0 : Nat)) rel0)), dI (SRel.zd0 (List.getD l (Int.toNat i5 - (0 : Nat)) rel0)), dB (SRel.zon1 (List.getD l (Int.toNat i5 - (0 : Nat)) rel0)),
 dB (SRel.zfw1 (List.getD l (Int.toNat i5 - (0 : Nat)) rel0)), dI (SRel.zx1 (List.getD l (Int.toNat i5 - (0 : Nat)) rel0)), dI (SRel.zr1 (List.getD l (Int.toNat i5 - (0 : Nat))
 rel0)), dI (SRel.zl1 (List.getD l (Int.toNat i5 - (0 : Nat)) rel0)), dI (SRel.zd1 (List.getD l (Int.toNat i5 - (0 : Nat)) rel0)), dB (SRel.zon2 (List.getD l (Int.toNat i5 - (0 :
 Nat)) rel0)), dB (SRel.zfw2 (List.getD l (Int.toNat i5 - (0 : Nat)) rel0)), dI (SRel.zx2 (List.getD l (Int.toNat i5 - (0 : Nat)) rel0)), dI (SRel.zr2 (List.getD l (Int.toNat i5 - (0
 : Nat)) rel0)), dI (SRel.zl2 (List.getD l (Int.toNat i5 - (0 : Nat)) rel0)), dI (SRel.zd2 (List.getD l (Int.toNat i5 - (0 : Nat)) rel0)), dI (SRel.min (List.getD l (Int.toNat i5 -
 (0 : Nat)) rel0)), dI (SRel.kre (List.getD l (Int.toNat i5 - (0 : Nat)) rel0)), dI (SRel.kim (List.getD l (Int.toNat i5 - (0 : Nat)) rel0)), dI (SRel.scheme (List.getD l (Int.toNat
 i5 - (0 : Nat)) rel0)), dI (SRel.wait (List.getD l (Int.toNat i5 - (0 : Nat)) rel0)), dI (SRel.guard (List.getD l (Int.toNat i5 - (0 : Nat)) rel0)), dB (SRel.don (List.getD l
 (Int.toNat i5 - (0 : Nat)) rel0)), dI (SRel.dpk (List.getD l (Int.toNat i5 - (0 : Nat)) rel0)), dI (SRel.ddl (List.getD l (Int.toNat i5 - (0 : Nat)) rel0)), dB (SRel.ion (List.getD
 l (Int.toNat i5 - (0 : Nat)) rel0)), dI (SRel.ipk (List.getD l (Int.toNat i5 - (0 : Nat)) rel0)), dI (SRel.idl (List.getD l (Int.toNat i5 - (0 : Nat)) rel0)), dB (SRel.fon
 (List.getD l (Int.toNat i5 - (0 : Nat)) rel0)), dI (SRel.fpk (List.getD l (Int.toNat i5 - (0 : Nat)) rel0)), dI (SRel.fdl (List.getD l (Int.toNat i5 - (0 : Nat)) rel0)), D.v
 (Value.int IntKind.i64 (1 : Int)), D.v (Value.int IntKind.i64 (1 : Int)), D.v (Value.int IntKind.i64 (1 : Int)), dB (SRel.uon (List.getD l (Int.toNat i5 - (0 : Nat)) rel0)), dI
 (SRel.upk (List.getD l (Int.toNat i5 - (0 : Nat)) rel0)), dI (SRel.udl (List.getD l (Int.toNat i5 - (0 : Nat)) rel0)), dB (SRel.oon (List.getD l (Int.toNat i5 - (0 : Nat)) rel0)),
 dI (SRel.opk (List.getD l (Int.toNat i5 - (0 : Nat)) rel0)), dI (SRel.odl (List.getD l (Int.toNat i5 - (0 : Nat)) rel0)), dI (SRel.diff (List.getD l (Int.toNat i5 - (0 : Nat))
 rel0)), dI (SRel.num (List.getD l (Int.toNat i5 - (0 : Nat)) rel0)), dI (SRel.den (List.getD l (Int.toNat i5 - (0 : Nat)) rel0)), dI (SRel.harm (List.getD l (Int.toNat i5 - (0 :
 Nat)) rel0)), rulesD (SRel.rules (List.getD l (Int.toNat i5 - (0 : Nat)) rel0)), setsD (SRel.sets (List.getD l (Int.toNat i5 - (0 : Nat)) rel0)), pubsD (SRel.pubs (List.getD l
 (Int.toNat i5 - (0 : Nat)) rel0)), subsD (SRel.subs (List.getD l (Int.toNat i5 - (0 : Nat)) rel0))] else appF (0 : Nat) (chunk [] ((52 : Nat) + (1 : Nat))) (fun i => relC (List.getD
 l i rel0)) j))] == (12 : Int))))), [])) else some (T.leaf (AV.c (C.d (D.v (Value.bool false))), [])))) else none) else none) else (bif i6 == (1 : Int) then (bif decide ((0 : Int) ≤
 i5) && decide (i5 < (↑((0 : Nat) + List.length l) : Int)) then (bif KFo.okc Z [AV.agg (List.map C.d (staC s)), AV.c (C.d (D.sl ((53 : Nat)) ((0 : Nat) + List.length l) fun j => bif
 Nat.beq j (Int.toNat i5) then splice (appF (0 : Nat) (chunk [] ((52 : Nat) + (1 : Nat))) (fun i => relC (List.getD l i rel0)) j) (0 : Nat) [dS (SRel.name (List.getD l (Int.toNat i5
 - (0 : Nat)) rel0)), dI (SRel.kind (List.getD l (Int.toNat i5 - (0 : Nat)) rel0)), dI (SRel.bay (List.getD l (Int.toNat i5 - (0 : Nat)) rel0)), dB (SRel.zon0 (List.getD l (Int.toNat
 i5 - (0 : Nat)) rel0)), dB (SRel.zfw0 (List.getD l (Int.toNat i5 - (0 : Nat)) rel0)), dI (SRel.zx0 (List.getD l (Int.toNat i5 - (0 : Nat)) rel0)), dI (SRel.zr0 (List.getD l
 (Int.toNat i5 - (0 : Nat)) rel0)), dI (SRel.zl0 (List.getD l (Int.toNat i5 - (0 : Nat)) rel0)), dI (SRel.zd0 (List.getD l (Int.toNat i5 - (0 : Nat)) rel0)), dB (SRel.zon1 (List.getD
 l (Int.toNat i5 - (0 : Nat)) rel0)), dB (SRel.zfw1 (List.getD l (Int.toNat i5 - (0 : Nat)) rel0)), dI (SRel.zx1 (List.getD l (Int.toNat i5 - (0 : Nat)) rel0)), dI (SRel.zr1
 (List.getD l (Int.toNat i5 - (0 : Nat)) rel0)), dI (SRel.zl1 (List.getD l (Int.toNat i5 - (0 : Nat)) rel0)), dI (SRel.zd1 (List.getD l (Int.toNat i5 - (0 : Nat)) rel0)), dB
 (SRel.zon2 (List.getD l (Int.toNat i5 - (0 : Nat)) rel0)), dB (SRel.zfw2 (List.getD l (Int.toNat i5 - (0 : Nat)) rel0)), dI (SRel.zx2 (List.getD l (Int.toNat i5 - (0 : Nat)) rel0)),
 dI (SRel.zr2 (List.getD l (Int.toNat i5 - (0 : Nat)) rel0)), dI (SRel.zl2 (List.getD l (Int.toNat i5 - (0 : Nat)) rel0)), dI (SRel.zd2 (List.getD l (Int.toNat i5 - (0 : Nat))
 rel0)), dI (SRel.min (List.getD l (Int.toNat i5 - (0 : Nat)) rel0)), dI (SRel.kre (List.getD l (Int.toNat i5 - (0 : Nat)) rel0)), dI (SRel.kim (List.getD l (Int.toNat i5 - (0 :
 Nat)) rel0)), dI (SRel.scheme (List.getD l (Int.toNat i5 - (0 : Nat)) rel0)), dI (SRel.wait (List.getD l (Int.toNat i5 - (0 : Nat)) rel0)), dI (SRel.guard (List.getD l (Int.toNat i5
 - (0 : Nat)) rel0)), dB (SRel.don (List.getD l (Int.toNat i5 - (0 : Nat)) rel0)), dI (SRel.dpk (List.getD l (Int.toNat i5 - (0 : Nat)) rel0)), dI (SRel.ddl (List.getD l (Int.toNat
 i5 - (0 : Nat)) rel0)), dB (SRel.ion (List.getD l (Int.toNat i5 - (0 : Nat)) rel0)), dI (SRel.ipk (List.getD l (Int.toNat i5 - (0 : Nat)) rel0)), dI (SRel.idl (List.getD l
 (Int.toNat i5 - (0 : Nat)) rel0)), dB (SRel.fon (List.getD l (Int.toNat i5 - (0 : Nat)) rel0)), dI (SRel.fpk (List.getD l (Int.toNat i5 - (0 : Nat)) rel0)), dI (SRel.fdl (List.getD
 l (Int.toNat i5 - (0 : Nat)) rel0)), dI (SRel.shots (List.getD l (Int.toNat i5 - (0 : Nat)) rel0)), dI (SRel.dead (List.getD l (Int.toNat i5 - (0 : Nat)) rel0)), dI (SRel.reclaim
 (List.getD l (Int.toNat i5 - (0 : Nat)) rel0)), D.v (Value.bool true), D.v (Value.int IntKind.i64 (1 : Int)), D.v (Value.int IntKind.i64 (0 : Int)), dB (SRel.oon (List.getD l
 (Int.toNat i5 - (0 : Nat)) rel0)), dI (SRel.opk (List.getD l (Int.toNat i5 - (0 : Nat)) rel0)), dI (SRel.odl (List.getD l (Int.toNat i5 - (0 : Nat)) rel0)), dI (SRel.diff (List.getD
 l (Int.toNat i5 - (0 : Nat)) rel0)), dI (SRel.num (List.getD l (Int.toNat i5 - (0 : Nat)) rel0)), dI (SRel.den (List.getD l (Int.toNat i5 - (0 : Nat)) rel0)), dI (SRel.harm
 (List.getD l (Int.toNat i5 - (0 : Nat)) rel0)), rulesD (SRel.rules (List.getD l (Int.toNat i5 - (0 : Nat)) rel0)), setsD (SRel.sets (List.getD l (Int.toNat i5 - (0 : Nat)) rel0)),
 pubsD (SRel.pubs (List.getD l (Int.toNat i5 - (0 : Nat)) rel0)), subsD (SRel.subs (List.getD l (Int.toNat i5 - (0 : Nat)) rel0))] else appF (0 : Nat) (chunk [] ((52 : Nat) + (1 :
 Nat))) (fun i => relC (List.getD l i rel0)) j))] then (bif !SRel.kind (List.getD l (Int.toNat i5 - (0 : Nat)) rel0) != (2 : Int) then (bif KFo.ci Z [AV.agg (List.map C.d (staC s)),
 AV.c (C.d (D.sl ((53 : Nat)) ((0 : Nat) + List.length l) fun j => bif Nat.beq j (Int.toNat i5) then splice (appF (0 : Nat) (chunk [] ((52 : Nat) + (1 : Nat))) (fun i => relC
 (List.getD l i rel0)) j) (0 : Nat) [dS (SRel.name (List.getD l (Int.toNat i5 - (0 : Nat)) rel0)), dI (SRel.kind (List.getD l (Int.toNat i5 - (0 : Nat)) rel0)), dI (SRel.bay
 (List.getD l (Int.toNat i5 - (0 : Nat)) rel0)), dB (SRel.zon0 (List.getD l (Int.toNat i5 - (0 : Nat)) rel0)), dB (SRel.zfw0 (List.getD l (Int.toNat i5 - (0 : Nat)) rel0)), dI
 (SRel.zx0 (List.getD l (Int.toNat i5 - (0 : Nat)) rel0)), dI (SRel.zr0 (List.getD l (Int.toNat i5 - (0 : Nat)) rel0)), dI (SRel.zl0 (List.getD l (Int.toNat i5 - (0 : Nat)) rel0)),
 dI (SRel.zd0 (List.getD l (Int.toNat i5 - (0 : Nat)) rel0)), dB (SRel.zon1 (List.getD l (Int.toNat i5 - (0 : Nat)) rel0)), dB (SRel.zfw1 (List.getD l (Int.toNat i5 - (0 : Nat))
 rel0)), dI (SRel.zx1 (List.getD l (Int.toNat i5 - (0 : Nat)) rel0)), dI (SRel.zr1 (List.getD l (Int.toNat i5 - (0 : Nat)) rel0)), dI (SRel.zl1 (List.getD l (Int.toNat i5 - (0 :
 Nat)) rel0)), dI (SRel.zd1 (List.getD l (Int.toNat i5 - (0 : Nat)) rel0)), dB (SRel.zon2 (List.getD l (Int.toNat i5 - (0 : Nat)) rel0)), dB (SRel.zfw2 (List.getD l (Int.toNat i5 -
 (0 : Nat)) rel0)), dI (SRel.zx2 (List.getD l (Int.toNat i5 - (0 : Nat)) rel0)), dI (SRel.zr2 (List.getD l (Int.toNat i5 - (0 : Nat)) rel0)), dI (SRel.zl2 (List.getD l (Int.toNat i5
 - (0 : Nat)) rel0)), dI (SRel.zd2 (List.getD l (Int.toNat i5 - (0 : Nat)) rel0)), dI (SRel.min (List.getD l (Int.toNat i5 - (0 : Nat)) rel0)), dI (SRel.kre (List.getD l (Int.toNat
 i5 - (0 : Nat)) rel0)), dI (SRel.kim (List.getD l (Int.toNat i5 - (0 : Nat)) rel0)), dI (SRel.scheme (List.getD l (Int.toNat i5 - (0 : Nat)) rel0)), dI (SRel.wait (List.getD l
 (Int.toNat i5 - (0 : Nat)) rel0)), dI (SRel.guard (List.getD l (Int.toNat i5 - (0 : Nat)) rel0)), dB (SRel.don (List.getD l (Int.toNat i5 - (0 : Nat)) rel0)), dI (SRel.dpk
 (List.getD l (Int.toNat i5 - (0 : Nat)) rel0)), dI (SRel.ddl (List.getD l (Int.toNat i5 - (0 : Nat)) rel0)), dB (SRel.ion (List.getD l (Int.toNat i5 - (0 : Nat)) rel0)), dI
 (SRel.ipk (List.getD l (Int.toNat i5 - (0 : Nat)) rel0)), dI (SRel.idl (List.getD l (Int.toNat i5 - (0 : Nat)) rel0)), dB (SRel.fon (List.getD l (Int.toNat i5 - (0 : Nat)) rel0)),
 dI (SRel.fpk (List.getD l (Int.toNat i5 - (0 : Nat)) rel0)), dI (SRel.fdl (List.getD l (Int.toNat i5 - (0 : Nat)) rel0)), dI (SRel.shots (List.getD l (Int.toNat i5 - (0 : Nat))
 rel0)), dI (SRel.dead (List.getD l (Int.toNat i5 - (0 : Nat)) rel0)), dI (SRel.reclaim (List.getD l (Int.toNat i5 - (0 : Nat)) rel0)), D.v (Value.bool true), D.v (Value.int
 IntKind.i64 (1 : Int)), D.v (Value.int IntKind.i64 (0 : Int)), dB (SRel.oon (List.getD l (Int.toNat i5 - (0 : Nat)) rel0)), dI (SRel.opk (List.getD l (Int.toNat i5 - (0 : Nat))
 rel0)), dI (SRel.odl (List.getD l (Int.toNat i5 - (0 : Nat)) rel0)), dI (SRel.diff (List.getD l (Int.toNat i5 - (0 : Nat)) rel0)), dI (SRel.num (List.getD l (Int.toNat i5 - (0 :
 Nat)) rel0)), dI (SRel.den (List.getD l (Int.toNat i5 - (0 : Nat)) rel0)), dI (SRel.harm (List.getD l (Int.toNat i5 - (0 : Nat)) rel0)), rulesD (SRel.rules (List.getD l (Int.toNat
 i5 - (0 : Nat)) rel0)), setsD (SRel.sets (List.getD l (Int.toNat i5 - (0 : Nat)) rel0)), pubsD (SRel.pubs (List.getD l (Int.toNat i5 - (0 : Nat)) rel0)), subsD (SRel.subs (List.getD
 l (Int.toNat i5 - (0 : Nat)) rel0))] else appF (0 : Nat) (chunk [] ((52 : Nat) + (1 : Nat))) (fun i => relC (List.getD l i rel0)) j))] == (0 : Int) then some (T.leaf (AV.c (C.d (D.v
 (Value.bool (KFo.ce Z [AV.agg (List.map C.d (staC s)), AV.c (C.d (D.sl ((53 : Nat)) ((0 : Nat) + List.length l) fun j => bif Nat.beq j (Int.toNat i5) then splice (appF (0 : Nat)
 (chunk [] ((52 : Nat) + (1 : Nat))) (fun i => relC (List.getD l i rel0)) j) (0 : Nat) [dS (SRel.name (List.getD l (Int.toNat i5 - (0 : Nat)) rel0)), dI (SRel.kind (List.getD l
 (Int.toNat i5 - (0 : Nat)) rel0)), dI (SRel.bay (List.getD l (Int.toNat i5 - (0 : Nat)) rel0)), dB (SRel.zon0 (List.getD l (Int.toNat i5 - (0 : Nat)) rel0)), dB (SRel.zfw0
 (List.getD l (Int.toNat i5 - (0 : Nat)) rel0)), dI (SRel.zx0 (List.getD l (Int.toNat i5 - (0 : Nat)) rel0)), dI (SRel.zr0 (List.getD l (Int.toNat i5 - (0 : Nat)) rel0)), dI
 (SRel.zl0 (List.getD l (Int.toNat i5 - (0 : Nat)) rel0)), dI (SRel.zd0 (List.getD l (Int.toNat i5 - (0 : Nat)) rel0)), dB (SRel.zon1 (List.getD l (Int.toNat i5 - (0 : Nat)) rel0)),
 dB (SRel.zfw1 (List.getD l (Int.toNat i5 - (0 : Nat)) rel0)), dI (SRel.zx1 (List.getD l (Int.toNat i5 - (0 : Nat)) rel0)), dI (SRel.zr1 (List.getD l (Int.toNat i5 - (0 : Nat))
 rel0)), dI (SRel.zl1 (List.getD l (Int.toNat i5 - (0 : Nat)) rel0)), dI (SRel.zd1 (List.getD l (Int.toNat i5 - (0 : Nat)) rel0)), dB (SRel.zon2 (List.getD l (Int.toNat i5 - (0 :
 Nat)) rel0)), dB (SRel.zfw2 (List.getD l (Int.toNat i5 - (0 : Nat)) rel0)), dI (SRel.zx2 (List.getD l (Int.toNat i5 - (0 : Nat)) rel0)), dI (SRel.zr2 (List.getD l (Int.toNat i5 - (0
 : Nat)) rel0)), dI (SRel.zl2 (List.getD l (Int.toNat i5 - (0 : Nat)) rel0)), dI (SRel.zd2 (List.getD l (Int.toNat i5 - (0 : Nat)) rel0)), dI (SRel.min (List.getD l (Int.toNat i5 -
 (0 : Nat)) rel0)), dI (SRel.kre (List.getD l (Int.toNat i5 - (0 : Nat)) rel0)), dI (SRel.kim (List.getD l (Int.toNat i5 - (0 : Nat)) rel0)), dI (SRel.scheme (List.getD l (Int.toNat
 i5 - (0 : Nat)) rel0)), dI (SRel.wait (List.getD l (Int.toNat i5 - (0 : Nat)) rel0)), dI (SRel.guard (List.getD l (Int.toNat i5 - (0 : Nat)) rel0)), dB (SRel.don (List.getD l
 (Int.toNat i5 - (0 : Nat)) rel0)), dI (SRel.dpk (List.getD l (Int.toNat i5 - (0 : Nat)) rel0)), dI (SRel.ddl (List.getD l (Int.toNat i5 - (0 : Nat)) rel0)), dB (SRel.ion (List.getD
 l (Int.toNat i5 - (0 : Nat)) rel0)), dI (SRel.ipk (List.getD l (Int.toNat i5 - (0 : Nat)) rel0)), dI (SRel.idl (List.getD l (Int.toNat i5 - (0 : Nat)) rel0)), dB (SRel.fon
 (List.getD l (Int.toNat i5 - (0 : Nat)) rel0)), dI (SRel.fpk (List.getD l (Int.toNat i5 - (0 : Nat)) rel0)), dI (SRel.fdl (List.getD l (Int.toNat i5 - (0 : Nat)) rel0)), dI
 (SRel.shots (List.getD l (Int.toNat i5 - (0 : Nat)) rel0)), dI (SRel.dead (List.getD l (Int.toNat i5 - (0 : Nat)) rel0)), dI (SRel.reclaim (List.getD l (Int.toNat i5 - (0 : Nat))
 rel0)), D.v (Value.bool true), D.v (Value.int IntKind.i64 (1 : Int)), D.v (Value.int IntKind.i64 (0 : Int)), dB (SRel.oon (List.getD l (Int.toNat i5 - (0 : Nat)) rel0)), dI
 (SRel.opk (List.getD l (Int.toNat i5 - (0 : Nat)) rel0)), dI (SRel.odl (List.getD l (Int.toNat i5 - (0 : Nat)) rel0)), dI (SRel.diff (List.getD l (Int.toNat i5 - (0 : Nat)) rel0)),
 dI (SRel.num (List.getD l (Int.toNat i5 - (0 : Nat)) rel0)), dI (SRel.den (List.getD l (Int.toNat i5 - (0 : Nat)) rel0)), dI (SRel.harm (List.getD l (Int.toNat i5 - (0 : Nat))
 rel0)), rulesD (SRel.rules (List.getD l (Int.toNat i5 - (0 : Nat)) rel0)), setsD (SRel.sets (List.getD l (Int.toNat i5 - (0 : Nat)) rel0)), pubsD (SRel.pubs (List.getD l (Int.toNat
 i5 - (0 : Nat)) rel0)), subsD (SRel.subs (List.getD l (Int.toNat i5 - (0 : Nat)) rel0))] else appF (0 : Nat) (chunk [] ((52 : Nat) + (1 : Nat))) (fun i => relC (List.getD l i rel0))
 j))] == (0 : Int))))), [])) else some (T.leaf (AV.c (C.d (D.v (Value.bool false))), []))) else (bif KFo.ci Z [AV.agg (List.map C.d (staC s)), AV.c (C.d (D.sl ((53 : Nat)) ((0 : Nat)
 + List.length l) fun j => bif Nat.beq j (Int.toNat i5) then splice (appF (0 : Nat) (chunk [] ((52 : Nat) + (1 : Nat))) (fun i => relC (List.getD l i rel0)) j) (0 : Nat) [dS
 (SRel.name (List.getD l (Int.toNat i5 - (0 : Nat)) rel0)), dI (SRel.kind (List.getD l (Int.toNat i5 - (0 : Nat)) rel0)), dI (SRel.bay (List.getD l (Int.toNat i5 - (0 : Nat)) rel0)),
 dB (SRel.zon0 (List.getD l (Int.toNat i5 - (0 : Nat)) rel0)), dB (SRel.zfw0 (List.getD l (Int.toNat i5 - (0 : Nat)) rel0)), dI (SRel.zx0 (List.getD l (Int.toNat i5 - (0 : Nat))
 rel0)), dI (SRel.zr0 (List.getD l (Int.toNat i5 - (0 : Nat)) rel0)), dI (SRel.zl0 (List.getD l (Int.toNat i5 - (0 : Nat)) rel0)), dI (SRel.zd0 (List.getD l (Int.toNat i5 - (0 :
 Nat)) rel0)), dB (SRel.zon1 (List.getD l (Int.toNat i5 - (0 : Nat)) rel0)), dB (SRel.zfw1 (List.getD l (Int.toNat i5 - (0 : Nat)) rel0)), dI (SRel.zx1 (List.getD l (Int.toNat i5 -
 (0 : Nat)) rel0)), dI (SRel.zr1 (List.getD l (Int.toNat i5 - (0 : Nat)) rel0)), dI (SRel.zl1 (List.getD l (Int.toNat i5 - (0 : Nat)) rel0)), dI (SRel.zd1 (List.getD l (Int.toNat i5
 - (0 : Nat)) rel0)), dB (SRel.zon2 (List.getD l (Int.toNat i5 - (0 : Nat)) rel0)), dB (SRel.zfw2 (List.getD l (Int.toNat i5 - (0 : Nat)) rel0)), dI (SRel.zx2 (List.getD l (Int.toNat
 i5 - (0 : Nat)) rel0)), dI (SRel.zr2 (List.getD l (Int.toNat i5 - (0 : Nat)) rel0)), dI (SRel.zl2 (List.getD l (Int.toNat i5 - (0 : Nat)) rel0)), dI (SRel.zd2 (List.getD l
 (Int.toNat i5 - (0 : Nat)) rel0)), dI (SRel.min (List.getD l (Int.toNat i5 - (0 : Nat)) rel0)), dI (SRel.kre (List.getD l (Int.toNat i5 - (0 : Nat)) rel0)), dI (SRel.kim (List.getD
 l (Int.toNat i5 - (0 : Nat)) rel0)), dI (SRel.scheme (List.getD l (Int.toNat i5 - (0 : Nat)) rel0)), dI (SRel.wait (List.getD l (Int.toNat i5 - (0 : Nat)) rel0)), dI (SRel.guard
 (List.getD l (Int.toNat i5 - (0 : Nat)) rel0)), dB (SRel.don (List.getD l (Int.toNat i5 - (0 : Nat)) rel0)), dI (SRel.dpk (List.getD l (Int.toNat i5 - (0 : Nat)) rel0)), dI
 (SRel.ddl (List.getD l (Int.toNat i5 - (0 : Nat)) rel0)), dB (SRel.ion (List.getD l (Int.toNat i5 - (0 : Nat)) rel0)), dI (SRel.ipk (List.getD l (Int.toNat i5 - (0 : Nat)) rel0)),
 dI (SRel.idl (List.getD l (Int.toNat i5 - (0 : Nat)) rel0)), dB (SRel.fon (List.getD l (Int.toNat i5 - (0 : Nat)) rel0)), dI (SRel.fpk (List.getD l (Int.toNat i5 - (0 : Nat))
 rel0)), dI (SRel.fdl (List.getD l (Int.toNat i5 - (0 : Nat)) rel0)), dI (SRel.shots (List.getD l (Int.toNat i5 - (0 : Nat)) rel0)), dI (SRel.dead (List.getD l (Int.toNat i5 - (0 :
 Nat)) rel0)), dI (SRel.reclaim (List.getD l (Int.toNat i5 - (0 : Nat)) rel0)), D.v (Value.bool true), D.v (Value.int IntKind.i64 (1 : Int)), D.v (Value.int IntKind.i64 (0 : Int)),
 dB (SRel.oon (List.getD l (Int.toNat i5 - (0 : Nat)) rel0)), dI (SRel.opk (List.getD l (Int.toNat i5 - (0 : Nat)) rel0)), dI (SRel.odl (List.getD l (Int.toNat i5 - (0 : Nat))
 rel0)), dI (SRel.diff (List.getD l (Int.toNat i5 - (0 : Nat)) rel0)), dI (SRel.num (List.getD l (Int.toNat i5 - (0 : Nat)) rel0)), dI (SRel.den (List.getD l (Int.toNat i5 - (0 :
 Nat)) rel0)), dI (SRel.harm (List.getD l (Int.toNat i5 - (0 : Nat)) rel0)), rulesD (SRel.rules (List.getD l (Int.toNat i5 - (0 : Nat)) rel0)), setsD (SRel.sets (List.getD l
 (Int.toNat i5 - (0 : Nat)) rel0)), pubsD (SRel.pubs (List.getD l (Int.toNat i5 - (0 : Nat)) rel0)), subsD (SRel.subs (List.getD l (Int.toNat i5 - (0 : Nat)) rel0))] else appF (0 :
 Nat) (chunk [] ((52 : Nat) + (1 : Nat))) (fun i => relC (List.getD l i rel0)) j))] == i5 then some (T.leaf (AV.c (C.d (D.v (Value.bool (KFo.ce Z [AV.agg (List.map C.d (staC s)),
 AV.c (C.d (D.sl ((53 : Nat)) ((0 : Nat) + List.length l) fun j => bif Nat.beq j (Int.toNat i5) then splice (appF (0 : Nat) (chunk [] ((52 : Nat) + (1 : Nat))) (fun i => relC
 (List.getD l i rel0)) j) (0 : Nat) [dS (SRel.name (List.getD l (Int.toNat i5 - (0 : Nat)) rel0)), dI (SRel.kind (List.getD l (Int.toNat i5 - (0 : Nat)) rel0)), dI (SRel.bay
 (List.getD l (Int.toNat i5 - (0 : Nat)) rel0)), dB (SRel.zon0 (List.getD l (Int.toNat i5 - (0 : Nat)) rel0)), dB (SRel.zfw0 (List.getD l (Int.toNat i5 - (0 : Nat)) rel0)), dI
 (SRel.zx0 (List.getD l (Int.toNat i5 - (0 : Nat)) rel0)), dI (SRel.zr0 (List.getD l (Int.toNat i5 - (0 : Nat)) rel0)), dI (SRel.zl0 (List.getD l (Int.toNat i5 - (0 : Nat)) rel0)),
 dI (SRel.zd0 (List.getD l (Int.toNat i5 - (0 : Nat)) rel0)), dB (SRel.zon1 (List.getD l (Int.toNat i5 - (0 : Nat)) rel0)), dB (SRel.zfw1 (List.getD l (Int.toNat i5 - (0 : Nat))
 rel0)), dI (SRel.zx1 (List.getD l (Int.toNat i5 - (0 : Nat)) rel0)), dI (SRel.zr1 (List.getD l (Int.toNat i5 - (0 : Nat)) rel0)), dI (SRel.zl1 (List.getD l (Int.toNat i5 - (0 :
 Nat)) rel0)), dI (SRel.zd1 (List.getD l (Int.toNat i5 - (0 : Nat)) rel0)), dB (SRel.zon2 (List.getD l (Int.toNat i5 - (0 : Nat)) rel0)), dB (SRel.zfw2 (List.getD l (Int.toNat i5 -
 (0 : Nat)) rel0)), dI (SRel.zx2 (List.getD l (Int.toNat i5 - (0 : Nat)) rel0)), dI (SRel.zr2 (List.getD l (Int.toNat i5 - (0 : Nat)) rel0)), dI (SRel.zl2 (List.getD l (Int.toNat i5
 - (0 : Nat)) rel0)), dI (SRel.zd2 (List.getD l (Int.toNat i5 - (0 : Nat)) rel0)), dI (SRel.min (List.getD l (Int.toNat i5 - (0 : Nat)) rel0)), dI (SRel.kre (List.getD l (Int.toNat
 i5 - (0 : Nat)) rel0)), dI (SRel.kim (List.getD l (Int.toNat i5 - (0 : Nat)) rel0)), dI (SRel.scheme (List.getD l (Int.toNat i5 - (0 : Nat)) rel0)), dI (SRel.wait (List.getD l
 (Int.toNat i5 - (0 : Nat)) rel0)), dI (SRel.guard (List.getD l (Int.toNat i5 - (0 : Nat)) rel0)), dB (SRel.don (List.getD l (Int.toNat i5 - (0 : Nat)) rel0)), dI (SRel.dpk
 (List.getD l (Int.toNat i5 - (0 : Nat)) rel0)), dI (SRel.ddl (List.getD l (Int.toNat i5 - (0 : Nat)) rel0)), dB (SRel.ion (List.getD l (Int.toNat i5 - (0 : Nat)) rel0)), dI
 (SRel.ipk (List.getD l (Int.toNat i5 - (0 : Nat)) rel0)), dI (SRel.idl (List.getD l (Int.toNat i5 - (0 : Nat)) rel0)), dB (SRel.fon (List.getD l (Int.toNat i5 - (0 : Nat)) rel0)),
 dI (SRel.fpk (List.getD l (Int.toNat i5 - (0 : Nat)) rel0)), dI (SRel.fdl (List.getD l (Int.toNat i5 - (0 : Nat)) rel0)), dI (SRel.shots (List.getD l (Int.toNat i5 - (0 : Nat))
 rel0)), dI (SRel.dead (List.getD l (Int.toNat i5 - (0 : Nat)) rel0)), dI (SRel.reclaim (List.getD l (Int.toNat i5 - (0 : Nat)) rel0)), D.v (Value.bool true), D.v (Value.int
 IntKind.i64 (1 : Int)), D.v (Value.int IntKind.i64 (0 : Int)), dB (SRel.oon (List.getD l (Int.toNat i5 - (0 : Nat)) rel0)), dI (SRel.opk (List.getD l (Int.toNat i5 - (0 : Nat))
 rel0)), dI (SRel.odl (List.getD l (Int.toNat i5 - (0 : Nat)) rel0)), dI (SRel.diff (List.getD l (Int.toNat i5 - (0 : Nat)) rel0)), dI (SRel.num (List.getD l (Int.toNat i5 - (0 :
 Nat)) rel0)), dI (SRel.den (List.getD l (Int.toNat i5 - (0 : Nat)) rel0)), dI (SRel.harm (List.getD l (Int.toNat i5 - (0 : Nat)) rel0)), rulesD (SRel.rules (List.getD l (Int.toNat
 i5 - (0 : Nat)) rel0)), setsD (SRel.sets (List.getD l (Int.toNat i5 - (0 : Nat)) rel0)), pubsD (SRel.pubs (List.getD l (Int.toNat i5 - (0 : Nat)) rel0)), subsD (SRel.subs (List.getD
 l (Int.toNat i5 - (0 : Nat)) rel0))] else appF (0 : Nat) (chunk [] ((52 : Nat) + (1 : Nat))) (fun i => relC (List.getD l i rel0)) j))] == (12 : Int))))), [])) else some (T.leaf
 (AV.c (C.d (D.v (Value.bool false))), [])))) else none) else none) else (bif i6 == (2 : Int) then (bif decide ((0 : Int) ≤ i5) && decide (i5 < (↑((0 : Nat) + List.length l) : Int))
 then (bif KFo.okc Z [AV.agg (List.map C.d (staC s)), AV.c (C.d (D.sl ((53 : Nat)) ((0 : Nat) + List.length l) fun j => bif Nat.beq j (Int.toNat i5) then splice (appF (0 : Nat)
 (chunk [] ((52 : Nat) + (1 : Nat))) (fun i => relC (List.getD l i rel0)) j) (0 : Nat) [dS (SRel.name (List.getD l (Int.toNat i5 - (0 : Nat)) rel0)), dI (SRel.kind (List.getD l
 (Int.toNat i5 - (0 : Nat)) rel0)), dI (SRel.bay (List.getD l (Int.toNat i5 - (0 : Nat)) rel0)), dB (SRel.zon0 (List.getD l (Int.toNat i5 - (0 : Nat)) rel0)), dB (SRel.zfw0
 (List.getD l (Int.toNat i5 - (0 : Nat)) rel0)), dI (SRel.zx0 (List.getD l (Int.toNat i5 - (0 : Nat)) rel0)), dI (SRel.zr0 (List.getD l (Int.toNat i5 - (0 : Nat)) rel0)), dI
 (SRel.zl0 (List.getD l (Int.toNat i5 - (0 : Nat)) rel0)), dI (SRel.zd0 (List.getD l (Int.toNat i5 - (0 : Nat)) rel0)), dB (SRel.zon1 (List.getD l (Int.toNat i5 - (0 : Nat)) rel0)),
 dB (SRel.zfw1 (List.getD l (Int.toNat i5 - (0 : Nat)) rel0)), dI (SRel.zx1 (List.getD l (Int.toNat i5 - (0 : Nat)) rel0)), dI (SRel.zr1 (List.getD l (Int.toNat i5 - (0 : Nat))
 rel0)), dI (SRel.zl1 (List.getD l (Int.toNat i5 - (0 : Nat)) rel0)), dI (SRel.zd1 (List.getD l (Int.toNat i5 - (0 : Nat)) rel0)), dB (SRel.zon2 (List.getD l (Int.toNat i5 - (0 :
 Nat)) rel0)), dB (SRel.zfw2 (List.getD l (Int.toNat i5 - (0 : Nat)) rel0)), dI (SRel.zx2 (List.getD l (Int.toNat i5 - (0 : Nat)) rel0)), dI (SRel.zr2 (List.getD l (Int.toNat i5 - (0
 : Nat)) rel0)), dI (SRel.zl2 (List.getD l (Int.toNat i5 - (0 : Nat)) rel0)), dI (SRel.zd2 (List.getD l (Int.toNat i5 - (0 : Nat)) rel0)), dI (SRel.min (List.getD l (Int.toNat i5 -
 (0 : Nat)) rel0)), dI (SRel.kre (List.getD l (Int.toNat i5 - (0 : Nat)) rel0)), dI (SRel.kim (List.getD l (Int.toNat i5 - (0 : Nat)) rel0)), dI (SRel.scheme (List.getD l (Int.toNat
 i5 - (0 : Nat)) rel0)), dI (SRel.wait (List.getD l (Int.toNat i5 - (0 : Nat)) rel0)), dI (SRel.guard (List.getD l (Int.toNat i5 - (0 : Nat)) rel0)), dB (SRel.don (List.getD l
 (Int.toNat i5 - (0 : Nat)) rel0)), dI (SRel.dpk (List.getD l (Int.toNat i5 - (0 : Nat)) rel0)), dI (SRel.ddl (List.getD l (Int.toNat i5 - (0 : Nat)) rel0)), dB (SRel.ion (List.getD
 l (Int.toNat i5 - (0 : Nat)) rel0)), dI (SRel.ipk (List.getD l (Int.toNat i5 - (0 : Nat)) rel0)), dI (SRel.idl (List.getD l (Int.toNat i5 - (0 : Nat)) rel0)), D.v (Value.bool true),
 D.v (Value.int IntKind.i64 (1 : Int)), D.v (Value.int IntKind.i64 (1 : Int)), dI (SRel.shots (List.getD l (Int.toNat i5 - (0 : Nat)) rel0)), dI (SRel.dead (List.getD l (Int.toNat i5
 - (0 : Nat)) rel0)), dI (SRel.reclaim (List.getD l (Int.toNat i5 - (0 : Nat)) rel0)), dB (SRel.uon (List.getD l (Int.toNat i5 - (0 : Nat)) rel0)), dI (SRel.upk (List.getD l
 (Int.toNat i5 - (0 : Nat)) rel0)), dI (SRel.udl (List.getD l (Int.toNat i5 - (0 : Nat)) rel0)), dB (SRel.oon (List.getD l (Int.toNat i5 - (0 : Nat)) rel0)), dI (SRel.opk (List.getD
 l (Int.toNat i5 - (0 : Nat)) rel0)), dI (SRel.odl (List.getD l (Int.toNat i5 - (0 : Nat)) rel0)), dI (SRel.diff (List.getD l (Int.toNat i5 - (0 : Nat)) rel0)), dI (SRel.num
 (List.getD l (Int.toNat i5 - (0 : Nat)) rel0)), dI (SRel.den (List.getD l (Int.toNat i5 - (0 : Nat)) rel0)), dI (SRel.harm (List.getD l (Int.toNat i5 - (0 : Nat)) rel0)), rulesD
 (SRel.rules (List.getD l (Int.toNat i5 - (0 : Nat)) rel0)), setsD (SRel.sets (List.getD l (Int.toNat i5 - (0 : Nat)) rel0)), pubsD (SRel.pubs (List.getD l (Int.toNat i5 - (0 : Nat))
 rel0)), subsD (SRel.subs (List.getD l (Int.toNat i5 - (0 : Nat)) rel0))] else appF (0 : Nat) (chunk [] ((52 : Nat) + (1 : Nat))) (fun i => relC (List.getD l i rel0)) j))] then (bif
 !SRel.kind (List.getD l (Int.toNat i5 - (0 : Nat)) rel0) == (4 : Int) then (bif KFo.ci Z [AV.agg (List.map C.d (staC s)), AV.c (C.d (D.sl ((53 : Nat)) ((0 : Nat) + List.length l)
 fun j => bif Nat.beq j (Int.toNat i5) then splice (appF (0 : Nat) (chunk [] ((52 : Nat) + (1 : Nat))) (fun i => relC (List.getD l i rel0)) j) (0 : Nat) [dS (SRel.name (List.getD l
 (Int.toNat i5 - (0 : Nat)) rel0)), dI (SRel.kind (List.getD l (Int.toNat i5 - (0 : Nat)) rel0)), dI (SRel.bay (List.getD l (Int.toNat i5 - (0 : Nat)) rel0)), dB (SRel.zon0
 (List.getD l (Int.toNat i5 - (0 : Nat)) rel0)), dB (SRel.zfw0 (List.getD l (Int.toNat i5 - (0 : Nat)) rel0)), dI (SRel.zx0 (List.getD l (Int.toNat i5 - (0 : Nat)) rel0)), dI
 (SRel.zr0 (List.getD l (Int.toNat i5 - (0 : Nat)) rel0)), dI (SRel.zl0 (List.getD l (Int.toNat i5 - (0 : Nat)) rel0)), dI (SRel.zd0 (List.getD l (Int.toNat i5 - (0 : Nat)) rel0)),
 dB (SRel.zon1 (List.getD l (Int.toNat i5 - (0 : Nat)) rel0)), dB (SRel.zfw1 (List.getD l (Int.toNat i5 - (0 : Nat)) rel0)), dI (SRel.zx1 (List.getD l (Int.toNat i5 - (0 : Nat))
 rel0)), dI (SRel.zr1 (List.getD l (Int.toNat i5 - (0 : Nat)) rel0)), dI (SRel.zl1 (List.getD l (Int.toNat i5 - (0 : Nat)) rel0)), dI (SRel.zd1 (List.getD l (Int.toNat i5 - (0 :
 Nat)) rel0)), dB (SRel.zon2 (List.getD l (Int.toNat i5 - (0 : Nat)) rel0)), dB (SRel.zfw2 (List.getD l (Int.toNat i5 - (0 : Nat)) rel0)), dI (SRel.zx2 (List.getD l (Int.toNat i5 -
 (0 : Nat)) rel0)), dI (SRel.zr2 (List.getD l (Int.toNat i5 - (0 : Nat)) rel0)), dI (SRel.zl2 (List.getD l (Int.toNat i5 - (0 : Nat)) rel0)), dI (SRel.zd2 (List.getD l (Int.toNat i5
 - (0 : Nat)) rel0)), dI (SRel.min (List.getD l (Int.toNat i5 - (0 : Nat)) rel0)), dI (SRel.kre (List.getD l (Int.toNat i5 - (0 : Nat)) rel0)), dI (SRel.kim (List.getD l (Int.toNat
 i5 - (0 : Nat)) rel0)), dI (SRel.scheme (List.getD l (Int.toNat i5 - (0 : Nat)) rel0)), dI (SRel.wait (List.getD l (Int.toNat i5 - (0 : Nat)) rel0)), dI (SRel.guard (List.getD l
 (Int.toNat i5 - (0 : Nat)) rel0)), dB (SRel.don (List.getD l (Int.toNat i5 - (0 : Nat)) rel0)), dI (SRel.dpk (List.getD l (Int.toNat i5 - (0 : Nat)) rel0)), dI (SRel.ddl (List.getD
 l (Int.toNat i5 - (0 : Nat)) rel0)), dB (SRel.ion (List.getD l (Int.toNat i5 - (0 : Nat)) rel0)), dI (SRel.ipk (List.getD l (Int.toNat i5 - (0 : Nat)) rel0)), dI (SRel.idl
 (List.getD l (Int.toNat i5 - (0 : Nat)) rel0)), D.v (Value.bool true), D.v (Value.int IntKind.i64 (1 : Int)), D.v (Value.int IntKind.i64 (1 : Int)), dI (SRel.shots (List.getD l
 (Int.toNat i5 - (0 : Nat)) rel0)), dI (SRel.dead (List.getD l (Int.toNat i5 - (0 : Nat)) rel0)), dI (SRel.reclaim (List.getD l (Int.toNat i5 - (0 : Nat)) rel0)), dB (SRel.uon
 (List.getD l (Int.toNat i5 - (0 : Nat)) rel0)), dI (SRel.upk (List.getD l (Int.toNat i5 - (0 : Nat)) rel0)), dI (SRel.udl (List.getD l (Int.toNat i5 - (0 : Nat)) rel0)), dB
 (SRel.oon (List.getD l (Int.toNat i5 - (0 : Nat)) rel0)), dI (SRel.opk (List.getD l (Int.toNat i5 - (0 : Nat)) rel0)), dI (SRel.odl (List.getD l (Int.toNat i5 - (0 : Nat)) rel0)),
 dI (SRel.diff (List.getD l (Int.toNat i5 - (0 : Nat)) rel0)), dI (SRel.num (List.getD l (Int.toNat i5 - (0 : Nat)) rel0)), dI (SRel.den (List.getD l (Int.toNat i5 - (0 : Nat))
 rel0)), dI (SRel.harm (List.getD l (Int.toNat i5 - (0 : Nat)) rel0)), rulesD (SRel.rules (List.getD l (Int.toNat i5 - (0 : Nat)) rel0)), setsD (SRel.sets (List.getD l (Int.toNat i5
 - (0 : Nat)) rel0)), pubsD (SRel.pubs (List.getD l (Int.toNat i5 - (0 : Nat)) rel0)), subsD (SRel.subs (List.getD l (Int.toNat i5 - (0 : Nat)) rel0))] else appF (0 : Nat) (chunk []
 ((52 : Nat) + (1 : Nat))) (fun i => relC (List.getD l i rel0)) j))] == (0 : Int) then some (T.leaf (AV.c (C.d (D.v (Value.bool (KFo.ce Z [AV.agg (List.map C.d (staC s)), AV.c (C.d
 (D.sl ((53 : Nat)) ((0 : Nat) + List.length l) fun j => bif Nat.beq j (Int.toNat i5) then splice (appF (0 : Nat) (chunk [] ((52 : Nat) + (1 : Nat))) (fun i => relC (List.getD l i
 rel0)) j) (0 : Nat) [dS (SRel.name (List.getD l (Int.toNat i5 - (0 : Nat)) rel0)), dI (SRel.kind (List.getD l (Int.toNat i5 - (0 : Nat)) rel0)), dI (SRel.bay (List.getD l (Int.toNat
 i5 - (0 : Nat)) rel0)), dB (SRel.zon0 (List.getD l (Int.toNat i5 - (0 : Nat)) rel0)), dB (SRel.zfw0 (List.getD l (Int.toNat i5 - (0 : Nat)) rel0)), dI (SRel.zx0 (List.getD l
 (Int.toNat i5 - (0 : Nat)) rel0)), dI (SRel.zr0 (List.getD l (Int.toNat i5 - (0 : Nat)) rel0)), dI (SRel.zl0 (List.getD l (Int.toNat i5 - (0 : Nat)) rel0)), dI (SRel.zd0 (List.getD
 l (Int.toNat i5 - (0 : Nat)) rel0)), dB (SRel.zon1 (List.getD l (Int.toNat i5 - (0 : Nat)) rel0)), dB (SRel.zfw1 (List.getD l (Int.toNat i5 - (0 : Nat)) rel0)), dI (SRel.zx1
 (List.getD l (Int.toNat i5 - (0 : Nat)) rel0)), dI (SRel.zr1 (List.getD l (Int.toNat i5 - (0 : Nat)) rel0)), dI (SRel.zl1 (List.getD l (Int.toNat i5 - (0 : Nat)) rel0)), dI
 (SRel.zd1 (List.getD l (Int.toNat i5 - (0 : Nat)) rel0)), dB (SRel.zon2 (List.getD l (Int.toNat i5 - (0 : Nat)) rel0)), dB (SRel.zfw2 (List.getD l (Int.toNat i5 - (0 : Nat)) rel0)),
 dI (SRel.zx2 (List.getD l (Int.toNat i5 - (0 : Nat)) rel0)), dI (SRel.zr2 (List.getD l (Int.toNat i5 - (0 : Nat)) rel0)), dI (SRel.zl2 (List.getD l (Int.toNat i5 - (0 : Nat))
 rel0)), dI (SRel.zd2 (List.getD l (Int.toNat i5 - (0 : Nat)) rel0)), dI (SRel.min (List.getD l (Int.toNat i5 - (0 : Nat)) rel0)), dI (SRel.kre (List.getD l (Int.toNat i5 - (0 :
 Nat)) rel0)), dI (SRel.kim (List.getD l (Int.toNat i5 - (0 : Nat)) rel0)), dI (SRel.scheme (List.getD l (Int.toNat i5 - (0 : Nat)) rel0)), dI (SRel.wait (List.getD l (Int.toNat i5 -
 (0 : Nat)) rel0)), dI (SRel.guard (List.getD l (Int.toNat i5 - (0 : Nat)) rel0)), dB (SRel.don (List.getD l (Int.toNat i5 - (0 : Nat)) rel0)), dI (SRel.dpk (List.getD l (Int.toNat
 i5 - (0 : Nat)) rel0)), dI (SRel.ddl (List.getD l (Int.toNat i5 - (0 : Nat)) rel0)), dB (SRel.ion (List.getD l (Int.toNat i5 - (0 : Nat)) rel0)), dI (SRel.ipk (List.getD l
 (Int.toNat i5 - (0 : Nat)) rel0)), dI (SRel.idl (List.getD l (Int.toNat i5 - (0 : Nat)) rel0)), D.v (Value.bool true), D.v (Value.int IntKind.i64 (1 : Int)), D.v (Value.int
 IntKind.i64 (1 : Int)), dI (SRel.shots (List.getD l (Int.toNat i5 - (0 : Nat)) rel0)), dI (SRel.dead (List.getD l (Int.toNat i5 - (0 : Nat)) rel0)), dI (SRel.reclaim (List.getD l
 (Int.toNat i5 - (0 : Nat)) rel0)), dB (SRel.uon (List.getD l (Int.toNat i5 - (0 : Nat)) rel0)), dI (SRel.upk (List.getD l (Int.toNat i5 - (0 : Nat)) rel0)), dI (SRel.udl (List.getD
 l (Int.toNat i5 - (0 : Nat)) rel0)), dB (SRel.oon (List.getD l (Int.toNat i5 - (0 : Nat)) rel0)), dI (SRel.opk (List.getD l (Int.toNat i5 - (0 : Nat)) rel0)), dI (SRel.odl
 (List.getD l (Int.toNat i5 - (0 : Nat)) rel0)), dI (SRel.diff (List.getD l (Int.toNat i5 - (0 : Nat)) rel0)), dI (SRel.num (List.getD l (Int.toNat i5 - (0 : Nat)) rel0)), dI
 (SRel.den (List.getD l (Int.toNat i5 - (0 : Nat)) rel0)), dI (SRel.harm (List.getD l (Int.toNat i5 - (0 : Nat)) rel0)), rulesD (SRel.rules (List.getD l (Int.toNat i5 - (0 : Nat))
 rel0)), setsD (SRel.sets (List.getD l (Int.toNat i5 - (0 : Nat)) rel0)), pubsD (SRel.pubs (List.getD l (Int.toNat i5 - (0 : Nat)) rel0)), subsD (SRel.subs (List.getD l (Int.toNat i5
 - (0 : Nat)) rel0))] else appF (0 : Nat) (chunk [] ((52 : Nat) + (1 : Nat))) (fun i => relC (List.getD l i rel0)) j))] == (0 : Int))))), [])) else some (T.leaf (AV.c (C.d (D.v
 (Value.bool false))), []))) else (bif KFo.ci Z [AV.agg (List.map C.d (staC s)), AV.c (C.d (D.sl ((53 : Nat)) ((0 : Nat) + List.length l) fun j => bif Nat.beq j (Int.toNat i5) then
 splice (appF (0 : Nat) (chunk [] ((52 : Nat) + (1 : Nat))) (fun i => relC (List.getD l i rel0)) j) (0 : Nat) [dS (SRel.name (List.getD l (Int.toNat i5 - (0 : Nat)) rel0)), dI
 (SRel.kind (List.getD l (Int.toNat i5 - (0 : Nat)) rel0)), dI (SRel.bay (List.getD l (Int.toNat i5 - (0 : Nat)) rel0)), dB (SRel.zon0 (List.getD l (Int.toNat i5 - (0 : Nat)) rel0)),
 dB (SRel.zfw0 (List.getD l (Int.toNat i5 - (0 : Nat)) rel0)), dI (SRel.zx0 (List.getD l (Int.toNat i5 - (0 : Nat)) rel0)), dI (SRel.zr0 (List.getD l (Int.toNat i5 - (0 : Nat))
 rel0)), dI (SRel.zl0 (List.getD l (Int.toNat i5 - (0 : Nat)) rel0)), dI (SRel.zd0 (List.getD l (Int.toNat i5 - (0 : Nat)) rel0)), dB (SRel.zon1 (List.getD l (Int.toNat i5 - (0 :
 Nat)) rel0)), dB (SRel.zfw1 (List.getD l (Int.toNat i5 - (0 : Nat)) rel0)), dI (SRel.zx1 (List.getD l (Int.toNat i5 - (0 : Nat)) rel0)), dI (SRel.zr1 (List.getD l (Int.toNat i5 - (0
 : Nat)) rel0)), dI (SRel.zl1 (List.getD l (Int.toNat i5 - (0 : Nat)) rel0)), dI (SRel.zd1 (List.getD l (Int.toNat i5 - (0 : Nat)) rel0)), dB (SRel.zon2 (List.getD l (Int.toNat i5 -
 (0 : Nat)) rel0)), dB (SRel.zfw2 (List.getD l (Int.toNat i5 - (0 : Nat)) rel0)), dI (SRel.zx2 (List.getD l (Int.toNat i5 - (0 : Nat)) rel0)), dI (SRel.zr2 (List.getD l (Int.toNat i5
 - (0 : Nat)) rel0)), dI (SRel.zl2 (List.getD l (Int.toNat i5 - (0 : Nat)) rel0)), dI (SRel.zd2 (List.getD l (Int.toNat i5 - (0 : Nat)) rel0)), dI (SRel.min (List.getD l (Int.toNat
 i5 - (0 : Nat)) rel0)), dI (SRel.kre (List.getD l (Int.toNat i5 - (0 : Nat)) rel0)), dI (SRel.kim (List.getD l (Int.toNat i5 - (0 : Nat)) rel0)), dI (SRel.scheme (List.getD l
 (Int.toNat i5 - (0 : Nat)) rel0)), dI (SRel.wait (List.getD l (Int.toNat i5 - (0 : Nat)) rel0)), dI (SRel.guard (List.getD l (Int.toNat i5 - (0 : Nat)) rel0)), dB (SRel.don
 (List.getD l (Int.toNat i5 - (0 : Nat)) rel0)), dI (SRel.dpk (List.getD l (Int.toNat i5 - (0 : Nat)) rel0)), dI (SRel.ddl (List.getD l (Int.toNat i5 - (0 : Nat)) rel0)), dB
 (SRel.ion (List.getD l (Int.toNat i5 - (0 : Nat)) rel0)), dI (SRel.ipk (List.getD l (Int.toNat i5 - (0 : Nat)) rel0)), dI (SRel.idl (List.getD l (Int.toNat i5 - (0 : Nat)) rel0)),
 D.v (Value.bool true), D.v (Value.int IntKind.i64 (1 : Int)), D.v (Value.int IntKind.i64 (1 : Int)), dI (SRel.shots (List.getD l (Int.toNat i5 - (0 : Nat)) rel0)), dI (SRel.dead
 (List.getD l (Int.toNat i5 - (0 : Nat)) rel0)), dI (SRel.reclaim (List.getD l (Int.toNat i5 - (0 : Nat)) rel0)), dB (SRel.uon (List.getD l (Int.toNat i5 - (0 : Nat)) rel0)), dI
 (SRel.upk (List.getD l (Int.toNat i5 - (0 : Nat)) rel0)), dI (SRel.udl (List.getD l (Int.toNat i5 - (0 : Nat)) rel0)), dB (SRel.oon (List.getD l (Int.toNat i5 - (0 : Nat)) rel0)),
 dI (SRel.opk (List.getD l (Int.toNat i5 - (0 : Nat)) rel0)), dI (SRel.odl (List.getD l (Int.toNat i5 - (0 : Nat)) rel0)), dI (SRel.diff (List.getD l (Int.toNat i5 - (0 : Nat))
 rel0)), dI (SRel.num (List.getD l (Int.toNat i5 - (0 : Nat)) rel0)), dI (SRel.den (List.getD l (Int.toNat i5 - (0 : Nat)) rel0)), dI (SRel.harm (List.getD l (Int.toNat i5 - (0 :
 Nat)) rel0)), rulesD (SRel.rules (List.getD l (Int.toNat i5 - (0 : Nat)) rel0)), setsD (SRel.sets (List.getD l (Int.toNat i5 - (0 : Nat)) rel0)), pubsD (SRel.pubs (List.getD l
 (Int.toNat i5 - (0 : Nat)) rel0)), subsD (SRel.subs (List.getD l (Int.toNat i5 - (0 : Nat)) rel0))] else appF (0 : Nat) (chunk [] ((52 : Nat) + (1 : Nat))) (fun i => relC (List.getD
 l i rel0)) j))] == i5 then some (T.leaf (AV.c (C.d (D.v (Value.bool (KFo.ce Z [AV.agg (List.map C.d (staC s)), AV.c (C.d (D.sl ((53 : Nat)) ((0 : Nat) + List.length l) fun j => bif
 Nat.beq j (Int.toNat i5) then splice (appF (0 : Nat) (chunk [] ((52 : Nat) + (1 : Nat))) (fun i => relC (List.getD l i rel0)) j) (0 : Nat) [dS (SRel.name (List.getD l (Int.toNat i5
 - (0 : Nat)) rel0)), dI (SRel.kind (List.getD l (Int.toNat i5 - (0 : Nat)) rel0)), dI (SRel.bay (List.getD l (Int.toNat i5 - (0 : Nat)) rel0)), dB (SRel.zon0 (List.getD l (Int.toNat
 i5 - (0 : Nat)) rel0)), dB (SRel.zfw0 (List.getD l (Int.toNat i5 - (0 : Nat)) rel0)), dI (SRel.zx0 (List.getD l (Int.toNat i5 - (0 : Nat)) rel0)), dI (SRel.zr0 (List.getD l
 (Int.toNat i5 - (0 : Nat)) rel0)), dI (SRel.zl0 (List.getD l (Int.toNat i5 - (0 : Nat)) rel0)), dI (SRel.zd0 (List.getD l (Int.toNat i5 - (0 : Nat)) rel0)), dB (SRel.zon1 (List.getD
 l (Int.toNat i5 - (0 : Nat)) rel0)), dB (SRel.zfw1 (List.getD l (Int.toNat i5 - (0 : Nat)) rel0)), dI (SRel.zx1 (List.getD l (Int.toNat i5 - (0 : Nat)) rel0)), dI (SRel.zr1
 (List.getD l (Int.toNat i5 - (0 : Nat)) rel0)), dI (SRel.zl1 (List.getD l (Int.toNat i5 - (0 : Nat)) rel0)), dI (SRel.zd1 (List.getD l (Int.toNat i5 - (0 : Nat)) rel0)), dB
 (SRel.zon2 (List.getD l (Int.toNat i5 - (0 : Nat)) rel0)), dB (SRel.zfw2 (List.getD l (Int.toNat i5 - (0 : Nat)) rel0)), dI (SRel.zx2 (List.getD l (Int.toNat i5 - (0 : Nat)) rel0)),
 dI (SRel.zr2 (List.getD l (Int.toNat i5 - (0 : Nat)) rel0)), dI (SRel.zl2 (List.getD l (Int.toNat i5 - (0 : Nat)) rel0)), dI (SRel.zd2 (List.getD l (Int.toNat i5 - (0 : Nat))
 rel0)), dI (SRel.min (List.getD l (Int.toNat i5 - (0 : Nat)) rel0)), dI (SRel.kre (List.getD l (Int.toNat i5 - (0 : Nat)) rel0)), dI (SRel.kim (List.getD l (Int.toNat i5 - (0 :
 Nat)) rel0)), dI (SRel.scheme (List.getD l (Int.toNat i5 - (0 : Nat)) rel0)), dI (SRel.wait (List.getD l (Int.toNat i5 - (0 : Nat)) rel0)), dI (SRel.guard (List.getD l (Int.toNat i5
 - (0 : Nat)) rel0)), dB (SRel.don (List.getD l (Int.toNat i5 - (0 : Nat)) rel0)), dI (SRel.dpk (List.getD l (Int.toNat i5 - (0 : Nat)) rel0)), dI (SRel.ddl (List.getD l (Int.toNat
 i5 - (0 : Nat)) rel0)), dB (SRel.ion (List.getD l (Int.toNat i5 - (0 : Nat)) rel0)), dI (SRel.ipk (List.getD l (Int.toNat i5 - (0 : Nat)) rel0)), dI (SRel.idl (List.getD l
 (Int.toNat i5 - (0 : Nat)) rel0)), D.v (Value.bool true), D.v (Value.int IntKind.i64 (1 : Int)), D.v (Value.int IntKind.i64 (1 : Int)), dI (SRel.shots (List.getD l (Int.toNat i5 -
 (0 : Nat)) rel0)), dI (SRel.dead (List.getD l (Int.toNat i5 - (0 : Nat)) rel0)), dI (SRel.reclaim (List.getD l (Int.toNat i5 - (0 : Nat)) rel0)), dB (SRel.uon (List.getD l
 (Int.toNat i5 - (0 : Nat)) rel0)), dI (SRel.upk (List.getD l (Int.toNat i5 - (0 : Nat)) rel0)), dI (SRel.udl (List.getD l (Int.toNat i5 - (0 : Nat)) rel0)), dB (SRel.oon (List.getD
 l (Int.toNat i5 - (0 : Nat)) rel0)), dI (SRel.opk (List.getD l (Int.toNat i5 - (0 : Nat)) rel0)), dI (SRel.odl (List.getD l (Int.toNat i5 - (0 : Nat)) rel0)), dI (SRel.diff
 (List.getD l (Int.toNat i5 - (0 : Nat)) rel0)), dI (SRel.num (List.getD l (Int.toNat i5 - (0 : Nat)) rel0)), dI (SRel.den (List.getD l (Int.toNat i5 - (0 : Nat)) rel0)), dI
 (SRel.harm (List.getD l (Int.toNat i5 - (0 : Nat)) rel0)), rulesD (SRel.rules (List.getD l (Int.toNat i5 - (0 : Nat)) rel0)), setsD (SRel.sets (List.getD l (Int.toNat i5 - (0 :
 Nat)) rel0)), pubsD (SRel.pubs (List.getD l (Int.toNat i5 - (0 : Nat)) rel0)), subsD (SRel.subs (List.getD l (Int.toNat i5 - (0 : Nat)) rel0))] else appF (0 : Nat) (chunk [] ((52 :
 Nat) + (1 : Nat))) (fun i => relC (List.getD l i rel0)) j))] == (12 : Int))))), [])) else some (T.leaf (AV.c (C.d (D.v (Value.bool false))), [])))) else none) else none) else (bif
 decide ((0 : Int) ≤ i5) && decide (i5 < (↑((0 : Nat) + List.length l) : Int)) then (bif KFo.okc Z [AV.agg (List.map C.d (staC s)), AV.c (C.d (D.sl ((53 : Nat)) ((0 : Nat) +
 List.length l) fun j => bif Nat.beq j (Int.toNat i5) then splice (appF (0 : Nat) (chunk [] ((52 : Nat) + (1 : Nat))) (fun i => relC (List.getD l i rel0)) j) (0 : Nat) [dS (SRel.name
 (List.getD l (Int.toNat i5 - (0 : Nat)) rel0)), dI (SRel.kind (List.getD l (Int.toNat i5 - (0 : Nat)) rel0)), dI (SRel.bay (List.getD l (Int.toNat i5 - (0 : Nat)) rel0)), dB
 (SRel.zon0 (List.getD l (Int.toNat i5 - (0 : Nat)) rel0)), dB (SRel.zfw0 (List.getD l (Int.toNat i5 - (0 : Nat)) rel0)), dI (SRel.zx0 (List.getD l (Int.toNat i5 - (0 : Nat)) rel0)),
 dI (SRel.zr0 (List.getD l (Int.toNat i5 - (0 : Nat)) rel0)), dI (SRel.zl0 (List.getD l (Int.toNat i5 - (0 : Nat)) rel0)), dI (SRel.zd0 (List.getD l (Int.toNat i5 - (0 : Nat))
 rel0)), dB (SRel.zon1 (List.getD l (Int.toNat i5 - (0 : Nat)) rel0)), dB (SRel.zfw1 (List.getD l (Int.toNat i5 - (0 : Nat)) rel0)), dI (SRel.zx1 (List.getD l (Int.toNat i5 - (0 :
 Nat)) rel0)), dI (SRel.zr1 (List.getD l (Int.toNat i5 - (0 : Nat)) rel0)), dI (SRel.zl1 (List.getD l (Int.toNat i5 - (0 : Nat)) rel0)), dI (SRel.zd1 (List.getD l (Int.toNat i5 - (0
 : Nat)) rel0)), dB (SRel.zon2 (List.getD l (Int.toNat i5 - (0 : Nat)) rel0)), dB (SRel.zfw2 (List.getD l (Int.toNat i5 - (0 : Nat)) rel0)), dI (SRel.zx2 (List.getD l (Int.toNat i5 -
 (0 : Nat)) rel0)), dI (SRel.zr2 (List.getD l (Int.toNat i5 - (0 : Nat)) rel0)), dI (SRel.zl2 (List.getD l (Int.toNat i5 - (0 : Nat)) rel0)), dI (SRel.zd2 (List.getD l (Int.toNat i5
 - (0 : Nat)) rel0)), dI (SRel.min (List.getD l (Int.toNat i5 - (0 : Nat)) rel0)), dI (SRel.kre (List.getD l (Int.toNat i5 - (0 : Nat)) rel0)), dI (SRel.kim (List.getD l (Int.toNat
 i5 - (0 : Nat)) rel0)), dI (SRel.scheme (List.getD l (Int.toNat i5 - (0 : Nat)) rel0)), dI (SRel.wait (List.getD l (Int.toNat i5 - (0 : Nat)) rel0)), dI (SRel.guard (List.getD l
 (Int.toNat i5 - (0 : Nat)) rel0)), dB (SRel.don (List.getD l (Int.toNat i5 - (0 : Nat)) rel0)), dI (SRel.dpk (List.getD l (Int.toNat i5 - (0 : Nat)) rel0)), dI (SRel.ddl (List.getD
 l (Int.toNat i5 - (0 : Nat)) rel0)), dB (SRel.ion (List.getD l (Int.toNat i5 - (0 : Nat)) rel0)), dI (SRel.ipk (List.getD l (Int.toNat i5 - (0 : Nat)) rel0)), dI (SRel.idl
 (List.getD l (Int.toNat i5 - (0 : Nat)) rel0)), dB (SRel.fon (List.getD l (Int.toNat i5 - (0 : Nat)) rel0)), dI (SRel.fpk (List.getD l (Int.toNat i5 - (0 : Nat)) rel0)), dI
 (SRel.fdl (List.getD l (Int.toNat i5 - (0 : Nat)) rel0)), dI (SRel.shots (List.getD l (Int.toNat i5 - (0 : Nat)) rel0)), dI (SRel.dead (List.getD l (Int.toNat i5 - (0 : Nat))
 rel0)), dI (SRel.reclaim (List.getD l (Int.toNat i5 - (0 : Nat)) rel0)), dB (SRel.uon (List.getD l (Int.toNat i5 - (0 : Nat)) rel0)), dI (SRel.upk (List.getD l (Int.toNat i5 - (0 :
 Nat)) rel0)), dI (SRel.udl (List.getD l (Int.toNat i5 - (0 : Nat)) rel0)), dB (SRel.oon (List.getD l (Int.toNat i5 - (0 : Nat)) rel0)), dI (SRel.opk (List.getD l (Int.toNat i5 - (0
 : Nat)) rel0)), dI (SRel.odl (List.getD l (Int.toNat i5 - (0 : Nat)) rel0)), D.v (Value.int IntKind.i64 (1 : Int)), D.v (Value.int IntKind.i64 (1 : Int)), D.v (Value.int IntKind.i64
 (1 : Int)), dI (SRel.harm (List.getD l (Int.toNat i5 - (0 : Nat)) rel0)), rulesD (SRel.rules (List.getD l (Int.toNat i5 - (0 : Nat)) rel0)), setsD (SRel.sets (List.getD l (Int.toNat
 i5 - (0 : Nat)) rel0)), pubsD (SRel.pubs (List.getD l (Int.toNat i5 - (0 : Nat)) rel0)), subsD (SRel.subs (List.getD l (Int.toNat i5 - (0 : Nat)) rel0))] else appF (0 : Nat) (chunk
 [] ((52 : Nat) + (1 : Nat))) (fun i => relC (List.getD l i rel0)) j))] then (bif !SRel.kind (List.getD l (Int.toNat i5 - (0 : Nat)) rel0) != (4 : Int) then (bif KFo.ci Z [AV.agg
 (List.map C.d (staC s)), AV.c (C.d (D.sl ((53 : Nat)) ((0 : Nat) + List.length l) fun j => bif Nat.beq j (Int.toNat i5) then splice (appF (0 : Nat) (chunk [] ((52 : Nat) + (1 :
 Nat))) (fun i => relC (List.getD l i rel0)) j) (0 : Nat) [dS (SRel.name (List.getD l (Int.toNat i5 - (0 : Nat)) rel0)), dI (SRel.kind (List.getD l (Int.toNat i5 - (0 : Nat)) rel0)),
 dI (SRel.bay (List.getD l (Int.toNat i5 - (0 : Nat)) rel0)), dB (SRel.zon0 (List.getD l (Int.toNat i5 - (0 : Nat)) rel0)), dB (SRel.zfw0 (List.getD l (Int.toNat i5 - (0 : Nat))
 rel0)), dI (SRel.zx0 (List.getD l (Int.toNat i5 - (0 : Nat)) rel0)), dI (SRel.zr0 (List.getD l (Int.toNat i5 - (0 : Nat)) rel0)), dI (SRel.zl0 (List.getD l (Int.toNat i5 - (0 :
 Nat)) rel0)), dI (SRel.zd0 (List.getD l (Int.toNat i5 - (0 : Nat)) rel0)), dB (SRel.zon1 (List.getD l (Int.toNat i5 - (0 : Nat)) rel0)), dB (SRel.zfw1 (List.getD l (Int.toNat i5 -
 (0 : Nat)) rel0)), dI (SRel.zx1 (List.getD l (Int.toNat i5 - (0 : Nat)) rel0)), dI (SRel.zr1 (List.getD l (Int.toNat i5 - (0 : Nat)) rel0)), dI (SRel.zl1 (List.getD l (Int.toNat i5
 - (0 : Nat)) rel0)), dI (SRel.zd1 (List.getD l (Int.toNat i5 - (0 : Nat)) rel0)), dB (SRel.zon2 (List.getD l (Int.toNat i5 - (0 : Nat)) rel0)), dB (SRel.zfw2 (List.getD l (Int.toNat
 i5 - (0 : Nat)) rel0)), dI (SRel.zx2 (List.getD l (Int.toNat i5 - (0 : Nat)) rel0)), dI (SRel.zr2 (List.getD l (Int.toNat i5 - (0 : Nat)) rel0)), dI (SRel.zl2 (List.getD l
 (Int.toNat i5 - (0 : Nat)) rel0)), dI (SRel.zd2 (List.getD l (Int.toNat i5 - (0 : Nat)) rel0)), dI (SRel.min (List.getD l (Int.toNat i5 - (0 : Nat)) rel0)), dI (SRel.kre (List.getD
 l (Int.toNat i5 - (0 : Nat)) rel0)), dI (SRel.kim (List.getD l (Int.toNat i5 - (0 : Nat)) rel0)), dI (SRel.scheme (List.getD l (Int.toNat i5 - (0 : Nat)) rel0)), dI (SRel.wait
 (List.getD l (Int.toNat i5 - (0 : Nat)) rel0)), dI (SRel.guard (List.getD l (Int.toNat i5 - (0 : Nat)) rel0)), dB (SRel.don (List.getD l (Int.toNat i5 - (0 : Nat)) rel0)), dI
 (SRel.dpk (List.getD l (Int.toNat i5 - (0 : Nat)) rel0)), dI (SRel.ddl (List.getD l (Int.toNat i5 - (0 : Nat)) rel0)), dB (SRel.ion (List.getD l (Int.toNat i5 - (0 : Nat)) rel0)),
 dI (SRel.ipk (List.getD l (Int.toNat i5 - (0 : Nat)) rel0)), dI (SRel.idl (List.getD l (Int.toNat i5 - (0 : Nat)) rel0)), dB (SRel.fon (List.getD l (Int.toNat i5 - (0 : Nat))
 rel0)), dI (SRel.fpk (List.getD l (Int.toNat i5 - (0 : Nat)) rel0)), dI (SRel.fdl (List.getD l (Int.toNat i5 - (0 : Nat)) rel0)), dI (SRel.shots (List.getD l (Int.toNat i5 - (0 :
 Nat)) rel0)), dI (SRel.dead (List.getD l (Int.toNat i5 - (0 : Nat)) rel0)), dI (SRel.reclaim (List.getD l (Int.toNat i5 - (0 : Nat)) rel0)), dB (SRel.uon (List.getD l (Int.toNat i5
 - (0 : Nat)) rel0)), dI (SRel.upk (List.getD l (Int.toNat i5 - (0 : Nat)) rel0)), dI (SRel.udl (List.getD l (Int.toNat i5 - (0 : Nat)) rel0)), dB (SRel.oon (List.getD l (Int.toNat
 i5 - (0 : Nat)) rel0)), dI (SRel.opk (List.getD l (Int.toNat i5 - (0 : Nat)) rel0)), dI (SRel.odl (List.getD l (Int.toNat i5 - (0 : Nat)) rel0)), D.v (Value.int IntKind.i64 (1 :
 Int)), D.v (Value.int IntKind.i64 (1 : Int)), D.v (Value.int IntKind.i64 (1 : Int)), dI (SRel.harm (List.getD l (Int.toNat i5 - (0 : Nat)) rel0)), rulesD (SRel.rules (List.getD l
 (Int.toNat i5 - (0 : Nat)) rel0)), setsD (SRel.sets (List.getD l (Int.toNat i5 - (0 : Nat)) rel0)), pubsD (SRel.pubs (List.getD l (Int.toNat i5 - (0 : Nat)) rel0)), subsD (SRel.subs
 (List.getD l (Int.toNat i5 - (0 : Nat)) rel0))] else appF (0 : Nat) (chunk [] ((52 : Nat) + (1 : Nat))) (fun i => relC (List.getD l i rel0)) j))] == (0 : Int) then some (T.leaf
 (AV.c (C.d (D.v (Value.bool (KFo.ce Z [AV.agg (List.map C.d (staC s)), AV.c (C.d (D.sl ((53 : Nat)) ((0 : Nat) + List.length l) fun j => bif Nat.beq j (Int.toNat i5) then splice
 (appF (0 : Nat) (chunk [] ((52 : Nat) + (1 : Nat))) (fun i => relC (List.getD l i rel0)) j) (0 : Nat) [dS (SRel.name (List.getD l (Int.toNat i5 - (0 : Nat)) rel0)), dI (SRel.kind
 (List.getD l (Int.toNat i5 - (0 : Nat)) rel0)), dI (SRel.bay (List.getD l (Int.toNat i5 - (0 : Nat)) rel0)), dB (SRel.zon0 (List.getD l (Int.toNat i5 - (0 : Nat)) rel0)), dB
 (SRel.zfw0 (List.getD l (Int.toNat i5 - (0 : Nat)) rel0)), dI (SRel.zx0 (List.getD l (Int.toNat i5 - (0 : Nat)) rel0)), dI (SRel.zr0 (List.getD l (Int.toNat i5 - (0 : Nat)) rel0)),
 dI (SRel.zl0 (List.getD l (Int.toNat i5 - (0 : Nat)) rel0)), dI (SRel.zd0 (List.getD l (Int.toNat i5 - (0 : Nat)) rel0)), dB (SRel.zon1 (List.getD l (Int.toNat i5 - (0 : Nat))
 rel0)), dB (SRel.zfw1 (List.getD l (Int.toNat i5 - (0 : Nat)) rel0)), dI (SRel.zx1 (List.getD l (Int.toNat i5 - (0 : Nat)) rel0)), dI (SRel.zr1 (List.getD l (Int.toNat i5 - (0 :
 Nat)) rel0)), dI (SRel.zl1 (List.getD l (Int.toNat i5 - (0 : Nat)) rel0)), dI (SRel.zd1 (List.getD l (Int.toNat i5 - (0 : Nat)) rel0)), dB (SRel.zon2 (List.getD l (Int.toNat i5 - (0
 : Nat)) rel0)), dB (SRel.zfw2 (List.getD l (Int.toNat i5 - (0 : Nat)) rel0)), dI (SRel.zx2 (List.getD l (Int.toNat i5 - (0 : Nat)) rel0)), dI (SRel.zr2 (List.getD l (Int.toNat i5 -
 (0 : Nat)) rel0)), dI (SRel.zl2 (List.getD l (Int.toNat i5 - (0 : Nat)) rel0)), dI (SRel.zd2 (List.getD l (Int.toNat i5 - (0 : Nat)) rel0)), dI (SRel.min (List.getD l (Int.toNat i5
 - (0 : Nat)) rel0)), dI (SRel.kre (List.getD l (Int.toNat i5 - (0 : Nat)) rel0)), dI (SRel.kim (List.getD l (Int.toNat i5 - (0 : Nat)) rel0)), dI (SRel.scheme (List.getD l
 (Int.toNat i5 - (0 : Nat)) rel0)), dI (SRel.wait (List.getD l (Int.toNat i5 - (0 : Nat)) rel0)), dI (SRel.guard (List.getD l (Int.toNat i5 - (0 : Nat)) rel0)), dB (SRel.don
 (List.getD l (Int.toNat i5 - (0 : Nat)) rel0)), dI (SRel.dpk (List.getD l (Int.toNat i5 - (0 : Nat)) rel0)), dI (SRel.ddl (List.getD l (Int.toNat i5 - (0 : Nat)) rel0)), dB
 (SRel.ion (List.getD l (Int.toNat i5 - (0 : Nat)) rel0)), dI (SRel.ipk (List.getD l (Int.toNat i5 - (0 : Nat)) rel0)), dI (SRel.idl (List.getD l (Int.toNat i5 - (0 : Nat)) rel0)),
 dB (SRel.fon (List.getD l (Int.toNat i5 - (0 : Nat)) rel0)), dI (SRel.fpk (List.getD l (Int.toNat i5 - (0 : Nat)) rel0)), dI (SRel.fdl (List.getD l (Int.toNat i5 - (0 : Nat))
 rel0)), dI (SRel.shots (List.getD l (Int.toNat i5 - (0 : Nat)) rel0)), dI (SRel.dead (List.getD l (Int.toNat i5 - (0 : Nat)) rel0)), dI (SRel.reclaim (List.getD l (Int.toNat i5 - (0
 : Nat)) rel0)), dB (SRel.uon (List.getD l (Int.toNat i5 - (0 : Nat)) rel0)), dI (SRel.upk (List.getD l (Int.toNat i5 - (0 : Nat)) rel0)), dI (SRel.udl (List.getD l (Int.toNat i5 -
 (0 : Nat)) rel0)), dB (SRel.oon (List.getD l (Int.toNat i5 - (0 : Nat)) rel0)), dI (SRel.opk (List.getD l (Int.toNat i5 - (0 : Nat)) rel0)), dI (SRel.odl (List.getD l (Int.toNat i5
 - (0 : Nat)) rel0)), D.v (Value.int IntKind.i64 (1 : Int)), D.v (Value.int IntKind.i64 (1 : Int)), D.v (Value.int IntKind.i64 (1 : Int)), dI (SRel.harm (List.getD l (Int.toNat i5 -
 (0 : Nat)) rel0)), rulesD (SRel.rules (List.getD l (Int.toNat i5 - (0 : Nat)) rel0)), setsD (SRel.sets (List.getD l (Int.toNat i5 - (0 : Nat)) rel0)), pubsD (SRel.pubs (List.getD l
 (Int.toNat i5 - (0 : Nat)) rel0)), subsD (SRel.subs (List.getD l (Int.toNat i5 - (0 : Nat)) rel0))] else appF (0 : Nat) (chunk [] ((52 : Nat) + (1 : Nat))) (fun i => relC (List.getD
 l i rel0)) j))] == (0 : Int))))), [])) else some (T.leaf (AV.c (C.d (D.v (Value.bool false))), []))) else (bif KFo.ci Z [AV.agg (List.map C.d (staC s)), AV.c (C.d (D.sl ((53 : Nat))
 ((0 : Nat) + List.length l) fun j => bif Nat.beq j (Int.toNat i5) then splice (appF (0 : Nat) (chunk [] ((52 : Nat) + (1 : Nat))) (fun i => relC (List.getD l i rel0)) j) (0 : Nat)
 [dS (SRel.name (List.getD l (Int.toNat i5 - (0 : Nat)) rel0)), dI (SRel.kind (List.getD l (Int.toNat i5 - (0 : Nat)) rel0)), dI (SRel.bay (List.getD l (Int.toNat i5 - (0 : Nat))
 rel0)), dB (SRel.zon0 (List.getD l (Int.toNat i5 - (0 : Nat)) rel0)), dB (SRel.zfw0 (List.getD l (Int.toNat i5 - (0 : Nat)) rel0)), dI (SRel.zx0 (List.getD l (Int.toNat i5 - (0 :
 Nat)) rel0)), dI (SRel.zr0 (List.getD l (Int.toNat i5 - (0 : Nat)) rel0)), dI (SRel.zl0 (List.getD l (Int.toNat i5 - (0 : Nat)) rel0)), dI (SRel.zd0 (List.getD l (Int.toNat i5 - (0
 : Nat)) rel0)), dB (SRel.zon1 (List.getD l (Int.toNat i5 - (0 : Nat)) rel0)), dB (SRel.zfw1 (List.getD l (Int.toNat i5 - (0 : Nat)) rel0)), dI (SRel.zx1 (List.getD l (Int.toNat i5 -
 (0 : Nat)) rel0)), dI (SRel.zr1 (List.getD l (Int.toNat i5 - (0 : Nat)) rel0)), dI (SRel.zl1 (List.getD l (Int.toNat i5 - (0 : Nat)) rel0)), dI (SRel.zd1 (List.getD l (Int.toNat i5
 - (0 : Nat)) rel0)), dB (SRel.zon2 (List.getD l (Int.toNat i5 - (0 : Nat)) rel0)), dB (SRel.zfw2 (List.getD l (Int.toNat i5 - (0 : Nat)) rel0)), dI (SRel.zx2 (List.getD l (Int.toNat
 i5 - (0 : Nat)) rel0)), dI (SRel.zr2 (List.getD l (Int.toNat i5 - (0 : Nat)) rel0)), dI (SRel.zl2 (List.getD l (Int.toNat i5 - (0 : Nat)) rel0)), dI (SRel.zd2 (List.getD l
 (Int.toNat i5 - (0 : Nat)) rel0)), dI (SRel.min (List.getD l (Int.toNat i5 - (0 : Nat)) rel0)), dI (SRel.kre (List.getD l (Int.toNat i5 - (0 : Nat)) rel0)), dI (SRel.kim (List.getD
 l (Int.toNat i5 - (0 : Nat)) rel0)), dI (SRel.scheme (List.getD l (Int.toNat i5 - (0 : Nat)) rel0)), dI (SRel.wait (List.getD l (Int.toNat i5 - (0 : Nat)) rel0)), dI (SRel.guard
 (List.getD l (Int.toNat i5 - (0 : Nat)) rel0)), dB (SRel.don (List.getD l (Int.toNat i5 - (0 : Nat)) rel0)), dI (SRel.dpk (List.getD l (Int.toNat i5 - (0 : Nat)) rel0)), dI
 (SRel.ddl (List.getD l (Int.toNat i5 - (0 : Nat)) rel0)), dB (SRel.ion (List.getD l (Int.toNat i5 - (0 : Nat)) rel0)), dI (SRel.ipk (List.getD l (Int.toNat i5 - (0 : Nat)) rel0)),
 dI (SRel.idl (List.getD l (Int.toNat i5 - (0 : Nat)) rel0)), dB (SRel.fon (List.getD l (Int.toNat i5 - (0 : Nat)) rel0)), dI (SRel.fpk (List.getD l (Int.toNat i5 - (0 : Nat))
 rel0)), dI (SRel.fdl (List.getD l (Int.toNat i5 - (0 : Nat)) rel0)), dI (SRel.shots (List.getD l (Int.toNat i5 - (0 : Nat)) rel0)), dI (SRel.dead (List.getD l (Int.toNat i5 - (0 :
 Nat)) rel0)), dI (SRel.reclaim (List.getD l (Int.toNat i5 - (0 : Nat)) rel0)), dB (SRel.uon (List.getD l (Int.toNat i5 - (0 : Nat)) rel0)), dI (SRel.upk (List.getD l (Int.toNat i5 -
 (0 : Nat)) rel0)), dI (SRel.udl (List.getD l (Int.toNat i5 - (0 : Nat)) rel0)), dB (SRel.oon (List.getD l (Int.toNat i5 - (0 : Nat)) rel0)), dI (SRel.opk (List.getD l (Int.toNat i5
 - (0 : Nat)) rel0)), dI (SRel.odl (List.getD l (Int.toNat i5 - (0 : Nat)) rel0)), D.v (Value.int IntKind.i64 (1 : Int)), D.v (Value.int IntKind.i64 (1 : Int)), D.v (Value.int
 IntKind.i64 (1 : Int)), dI (SRel.harm (List.getD l (Int.toNat i5 - (0 : Nat)) rel0)), rulesD (SRel.rules (List.getD l (Int.toNat i5 - (0 : Nat)) rel0)), setsD (SRel.sets (List.getD
 l (Int.toNat i5 - (0 : Nat)) rel0)), pubsD (SRel.pubs (List.getD l (Int.toNat i5 - (0 : Nat)) rel0)), subsD (SRel.subs (List.getD l (Int.toNat i5 - (0 : Nat)) rel0))] else appF (0 :
 Nat) (chunk [] ((52 : Nat) + (1 : Nat))) (fun i => relC (List.getD l i rel0)) j))] == i5 then some (T.leaf (AV.c (C.d (D.v (Value.bool (KFo.ce Z [AV.agg (List.map C.d (staC s)),
 AV.c (C.d (D.sl ((53 : Nat)) ((0 : Nat) + List.length l) fun j => bif Nat.beq j (Int.toNat i5) then splice (appF (0 : Nat) (chunk [] ((52 : Nat) + (1 : Nat))) (fun i => relC
 (List.getD l i rel0)) j) (0 : Nat) [dS (SRel.name (List.getD l (Int.toNat i5 - (0 : Nat)) rel0)), dI (SRel.kind (List.getD l (Int.toNat i5 - (0 : Nat)) rel0)), dI (SRel.bay
 (List.getD l (Int.toNat i5 - (0 : Nat)) rel0)), dB (SRel.zon0 (List.getD l (Int.toNat i5 - (0 : Nat)) rel0)), dB (SRel.zfw0 (List.getD l (Int.toNat i5 - (0 : Nat)) rel0)), dI
 (SRel.zx0 (List.getD l (Int.toNat i5 - (0 : Nat)) rel0)), dI (SRel.zr0 (List.getD l (Int.toNat i5 - (0 : Nat)) rel0)), dI (SRel.zl0 (List.getD l (Int.toNat i5 - (0 : Nat)) rel0)),
 dI (SRel.zd0 (List.getD l (Int.toNat i5 - (0 : Nat)) rel0)), dB (SRel.zon1 (List.getD l (Int.toNat i5 - (0 : Nat)) rel0)), dB (SRel.zfw1 (List.getD l (Int.toNat i5 - (0 : Nat))
 rel0)), dI (SRel.zx1 (List.getD l (Int.toNat i5 - (0 : Nat)) rel0)), dI (SRel.zr1 (List.getD l (Int.toNat i5 - (0 : Nat)) rel0)), dI (SRel.zl1 (List.getD l (Int.toNat i5 - (0 :
 Nat)) rel0)), dI (SRel.zd1 (List.getD l (Int.toNat i5 - (0 : Nat)) rel0)), dB (SRel.zon2 (List.getD l (Int.toNat i5 - (0 : Nat)) rel0)), dB (SRel.zfw2 (List.getD l (Int.toNat i5 -
 (0 : Nat)) rel0)), dI (SRel.zx2 (List.getD l (Int.toNat i5 - (0 : Nat)) rel0)), dI (SRel.zr2 (List.getD l (Int.toNat i5 - (0 : Nat)) rel0)), dI (SRel.zl2 (List.getD l (Int.toNat i5
 - (0 : Nat)) rel0)), dI (SRel.zd2 (List.getD l (Int.toNat i5 - (0 : Nat)) rel0)), dI (SRel.min (List.getD l (Int.toNat i5 - (0 : Nat)) rel0)), dI (SRel.kre (List.getD l (Int.toNat
 i5 - (0 : Nat)) rel0)), dI (SRel.kim (List.getD l (Int.toNat i5 - (0 : Nat)) rel0)), dI (SRel.scheme (List.getD l (Int.toNat i5 - (0 : Nat)) rel0)), dI (SRel.wait (List.getD l
 (Int.toNat i5 - (0 : Nat)) rel0)), dI (SRel.guard (List.getD l (Int.toNat i5 - (0 : Nat)) rel0)), dB (SRel.don (List.getD l (Int.toNat i5 - (0 : Nat)) rel0)), dI (SRel.dpk
 (List.getD l (Int.toNat i5 - (0 : Nat)) rel0)), dI (SRel.ddl (List.getD l (Int.toNat i5 - (0 : Nat)) rel0)), dB (SRel.ion (List.getD l (Int.toNat i5 - (0 : Nat)) rel0)), dI
 (SRel.ipk (List.getD l (Int.toNat i5 - (0 : Nat)) rel0)), dI (SRel.idl (List.getD l (Int.toNat i5 - (0 : Nat)) rel0)), dB (SRel.fon (List.getD l (Int.toNat i5 - (0 : Nat)) rel0)),
 dI (SRel.fpk (List.getD l (Int.toNat i5 - (0 : Nat)) rel0)), dI (SRel.fdl (List.getD l (Int.toNat i5 - (0 : Nat)) rel0)), dI (SRel.shots (List.getD l (Int.toNat i5 - (0 : Nat))
 rel0)), dI (SRel.dead (List.getD l (Int.toNat i5 - (0 : Nat)) rel0)), dI (SRel.reclaim (List.getD l (Int.toNat i5 - (0 : Nat)) rel0)), dB (SRel.uon (List.getD l (Int.toNat i5 - (0 :
 Nat)) rel0)), dI (SRel.upk (List.getD l (Int.toNat i5 - (0 : Nat)) rel0)), dI (SRel.udl (List.getD l (Int.toNat i5 - (0 : Nat)) rel0)), dB (SRel.oon (List.getD l (Int.toNat i5 - (0
 : Nat)) rel0)), dI (SRel.opk (List.getD l (Int.toNat i5 - (0 : Nat)) rel0)), dI (SRel.odl (List.getD l (Int.toNat i5 - (0 : Nat)) rel0)), D.v (Value.int IntKind.i64 (1 : Int)), D.v
 (Value.int IntKind.i64 (1 : Int)), D.v (Value.int IntKind.i64 (1 : Int)), dI (SRel.harm (List.getD l (Int.toNat i5 - (0 : Nat)) rel0)), rulesD (SRel.rules (List.getD l (Int.toNat i5
 - (0 : Nat)) rel0)), setsD (SRel.sets (List.getD l (Int.toNat i5 - (0 : Nat)) rel0)), pubsD (SRel.pubs (List.getD l (Int.toNat i5 - (0 : Nat)) rel0)), subsD (SRel.subs (List.getD l
 (Int.toNat i5 - (0 : Nat)) rel0))] else appF (0 : Nat) (chunk [] ((52 : Nat) + (1 : Nat))) (fun i => relC (List.getD l i rel0)) j))] == (12 : Int))))), [])) else some (T.leaf (AV.c
 (C.d (D.v (Value.bool false))), [])))) else none) else none)))) else none) else none) := by kernel_rfl
end Go.Proofs.YtngoglhlhlfknaaGreat.se
