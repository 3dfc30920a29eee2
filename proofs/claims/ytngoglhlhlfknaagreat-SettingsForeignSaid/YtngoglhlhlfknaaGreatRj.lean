/-
  SettingsPrefixes: sizes of relays, and what the statement computes. No condition.
-/
import Derived.Test.YtngoglhlhlfknaaGreatZTm
import Derived.Test.YtngoglhlhlfknaaGreatZRe
import Derived.Test.YtngoglhlhlfknaaGreatRf
namespace Go.Proofs.YtngoglhlhlfknaaGreat.se
open Go.RowKit Go.Eb Go.Proofs.YtngoglhlhlfknaaGreat.st
set_option maxRecDepth 100000

noncomputable def annlg7 : Ann := annOf [(4, ⟨[1, 3], []⟩), (9, ⟨[1, 4], []⟩)]
noncomputable def Llg7_4 (r : SRel) (g m : Nat) (i3 : Int) := LK Tryz.prog Orc.nil annlg7 (List.length (α := Nat × Blk) []) g Tryz.f33 4 m ⟨frm [(1, AV.c (C.ptr 0 0)), (3, AV.c (C.d (D.v (Value.int IntKind.i64 i3))))] 0 Tryz.f33.ntmps, [(0, Blk.cells (List.map C.d (relC r)) 57)], 1⟩
noncomputable def Llg7_9 (r : SRel) (g m : Nat) (i4 : Int) := LK Tryz.prog Orc.nil annlg7 (List.length (α := Nat × Blk) []) g Tryz.f33 9 m ⟨frm [(1, AV.c (C.ptr 0 0)), (4, AV.c (C.d (D.v (Value.int IntKind.i64 i4))))] 0 Tryz.f33.ntmps, [(0, Blk.cells (List.map C.d (relC r)) 57)], 1⟩
theorem blg7 : Tryz.f33.body = some (bodyOf Tryz.f33) := by kernel_rfl
set_option maxRecDepth 100000 in
theorem evlg7 (r : SRel) (g : Nat) : callC Tryz.prog Orc.nil annlg7 g Tryz.f33 (bodyOf Tryz.f33) [aRel r] [] =
 (bif decide ((↑(List.length (SRel.rules r)) : Int) > (20 : Int)) then some (T.leaf (AV.c (C.d (D.v (Value.bool true))), [])) else (bif decide ((↑(List.length (SRel.sets r)) : Int) >
 (8 : Int)) then some (T.leaf (AV.c (C.d (D.v (Value.bool true))), [])) else (bif decide ((↑(List.length (SRel.pubs r)) : Int) > (8 : Int)) then some (T.leaf (AV.c (C.d (D.v
 (Value.bool true))), [])) else (bif decide ((↑(List.length (SRel.subs r)) : Int) > (30 : Int)) then some (T.leaf (AV.c (C.d (D.v (Value.bool true))), [])) else Llg7_4 r g g ((0 :
 Int)))))) := by kernel_rfl
set_option maxRecDepth 100000 in
theorem stlg7_4 (r : SRel) (g m : Nat) (i3 : Int) : Llg7_4 r g (m + 1) i3 =
 (bif decide (i3 < (↑(List.length (SRel.sets r)) : Int)) then (bif decide ((0 : Int) ≤ i3) && decide (i3 < (↑(List.length (SRel.sets r)) : Int)) then (bif decide ((↑(List.length
 (SSet.sigs (List.getD (SRel.sets r) (Int.toNat i3) set0))) : Int) > (30 : Int)) then some (T.leaf (AV.c (C.d (D.v (Value.bool true))), [])) else Llg7_4 r g m (IntKind.wrap
 IntKind.i64 (i3 + (1 : Int)))) else none) else Llg7_9 r g g ((0 : Int))) := by kernel_rfl
set_option maxRecDepth 100000 in
theorem stlg7_9 (r : SRel) (g m : Nat) (i4 : Int) : Llg7_9 r g (m + 1) i4 =
 (bif decide (i4 < (↑(List.length (SRel.rules r)) : Int)) then (bif decide ((0 : Int) ≤ i4) && decide (i4 < (↑(List.length (SRel.rules r)) : Int)) then (bif decide ((↑(ByteArray.size
 (SRule.text (List.getD (SRel.rules r) (Int.toNat i4) rule0))) : Int) > (200 : Int)) then some (T.leaf (AV.c (C.d (D.v (Value.bool true))), [])) else Llg7_9 r g m (IntKind.wrap
 IntKind.i64 (i4 + (1 : Int)))) else none) else some (T.leaf (AV.c (C.d (D.v (Value.bool false))), []))) := by kernel_rfl
structure KF where
  okS : List AV → Bool
  lg : List AV → Bool
  chk : List AV → Int
  okr : List AV → Bool
  lr : List AV → Bool
noncomputable def oF (Z : KF) : Orc := Orc.cons 8 (ansG Z.okS fun x => vB (Z.lg x)) (Orc.cons 9 (ansG Z.okS fun x => vI (Z.chk x)) (Orc.cons 33 (ansG Z.okr fun x => vB (Z.lr x)) Orc.nil))
noncomputable def annfin : Ann := annOf [(4, ⟨[1, 5], []⟩)]
noncomputable def Lfin_4 (Z : KF) (s : SSta) (l : List SRel) (g m : Nat) (i5 : Int) := LK Tryz.prog (oF Z) annfin (List.length (α := Nat × Blk) []) g Tryz.f14 4 m ⟨frm [(1, AV.c (C.d (listD 53 relC rel0 l))), (5, AV.c (C.d (D.v (Value.int IntKind.i64 i5))))] 0 Tryz.f14.ntmps, [], 0⟩
theorem bfin : Tryz.f14.body = some (bodyOf Tryz.f14) := by kernel_rfl
set_option maxRecDepth 100000 in
theorem evfin (Z : KF) (s : SSta) (l : List SRel) (g : Nat) : callC Tryz.prog (oF Z) annfin g Tryz.f14 (bodyOf Tryz.f14) [aSta s, .c (.d (relsD l))] [] =
 (bif KF.okS Z [AV.agg (List.map C.d (staC s))] then (bif KF.lg Z [AV.agg (List.map C.d (staC s))] then some (T.leaf (AV.c (C.d (D.v (Value.bool false))), [])) else (bif KF.okS Z
 [AV.agg (List.map C.d (staC s))] then (bif KF.chk Z [AV.agg (List.map C.d (staC s))] != (0 : Int) then some (T.leaf (AV.c (C.d (D.v (Value.bool false))), [])) else (bif decide
 ((↑(List.length l) : Int) > (20 : Int)) then some (T.leaf (AV.c (C.d (D.v (Value.bool false))), [])) else Lfin_4 Z s l g g ((0 : Int)))) else none)) else none) := by kernel_rfl
set_option maxRecDepth 100000 in
theorem stfin_4 (Z : KF) (s : SSta) (l : List SRel) (g m : Nat) (i5 : Int) : Lfin_4 Z s l g (m + 1) i5 =
 (bif decide (i5 < (↑(List.length l) : Int)) then (bif decide ((0 : Int) ≤ i5) && decide (i5 < (↑(List.length l) : Int)) then (bif KF.okr Z [AV.agg (List.map C.d (relC (List.getD l
 (Int.toNat i5) rel0)))] then (bif KF.lr Z [AV.agg (List.map C.d (relC (List.getD l (Int.toNat i5) rel0)))] then some (T.leaf (AV.c (C.d (D.v (Value.bool false))), [])) else Lfin_4 Z
 s l g m (IntKind.wrap IntKind.i64 (i5 + (1 : Int)))) else none) else none) else some (T.leaf (AV.c (C.d (D.v (Value.bool true))), []))) := by kernel_rfl
structure KX where
  okf : List AV → Bool
  fi : List AV → Bool
  okc : List AV → Bool
  ci : List AV → Int
  ce : List AV → Int
noncomputable def oX (Z : KX) : Orc := Orc.cons 7 (ansP dec0 fun _ => vB true) (Orc.cons 14 (ansG Z.okf fun x => vB (Z.fi x)) (Orc.cons 13 (ansG Z.okc fun x => .tup [(false, [.d (dI (Z.ci x))]), (false, [.d (dI (Z.ce x))])]) Orc.nil))
noncomputable def annpx : Ann := annOf []
theorem bpx : Tryz.f4.body = some (bodyOf Tryz.f4) := by kernel_rfl
set_option maxRecDepth 100000 in
theorem evpx (Z : KX) (s : SSta) (l : List SRel) (k : Int) (g : Nat) : callC Tryz.prog (oX Z) annpx g Tryz.f4 (bodyOf Tryz.f4) [aSta s, .c (.d (relsD l)), vI k] [] =
 (bif KX.okf Z [AV.agg (List.map C.d (staC s)), AV.c (C.d (listD ((53 : Nat)) relC rel0 l))] then (bif !KX.fi Z [AV.agg (List.map C.d (staC s)), AV.c (C.d (listD ((53 : Nat)) relC
 rel0 l))] then some (T.leaf (AV.c (C.d (D.v (Value.bool true))), [])) else (bif (↑(List.length l) : Int) == (0 : Int) then some (T.leaf (AV.c (C.d (D.v (Value.bool true))), []))
 else (bif !IntKind.wrap IntKind.i64 ((↑(List.length l) : Int) + (1 : Int)) == (0 : Int) then (bif decide (Int.tmod k (IntKind.wrap IntKind.i64 ((↑(List.length l) : Int) + (1 :
 Int))) < (0 : Int)) then (bif KX.okc Z [AV.agg (List.map C.d (staC s)), AV.c (C.d (listD ((53 : Nat)) relC rel0 l))] then (bif decide ((0 : Int) ≤ (↑(0 : Nat) : Int)) && decide
 ((↑(0 : Nat) : Int) ≤ IntKind.wrap IntKind.i64 (IntKind.wrap IntKind.i64 (Int.tmod k (IntKind.wrap IntKind.i64 ((↑(List.length l) : Int) + (1 : Int))) + (↑(List.length l) : Int)) +
 (1 : Int))) && decide (IntKind.wrap IntKind.i64 (IntKind.wrap IntKind.i64 (Int.tmod k (IntKind.wrap IntKind.i64 ((↑(List.length l) : Int) + (1 : Int))) + (↑(List.length l) : Int)) +
 (1 : Int)) ≤ (↑(List.length l) : Int)) then (bif KX.okc Z [AV.agg (List.map C.d (staC s)), AV.c (C.d (D.sl ((53 : Nat)) (Int.toNat (IntKind.wrap IntKind.i64 (IntKind.wrap
 IntKind.i64 (Int.tmod k (IntKind.wrap IntKind.i64 ((↑(List.length l) : Int) + (1 : Int))) + (↑(List.length l) : Int)) + (1 : Int))) - Int.toNat (↑(0 : Nat) : Int)) fun i => relC
 (List.getD l (Int.toNat (↑(0 : Nat) : Int) + i) rel0)))] then (bif KX.ce Z [AV.agg (List.map C.d (staC s)), AV.c (C.d (listD ((53 : Nat)) relC rel0 l))] == (0 : Int) then (bif KX.ci
 Z [AV.agg (List.map C.d (staC s)), AV.c (C.d (D.sl ((53 : Nat)) (Int.toNat (IntKind.wrap IntKind.i64 (IntKind.wrap IntKind.i64 (Int.tmod k (IntKind.wrap IntKind.i64 ((↑(List.length
 l) : Int) + (1 : Int))) + (↑(List.length l) : Int)) + (1 : Int))) - Int.toNat (↑(0 : Nat) : Int)) fun i => relC (List.getD l (Int.toNat (↑(0 : Nat) : Int) + i) rel0)))] == (0 : Int)
 then some (T.leaf (AV.c (C.d (D.v (Value.bool (KX.ce Z [AV.agg (List.map C.d (staC s)), AV.c (C.d (D.sl ((53 : Nat)) (Int.toNat (IntKind.wrap IntKind.i64 (IntKind.wrap IntKind.i64
 (Int.tmod k (IntKind.wrap IntKind.i64 ((↑(List.length l) : Int) + (1 : Int))) + (↑(List.length l) : Int)) + (1 : Int))) - Int.toNat (↑(0 : Nat) : Int)) fun i => relC (List.getD l
 (Int.toNat (↑(0 : Nat) : Int) + i) rel0)))] == (0 : Int))))), [])) else some (T.leaf (AV.c (C.d (D.v (Value.bool false))), []))) else (bif decide (KX.ci Z [AV.agg (List.map C.d
 (staC s)), AV.c (C.d (listD ((53 : Nat)) relC rel0 l))] ≥ IntKind.wrap IntKind.i64 (IntKind.wrap IntKind.i64 (Int.tmod k (IntKind.wrap IntKind.i64 ((↑(List.length l) : Int) + (1 :
 Int))) + (↑(List.length l) : Int)) + (1 : Int))) then (bif KX.ci Z [AV.agg (List.map C.d (staC s)), AV.c (C.d (D.sl ((53 : Nat)) (Int.toNat (IntKind.wrap IntKind.i64 (IntKind.wrap
 IntKind.i64 (Int.tmod k (IntKind.wrap IntKind.i64 ((↑(List.length l) : Int) + (1 : Int))) + (↑(List.length l) : Int)) + (1 : Int))) - Int.toNat (↑(0 : Nat) : Int)) fun i => relC
 (List.getD l (Int.toNat (↑(0 : Nat) : Int) + i) rel0)))] == (0 : Int) then some (T.leaf (AV.c (C.d (D.v (Value.bool (KX.ce Z [AV.agg (List.map C.d (staC s)), AV.c (C.d (D.sl ((53 :
 Nat)) (Int.toNat (IntKind.wrap IntKind.i64 (IntKind.wrap IntKind.i64 (Int.tmod k (IntKind.wrap IntKind.i64 ((↑(List.length l) : Int) + (1 : Int))) + (↑(List.length l) : Int)) + (1 :
 Int))) - Int.toNat (↑(0 : Nat) : Int)) fun i => relC (List.getD l (Int.toNat (↑(0 : Nat) : Int) + i) rel0)))] == (0 : Int))))), [])) else some (T.leaf (AV.c (C.d (D.v (Value.bool
 false))), []))) else (bif KX.ci Z [AV.agg (List.map C.d (staC s)), AV.c (C.d (D.sl ((53 : Nat)) (Int.toNat (IntKind.wrap IntKind.i64 (IntKind.wrap IntKind.i64 (Int.tmod k
 (IntKind.wrap IntKind.i64 ((↑(List.length l) : Int) + (1 : Int))) + (↑(List.length l) : Int)) + (1 : Int))) - Int.toNat (↑(0 : Nat) : Int)) fun i => relC (List.getD l (Int.toNat
 (↑(0 : Nat) : Int) + i) rel0)))] == KX.ci Z [AV.agg (List.map C.d (staC s)), AV.c (C.d (listD ((53 : Nat)) relC rel0 l))] then some (T.leaf (AV.c (C.d (D.v (Value.bool (KX.ce Z
 [AV.agg (List.map C.d (staC s)), AV.c (C.d (D.sl ((53 : Nat)) (Int.toNat (IntKind.wrap IntKind.i64 (IntKind.wrap IntKind.i64 (Int.tmod k (IntKind.wrap IntKind.i64 ((↑(List.length l)
 : Int) + (1 : Int))) + (↑(List.length l) : Int)) + (1 : Int))) - Int.toNat (↑(0 : Nat) : Int)) fun i => relC (List.getD l (Int.toNat (↑(0 : Nat) : Int) + i) rel0)))] == KX.ce Z
 [AV.agg (List.map C.d (staC s)), AV.c (C.d (listD ((53 : Nat)) relC rel0 l))])))), [])) else some (T.leaf (AV.c (C.d (D.v (Value.bool false))), []))))) else none) else none) else
 none) else (bif KX.okc Z [AV.agg (List.map C.d (staC s)), AV.c (C.d (listD ((53 : Nat)) relC rel0 l))] then (bif decide ((0 : Int) ≤ (↑(0 : Nat) : Int)) && decide ((↑(0 : Nat) :
 Int) ≤ Int.tmod k (IntKind.wrap IntKind.i64 ((↑(List.length l) : Int) + (1 : Int)))) && decide (Int.tmod k (IntKind.wrap IntKind.i64 ((↑(List.length l) : Int) + (1 : Int))) ≤
 (↑(List.length l) : Int)) then (bif KX.okc Z [AV.agg (List.map C.d (staC s)), AV.c (C.d (D.sl ((53 : Nat)) (Int.toNat (Int.tmod k (IntKind.wrap IntKind.i64 ((↑(List.length l) : Int)
 + (1 : Int)))) - Int.toNat (↑(0 : Nat) : Int)) fun i => relC (List.getD l (Int.toNat (↑(0 : Nat) : Int) + i) rel0)))] then (bif KX.ce Z [AV.agg (List.map C.d (staC s)), AV.c (C.d
 (listD ((53 : Nat)) relC rel0 l))] == (0 : Int) then (bif KX.ci Z [AV.agg (List.map C.d (staC s)), AV.c (C.d (D.sl ((53 : Nat)) (Int.toNat (Int.tmod k (IntKind.wrap IntKind.i64
 ((↑(List.length l) : Int) + (1 : Int)))) - Int.toNat (↑(0 : Nat) : Int)) fun i => relC (List.getD l (Int.toNat (↑(0 : Nat) : Int) + i) rel0)))] == (0 : Int) then some (T.leaf (AV.c
 (C.d (D.v (Value.bool (KX.ce Z [AV.agg (List.map C.d (staC s)), AV.c (C.d (D.sl ((53 : Nat)) (Int.toNat (Int.tmod k (IntKind.wrap IntKind.i64 ((↑(List.length l) : Int) + (1 :
 Int)))) - Int.toNat (↑(0 : Nat) : Int)) fun i => relC (List.getD l (Int.toNat (↑(0 : Nat) : Int) + i) rel0)))] == (0 : Int))))), [])) else some (T.leaf (AV.c (C.d (D.v (Value.bool
 false))), []))) else (bif decide (KX.ci Z [AV.agg (List.map C.d (staC s)), AV.c (C.d (listD ((53 : Nat)) relC rel0 l))] ≥ Int.tmod k (IntKind.wrap IntKind.i64 ((↑(List.length l) :
 Int) + (1 : Int)))) then (bif KX.ci Z [AV.agg (List.map C.d (staC s)), AV.c (C.d (D.sl ((53 : Nat)) (Int.toNat (Int.tmod k (IntKind.wrap IntKind.i64 ((↑(List.length l) : Int) + (1 :
 Int)))) - Int.toNat (↑(0 : Nat) : Int)) fun i => relC (List.getD l (Int.toNat (↑(0 : Nat) : Int) + i) rel0)))] == (0 : Int) then some (T.leaf (AV.c (C.d (D.v (Value.bool (KX.ce Z
 [AV.agg (List.map C.d (staC s)), AV.c (C.d (D.sl ((53 : Nat)) (Int.toNat (Int.tmod k (IntKind.wrap IntKind.i64 ((↑(List.length l) : Int) + (1 : Int)))) - Int.toNat (↑(0 : Nat) :
 Int)) fun i => relC (List.getD l (Int.toNat (↑(0 : Nat) : Int) + i) rel0)))] == (0 : Int))))), [])) else some (T.leaf (AV.c (C.d (D.v (Value.bool false))), []))) else (bif KX.ci Z
 [AV.agg (List.map C.d (staC s)), AV.c (C.d (D.sl ((53 : Nat)) (Int.toNat (Int.tmod k (IntKind.wrap IntKind.i64 ((↑(List.length l) : Int) + (1 : Int)))) - Int.toNat (↑(0 : Nat) :
 Int)) fun i => relC (List.getD l (Int.toNat (↑(0 : Nat) : Int) + i) rel0)))] == KX.ci Z [AV.agg (List.map C.d (staC s)), AV.c (C.d (listD ((53 : Nat)) relC rel0 l))] then some
 (T.leaf (AV.c (C.d (D.v (Value.bool (KX.ce Z [AV.agg (List.map C.d (staC s)), AV.c (C.d (D.sl ((53 : Nat)) (Int.toNat (Int.tmod k (IntKind.wrap IntKind.i64 ((↑(List.length l) : Int)
 + (1 : Int)))) - Int.toNat (↑(0 : Nat) : Int)) fun i => relC (List.getD l (Int.toNat (↑(0 : Nat) : Int) + i) rel0)))] == KX.ce Z [AV.agg (List.map C.d (staC s)), AV.c (C.d (listD
 ((53 : Nat)) relC rel0 l))])))), [])) else some (T.leaf (AV.c (C.d (D.v (Value.bool false))), []))))) else none) else none) else none)) else none))) else none) := by kernel_rfl
end Go.Proofs.YtngoglhlhlfknaaGreat.se
