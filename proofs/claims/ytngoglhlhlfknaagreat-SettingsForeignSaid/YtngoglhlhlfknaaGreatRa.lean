/-
  Check of settings: what the pure parts compute. No condition.
-/
import Derived.Test.YtngoglhlhlfknaaGreatZRw
import Derived.Test.YtngoglhlhlfknaaGreatSu
namespace Go.Proofs.YtngoglhlhlfknaaGreat.se
open Go.RowKit Go.Eb
set_option maxRecDepth 100000

noncomputable def oWi : Orc := Orc.cons 108 (inl Tryz.prog Orc.nil na 1 Tryz.f108) Orc.nil
noncomputable def oW3 : Orc := Orc.cons 108 (ansP dec3 fun a => vB (within a.1 a.2.1 a.2.2)) Orc.nil
noncomputable def oE3 : Orc := Orc.cons 110 (ansP decE fun a => vB (elOk a.1 a.2.1 a.2.2.1 a.2.2.2)) oW3
noncomputable def oZo : Orc := Orc.cons 111 (inl Tryz.prog oW3 na 1 Tryz.f111) oW3
set_option maxRecDepth 100000 in
theorem evWi_t (a b c : Int) : callC Tryz.prog Orc.nil na 5 Tryz.f108 (bodyOf Tryz.f108) [vI a, vI b, vI c] [] =
 (bif decide (a ≥ b) then some (T.leaf (AV.c (C.d (D.v (Value.bool (decide (a ≤ c))))), [])) else some (T.leaf (AV.c (C.d (D.v (Value.bool false))), []))) := by kernel_rfl
noncomputable def evWi_v (a b c : Int) : Bool :=
 (bif decide (a ≥ b) then ((decide (a ≤ c))) else (false))
set_option maxRecDepth 100000 in
theorem evWi (a b c : Int) : callC Tryz.prog Orc.nil na 5 Tryz.f108 (bodyOf Tryz.f108) [vI a, vI b, vI c] [] = some (.leaf (vB (evWi_v a b c), [])) := by
  rw [evWi_t]
  unfold evWi_v
  simp only [bLeaf]
set_option maxRecDepth 100000 in
theorem evEl_t (o : Bool) (a b c : Int) : callC Tryz.prog oW3 na 5 Tryz.f110 (bodyOf Tryz.f110) [.agg [.d (dB o), .d (dI a), .d (dI b)], vI c] [] =
 (bif !o then some (T.leaf (AV.c (C.d (D.v (Value.bool (o == false && (a == (0 : Int) && (b == (0 : Int) && true)))))), [])) else (bif within a (1 : Int) (16383 : Int) then some
 (T.leaf (AV.c (C.d (D.v (Value.bool (within b c (500 : Int))))), [])) else some (T.leaf (AV.c (C.d (D.v (Value.bool false))), [])))) := by kernel_rfl
noncomputable def evEl_v (o : Bool) (a b c : Int) : Bool :=
 (bif !o then ((o == false && (a == (0 : Int) && (b == (0 : Int) && true)))) else (bif within a (1 : Int) (16383 : Int) then ((within b c (500 : Int))) else (false)))
set_option maxRecDepth 100000 in
theorem evEl (o : Bool) (a b c : Int) : callC Tryz.prog oW3 na 5 Tryz.f110 (bodyOf Tryz.f110) [.agg [.d (dB o), .d (dI a), .d (dI b)], vI c] [] = some (.leaf (vB (evEl_v o a b c), [])) := by
  rw [evEl_t]
  unfold evEl_v
  simp only [bLeaf]
set_option maxRecDepth 100000 in
theorem ev78_t (r : SRel) : callC Tryz.prog oW3 na 5 Tryz.f78 (bodyOf Tryz.f78) [aRel r] [] =
 (bif SRel.kind r != (1 : Int) then (bif SRel.zon0 r == false && (SRel.zfw0 r == false && (SRel.zx0 r == (0 : Int) && (SRel.zr0 r == (0 : Int) && (SRel.zl0 r == (0 : Int) &&
 (SRel.zd0 r == (0 : Int) && true))))) && (SRel.zon1 r == false && (SRel.zfw1 r == false && (SRel.zx1 r == (0 : Int) && (SRel.zr1 r == (0 : Int) && (SRel.zl1 r == (0 : Int) &&
 (SRel.zd1 r == (0 : Int) && true))))) && (SRel.zon2 r == false && (SRel.zfw2 r == false && (SRel.zx2 r == (0 : Int) && (SRel.zr2 r == (0 : Int) && (SRel.zl2 r == (0 : Int) &&
 (SRel.zd2 r == (0 : Int) && true))))) && true)) then (bif SRel.min r == (0 : Int) then (bif SRel.kre r == (0 : Int) then (bif SRel.kim r == (0 : Int) then (bif SRel.scheme r == (0 :
 Int) then (bif SRel.wait r == (0 : Int) then (bif SRel.guard r == (0 : Int) then (bif SRel.shots r == (0 : Int) then (bif SRel.dead r == (0 : Int) then (bif SRel.kind r != (2 : Int)
 then (bif SRel.reclaim r == (0 : Int) then (bif SRel.uon r == false && (SRel.upk r == (0 : Int) && (SRel.udl r == (0 : Int) && true)) then (bif SRel.kind r == (4 : Int) then (bif
 SRel.oon r == false && (SRel.opk r == (0 : Int) && (SRel.odl r == (0 : Int) && true)) then (bif SRel.don r == false && (SRel.dpk r == (0 : Int) && (SRel.ddl r == (0 : Int) && true))
 then (bif SRel.ion r == false && (SRel.ipk r == (0 : Int) && (SRel.idl r == (0 : Int) && true)) then some (T.leaf (AV.c (C.d (D.v (Value.bool (SRel.fon r == false && (SRel.fpk r ==
 (0 : Int) && (SRel.fdl r == (0 : Int) && true)))))), [])) else some (T.leaf (AV.c (C.d (D.v (Value.bool false))), []))) else some (T.leaf (AV.c (C.d (D.v (Value.bool false))), [])))
 else some (T.leaf (AV.c (C.d (D.v (Value.bool false))), []))) else (bif SRel.oon r == false && (SRel.opk r == (0 : Int) && (SRel.odl r == (0 : Int) && true)) then (bif SRel.diff r
 == (0 : Int) then (bif SRel.num r == (0 : Int) then (bif SRel.den r == (0 : Int) then some (T.leaf (AV.c (C.d (D.v (Value.bool (SRel.harm r == (0 : Int))))), [])) else some (T.leaf
 (AV.c (C.d (D.v (Value.bool false))), []))) else some (T.leaf (AV.c (C.d (D.v (Value.bool false))), []))) else some (T.leaf (AV.c (C.d (D.v (Value.bool false))), []))) else some
 (T.leaf (AV.c (C.d (D.v (Value.bool false))), [])))) else (bif SRel.kind r == (4 : Int) then some (T.leaf (AV.c (C.d (D.v (Value.bool false))), [])) else some (T.leaf (AV.c (C.d
 (D.v (Value.bool false))), [])))) else (bif SRel.kind r == (4 : Int) then some (T.leaf (AV.c (C.d (D.v (Value.bool false))), [])) else some (T.leaf (AV.c (C.d (D.v (Value.bool
 false))), [])))) else (bif SRel.kind r == (4 : Int) then (bif SRel.reclaim r == (0 : Int) then (bif SRel.don r == false && (SRel.dpk r == (0 : Int) && (SRel.ddl r == (0 : Int) &&
 true)) then (bif SRel.ion r == false && (SRel.ipk r == (0 : Int) && (SRel.idl r == (0 : Int) && true)) then some (T.leaf (AV.c (C.d (D.v (Value.bool (SRel.fon r == false &&
 (SRel.fpk r == (0 : Int) && (SRel.fdl r == (0 : Int) && true)))))), [])) else some (T.leaf (AV.c (C.d (D.v (Value.bool false))), []))) else some (T.leaf (AV.c (C.d (D.v (Value.bool
 false))), []))) else some (T.leaf (AV.c (C.d (D.v (Value.bool false))), []))) else (bif SRel.reclaim r == (0 : Int) then (bif SRel.diff r == (0 : Int) then (bif SRel.num r == (0 :
 Int) then (bif SRel.den r == (0 : Int) then some (T.leaf (AV.c (C.d (D.v (Value.bool (SRel.harm r == (0 : Int))))), [])) else some (T.leaf (AV.c (C.d (D.v (Value.bool false))),
 []))) else some (T.leaf (AV.c (C.d (D.v (Value.bool false))), []))) else some (T.leaf (AV.c (C.d (D.v (Value.bool false))), []))) else some (T.leaf (AV.c (C.d (D.v (Value.bool
 false))), []))))) else (bif SRel.kind r != (2 : Int) then (bif SRel.kind r == (4 : Int) then some (T.leaf (AV.c (C.d (D.v (Value.bool false))), [])) else some (T.leaf (AV.c (C.d
 (D.v (Value.bool false))), []))) else (bif SRel.kind r == (4 : Int) then some (T.leaf (AV.c (C.d (D.v (Value.bool false))), [])) else some (T.leaf (AV.c (C.d (D.v (Value.bool
 false))), []))))) else (bif SRel.kind r != (2 : Int) then (bif SRel.kind r == (4 : Int) then some (T.leaf (AV.c (C.d (D.v (Value.bool false))), [])) else some (T.leaf (AV.c (C.d
 (D.v (Value.bool false))), []))) else (bif SRel.kind r == (4 : Int) then some (T.leaf (AV.c (C.d (D.v (Value.bool false))), [])) else some (T.leaf (AV.c (C.d (D.v (Value.bool
 false))), []))))) else (bif SRel.kind r != (2 : Int) then (bif SRel.kind r == (4 : Int) then some (T.leaf (AV.c (C.d (D.v (Value.bool false))), [])) else some (T.leaf (AV.c (C.d
 (D.v (Value.bool false))), []))) else (bif SRel.kind r == (4 : Int) then some (T.leaf (AV.c (C.d (D.v (Value.bool false))), [])) else some (T.leaf (AV.c (C.d (D.v (Value.bool
 false))), []))))) else (bif SRel.kind r != (2 : Int) then (bif SRel.kind r == (4 : Int) then some (T.leaf (AV.c (C.d (D.v (Value.bool false))), [])) else some (T.leaf (AV.c (C.d
 (D.v (Value.bool false))), []))) else (bif SRel.kind r == (4 : Int) then some (T.leaf (AV.c (C.d (D.v (Value.bool false))), [])) else some (T.leaf (AV.c (C.d (D.v (Value.bool
 false))), []))))) else (bif SRel.kind r != (2 : Int) then (bif SRel.kind r == (4 : Int) then some (T.leaf (AV.c (C.d (D.v (Value.bool false))), [])) else some (T.leaf (AV.c (C.d
 (D.v (Value.bool false))), []))) else (bif SRel.kind r == (4 : Int) then some (T.leaf (AV.c (C.d (D.v (Value.bool false))), [])) else some (T.leaf (AV.c (C.d (D.v (Value.bool
 false))), []))))) else (bif SRel.kind r != (2 : Int) then (bif SRel.kind r == (4 : Int) then some (T.leaf (AV.c (C.d (D.v (Value.bool false))), [])) else some (T.leaf (AV.c (C.d
 (D.v (Value.bool false))), []))) else (bif SRel.kind r == (4 : Int) then some (T.leaf (AV.c (C.d (D.v (Value.bool false))), [])) else some (T.leaf (AV.c (C.d (D.v (Value.bool
 false))), []))))) else (bif SRel.kind r != (2 : Int) then (bif SRel.kind r == (4 : Int) then some (T.leaf (AV.c (C.d (D.v (Value.bool false))), [])) else some (T.leaf (AV.c (C.d
 (D.v (Value.bool false))), []))) else (bif SRel.kind r == (4 : Int) then some (T.leaf (AV.c (C.d (D.v (Value.bool false))), [])) else some (T.leaf (AV.c (C.d (D.v (Value.bool
 false))), []))))) else (bif SRel.kind r != (2 : Int) then (bif SRel.kind r == (4 : Int) then some (T.leaf (AV.c (C.d (D.v (Value.bool false))), [])) else some (T.leaf (AV.c (C.d
 (D.v (Value.bool false))), []))) else (bif SRel.kind r == (4 : Int) then some (T.leaf (AV.c (C.d (D.v (Value.bool false))), [])) else some (T.leaf (AV.c (C.d (D.v (Value.bool
 false))), []))))) else (bif SRel.kind r != (2 : Int) then (bif SRel.kind r == (4 : Int) then some (T.leaf (AV.c (C.d (D.v (Value.bool false))), [])) else some (T.leaf (AV.c (C.d
 (D.v (Value.bool false))), []))) else (bif SRel.kind r == (4 : Int) then some (T.leaf (AV.c (C.d (D.v (Value.bool false))), [])) else some (T.leaf (AV.c (C.d (D.v (Value.bool
 false))), []))))) else (bif SRel.kind r != (2 : Int) then (bif SRel.uon r == false && (SRel.upk r == (0 : Int) && (SRel.udl r == (0 : Int) && true)) then (bif SRel.kind r == (4 :
 Int) then (bif SRel.oon r == false && (SRel.opk r == (0 : Int) && (SRel.odl r == (0 : Int) && true)) then (bif SRel.don r == false && (SRel.dpk r == (0 : Int) && (SRel.ddl r == (0 :
 Int) && true)) then (bif SRel.ion r == false && (SRel.ipk r == (0 : Int) && (SRel.idl r == (0 : Int) && true)) then some (T.leaf (AV.c (C.d (D.v (Value.bool (SRel.fon r == false &&
 (SRel.fpk r == (0 : Int) && (SRel.fdl r == (0 : Int) && true)))))), [])) else some (T.leaf (AV.c (C.d (D.v (Value.bool false))), []))) else some (T.leaf (AV.c (C.d (D.v (Value.bool
 false))), []))) else some (T.leaf (AV.c (C.d (D.v (Value.bool false))), []))) else (bif SRel.oon r == false && (SRel.opk r == (0 : Int) && (SRel.odl r == (0 : Int) && true)) then
 (bif SRel.diff r == (0 : Int) then (bif SRel.num r == (0 : Int) then (bif SRel.den r == (0 : Int) then some (T.leaf (AV.c (C.d (D.v (Value.bool (SRel.harm r == (0 : Int))))), []))
 else some (T.leaf (AV.c (C.d (D.v (Value.bool false))), []))) else some (T.leaf (AV.c (C.d (D.v (Value.bool false))), []))) else some (T.leaf (AV.c (C.d (D.v (Value.bool false))),
 []))) else some (T.leaf (AV.c (C.d (D.v (Value.bool false))), [])))) else (bif SRel.kind r == (4 : Int) then some (T.leaf (AV.c (C.d (D.v (Value.bool false))), [])) else some
 (T.leaf (AV.c (C.d (D.v (Value.bool false))), [])))) else (bif SRel.kind r == (4 : Int) then (bif SRel.don r == false && (SRel.dpk r == (0 : Int) && (SRel.ddl r == (0 : Int) &&
 true)) then (bif SRel.ion r == false && (SRel.ipk r == (0 : Int) && (SRel.idl r == (0 : Int) && true)) then some (T.leaf (AV.c (C.d (D.v (Value.bool (SRel.fon r == false &&
 (SRel.fpk r == (0 : Int) && (SRel.fdl r == (0 : Int) && true)))))), [])) else some (T.leaf (AV.c (C.d (D.v (Value.bool false))), []))) else some (T.leaf (AV.c (C.d (D.v (Value.bool
 false))), []))) else (bif SRel.diff r == (0 : Int) then (bif SRel.num r == (0 : Int) then (bif SRel.den r == (0 : Int) then some (T.leaf (AV.c (C.d (D.v (Value.bool (SRel.harm r ==
 (0 : Int))))), [])) else some (T.leaf (AV.c (C.d (D.v (Value.bool false))), []))) else some (T.leaf (AV.c (C.d (D.v (Value.bool false))), []))) else some (T.leaf (AV.c (C.d (D.v
 (Value.bool false))), [])))))) := by kernel_rfl
noncomputable def ev78_v (r : SRel) : Bool :=
 (bif SRel.kind r != (1 : Int) then (bif SRel.zon0 r == false && (SRel.zfw0 r == false && (SRel.zx0 r == (0 : Int) && (SRel.zr0 r == (0 : Int) && (SRel.zl0 r == (0 : Int) &&
 (SRel.zd0 r == (0 : Int) && true))))) && (SRel.zon1 r == false && (SRel.zfw1 r == false && (SRel.zx1 r == (0 : Int) && (SRel.zr1 r == (0 : Int) && (SRel.zl1 r == (0 : Int) &&
 (SRel.zd1 r == (0 : Int) && true))))) && (SRel.zon2 r == false && (SRel.zfw2 r == false && (SRel.zx2 r == (0 : Int) && (SRel.zr2 r == (0 : Int) && (SRel.zl2 r == (0 : Int) &&
 (SRel.zd2 r == (0 : Int) && true))))) && true)) then (bif SRel.min r == (0 : Int) then (bif SRel.kre r == (0 : Int) then (bif SRel.kim r == (0 : Int) then (bif SRel.scheme r == (0 :
 Int) then (bif SRel.wait r == (0 : Int) then (bif SRel.guard r == (0 : Int) then (bif SRel.shots r == (0 : Int) then (bif SRel.dead r == (0 : Int) then (bif SRel.kind r != (2 : Int)
 then (bif SRel.reclaim r == (0 : Int) then (bif SRel.uon r == false && (SRel.upk r == (0 : Int) && (SRel.udl r == (0 : Int) && true)) then (bif SRel.kind r == (4 : Int) then (bif
 SRel.oon r == false && (SRel.opk r == (0 : Int) && (SRel.odl r == (0 : Int) && true)) then (bif SRel.don r == false && (SRel.dpk r == (0 : Int) && (SRel.ddl r == (0 : Int) && true))
 then (bif SRel.ion r == false && (SRel.ipk r == (0 : Int) && (SRel.idl r == (0 : Int) && true)) then ((SRel.fon r == false && (SRel.fpk r == (0 : Int) && (SRel.fdl r == (0 : Int) &&
 true)))) else (false)) else (false)) else (false)) else (bif SRel.oon r == false && (SRel.opk r == (0 : Int) && (SRel.odl r == (0 : Int) && true)) then (bif SRel.diff r == (0 : Int)
 then (bif SRel.num r == (0 : Int) then (bif SRel.den r == (0 : Int) then ((SRel.harm r == (0 : Int))) else (false)) else (false)) else (false)) else (false))) else (bif SRel.kind r
 == (4 : Int) then (false) else (false))) else (bif SRel.kind r == (4 : Int) then (false) else (false))) else (bif SRel.kind r == (4 : Int) then (bif SRel.reclaim r == (0 : Int) then
 (bif SRel.don r == false && (SRel.dpk r == (0 : Int) && (SRel.ddl r == (0 : Int) && true)) then (bif SRel.ion r == false && (SRel.ipk r == (0 : Int) && (SRel.idl r == (0 : Int) &&
 true)) then ((SRel.fon r == false && (SRel.fpk r == (0 : Int) && (SRel.fdl r == (0 : Int) && true)))) else (false)) else (false)) else (false)) else (bif SRel.reclaim r == (0 : Int)
 then (bif SRel.diff r == (0 : Int) then (bif SRel.num r == (0 : Int) then (bif SRel.den r == (0 : Int) then ((SRel.harm r == (0 : Int))) else (false)) else (false)) else (false))
 else (false)))) else (bif SRel.kind r != (2 : Int) then (bif SRel.kind r == (4 : Int) then (false) else (false)) else (bif SRel.kind r == (4 : Int) then (false) else (false)))) else
 (bif SRel.kind r != (2 : Int) then (bif SRel.kind r == (4 : Int) then (false) else (false)) else (bif SRel.kind r == (4 : Int) then (false) else (false)))) else (bif SRel.kind r !=
 (2 : Int) then (bif SRel.kind r == (4 : Int) then (false) else (false)) else (bif SRel.kind r == (4 : Int) then (false) else (false)))) else (bif SRel.kind r != (2 : Int) then (bif
 SRel.kind r == (4 : Int) then (false) else (false)) else (bif SRel.kind r == (4 : Int) then (false) else (false)))) else (bif SRel.kind r != (2 : Int) then (bif SRel.kind r == (4 :
 Int) then (false) else (false)) else (bif SRel.kind r == (4 : Int) then (false) else (false)))) else (bif SRel.kind r != (2 : Int) then (bif SRel.kind r == (4 : Int) then (false)
 else (false)) else (bif SRel.kind r == (4 : Int) then (false) else (false)))) else (bif SRel.kind r != (2 : Int) then (bif SRel.kind r == (4 : Int) then (false) else (false)) else
 (bif SRel.kind r == (4 : Int) then (false) else (false)))) else (bif SRel.kind r != (2 : Int) then (bif SRel.kind r == (4 : Int) then (false) else (false)) else (bif SRel.kind r ==
 (4 : Int) then (false) else (false)))) else (bif SRel.kind r != (2 : Int) then (bif SRel.kind r == (4 : Int) then (false) else (false)) else (bif SRel.kind r == (4 : Int) then
 (false) else (false)))) else (bif SRel.kind r != (2 : Int) then (bif SRel.uon r == false && (SRel.upk r == (0 : Int) && (SRel.udl r == (0 : Int) && true)) then (bif SRel.kind r ==
 (4 : Int) then (bif SRel.oon r == false && (SRel.opk r == (0 : Int) && (SRel.odl r == (0 : Int) && true)) then (bif SRel.don r == false && (SRel.dpk r == (0 : Int) && (SRel.ddl r ==
 (0 : Int) && true)) then (bif SRel.ion r == false && (SRel.ipk r == (0 : Int) && (SRel.idl r == (0 : Int) && true)) then ((SRel.fon r == false && (SRel.fpk r == (0 : Int) &&
 (SRel.fdl r == (0 : Int) && true)))) else (false)) else (false)) else (false)) else (bif SRel.oon r == false && (SRel.opk r == (0 : Int) && (SRel.odl r == (0 : Int) && true)) then
 (bif SRel.diff r == (0 : Int) then (bif SRel.num r == (0 : Int) then (bif SRel.den r == (0 : Int) then ((SRel.harm r == (0 : Int))) else (false)) else (false)) else (false)) else
 (false))) else (bif SRel.kind r == (4 : Int) then (false) else (false))) else (bif SRel.kind r == (4 : Int) then (bif SRel.don r == false && (SRel.dpk r == (0 : Int) && (SRel.ddl r
 == (0 : Int) && true)) then (bif SRel.ion r == false && (SRel.ipk r == (0 : Int) && (SRel.idl r == (0 : Int) && true)) then ((SRel.fon r == false && (SRel.fpk r == (0 : Int) &&
 (SRel.fdl r == (0 : Int) && true)))) else (false)) else (false)) else (bif SRel.diff r == (0 : Int) then (bif SRel.num r == (0 : Int) then (bif SRel.den r == (0 : Int) then
 ((SRel.harm r == (0 : Int))) else (false)) else (false)) else (false)))))
set_option maxRecDepth 100000 in
theorem ev78 (r : SRel) : callC Tryz.prog oW3 na 5 Tryz.f78 (bodyOf Tryz.f78) [aRel r] [] = some (.leaf (vB (ev78_v r), [])) := by
  rw [ev78_t]
  unfold ev78_v
  simp only [bLeaf]
set_option maxRecDepth 100000 in
theorem ev79_t (r : SRel) : callC Tryz.prog oW3 na 5 Tryz.f79 (bodyOf Tryz.f79) [aRel r] [] =
 (bif !SRel.zon0 r then (bif !(SRel.zon0 r == false && (SRel.zfw0 r == false && (SRel.zx0 r == (0 : Int) && (SRel.zr0 r == (0 : Int) && (SRel.zl0 r == (0 : Int) && (SRel.zd0 r == (0
 : Int) && true)))))) then some (T.leaf (AV.c (C.d (D.v (Value.bool false))), [])) else (bif !SRel.zon1 r then (bif !(SRel.zon1 r == false && (SRel.zfw1 r == false && (SRel.zx1 r ==
 (0 : Int) && (SRel.zr1 r == (0 : Int) && (SRel.zl1 r == (0 : Int) && (SRel.zd1 r == (0 : Int) && true)))))) then some (T.leaf (AV.c (C.d (D.v (Value.bool false))), [])) else (bif
 !SRel.zon2 r then (bif !(SRel.zon2 r == false && (SRel.zfw2 r == false && (SRel.zx2 r == (0 : Int) && (SRel.zr2 r == (0 : Int) && (SRel.zl2 r == (0 : Int) && (SRel.zd2 r == (0 :
 Int) && true)))))) then some (T.leaf (AV.c (C.d (D.v (Value.bool false))), [])) else (bif SRel.min r == (0 : Int) then (bif SRel.kre r == (0 : Int) then some (T.leaf (AV.c (C.d (D.v
 (Value.bool (SRel.kim r == (0 : Int))))), [])) else some (T.leaf (AV.c (C.d (D.v (Value.bool false))), []))) else some (T.leaf (AV.c (C.d (D.v (Value.bool false))), [])))) else (bif
 !within (SRel.zx2 r) (1 : Int) (4000 : Int) then some (T.leaf (AV.c (C.d (D.v (Value.bool false))), [])) else (bif !within (SRel.zr2 r) (0 : Int) (4000 : Int) then some (T.leaf
 (AV.c (C.d (D.v (Value.bool false))), [])) else (bif !within (SRel.zl2 r) (0 : Int) (4000 : Int) then some (T.leaf (AV.c (C.d (D.v (Value.bool false))), [])) else (bif !within
 (SRel.zd2 r) (0 : Int) (500 : Int) then some (T.leaf (AV.c (C.d (D.v (Value.bool false))), [])) else (bif within (SRel.min r) (1 : Int) (16383 : Int) then (bif within (SRel.kre r)
 (-200 : Int) (200 : Int) then some (T.leaf (AV.c (C.d (D.v (Value.bool (within (SRel.kim r) (-200 : Int) (200 : Int))))), [])) else some (T.leaf (AV.c (C.d (D.v (Value.bool
 false))), []))) else some (T.leaf (AV.c (C.d (D.v (Value.bool false))), []))))))))) else (bif !within (SRel.zx1 r) (1 : Int) (4000 : Int) then some (T.leaf (AV.c (C.d (D.v
 (Value.bool false))), [])) else (bif !within (SRel.zr1 r) (0 : Int) (4000 : Int) then some (T.leaf (AV.c (C.d (D.v (Value.bool false))), [])) else (bif !within (SRel.zl1 r) (0 :
 Int) (4000 : Int) then some (T.leaf (AV.c (C.d (D.v (Value.bool false))), [])) else (bif !within (SRel.zd1 r) (0 : Int) (500 : Int) then some (T.leaf (AV.c (C.d (D.v (Value.bool
 false))), [])) else (bif !SRel.zon2 r then (bif !(SRel.zon2 r == false && (SRel.zfw2 r == false && (SRel.zx2 r == (0 : Int) && (SRel.zr2 r == (0 : Int) && (SRel.zl2 r == (0 : Int)
 && (SRel.zd2 r == (0 : Int) && true)))))) then some (T.leaf (AV.c (C.d (D.v (Value.bool false))), [])) else (bif within (SRel.min r) (1 : Int) (16383 : Int) then (bif within
 (SRel.kre r) (-200 : Int) (200 : Int) then some (T.leaf (AV.c (C.d (D.v (Value.bool (within (SRel.kim r) (-200 : Int) (200 : Int))))), [])) else some (T.leaf (AV.c (C.d (D.v
 (Value.bool false))), []))) else some (T.leaf (AV.c (C.d (D.v (Value.bool false))), [])))) else (bif !within (SRel.zx2 r) (1 : Int) (4000 : Int) then some (T.leaf (AV.c (C.d (D.v
 (Value.bool false))), [])) else (bif !within (SRel.zr2 r) (0 : Int) (4000 : Int) then some (T.leaf (AV.c (C.d (D.v (Value.bool false))), [])) else (bif !within (SRel.zl2 r) (0 :
 Int) (4000 : Int) then some (T.leaf (AV.c (C.d (D.v (Value.bool false))), [])) else (bif !within (SRel.zd2 r) (0 : Int) (500 : Int) then some (T.leaf (AV.c (C.d (D.v (Value.bool
 false))), [])) else (bif within (SRel.min r) (1 : Int) (16383 : Int) then (bif within (SRel.kre r) (-200 : Int) (200 : Int) then some (T.leaf (AV.c (C.d (D.v (Value.bool (within
 (SRel.kim r) (-200 : Int) (200 : Int))))), [])) else some (T.leaf (AV.c (C.d (D.v (Value.bool false))), []))) else some (T.leaf (AV.c (C.d (D.v (Value.bool false))),
 [])))))))))))))) else (bif !within (SRel.zx0 r) (1 : Int) (4000 : Int) then some (T.leaf (AV.c (C.d (D.v (Value.bool false))), [])) else (bif !within (SRel.zr0 r) (0 : Int) (4000 :
 Int) then some (T.leaf (AV.c (C.d (D.v (Value.bool false))), [])) else (bif !within (SRel.zl0 r) (0 : Int) (4000 : Int) then some (T.leaf (AV.c (C.d (D.v (Value.bool false))), []))
 else (bif !within (SRel.zd0 r) (0 : Int) (500 : Int) then some (T.leaf (AV.c (C.d (D.v (Value.bool false))), [])) else (bif !SRel.zon1 r then (bif !(SRel.zon1 r == false &&
 (SRel.zfw1 r == false && (SRel.zx1 r == (0 : Int) && (SRel.zr1 r == (0 : Int) && (SRel.zl1 r == (0 : Int) && (SRel.zd1 r == (0 : Int) && true)))))) then some (T.leaf (AV.c (C.d (D.v
 (Value.bool false))), [])) else (bif !SRel.zon2 r then (bif !(SRel.zon2 r == false && (SRel.zfw2 r == false && (SRel.zx2 r == (0 : Int) && (SRel.zr2 r == (0 : Int) && (SRel.zl2 r ==
 (0 : Int) && (SRel.zd2 r == (0 : Int) && true)))))) then some (T.leaf (AV.c (C.d (D.v (Value.bool false))), [])) else (bif within (SRel.min r) (1 : Int) (16383 : Int) then (bif
 within (SRel.kre r) (-200 : Int) (200 : Int) then some (T.leaf (AV.c (C.d (D.v (Value.bool (within (SRel.kim r) (-200 : Int) (200 : Int))))), [])) else some (T.leaf (AV.c (C.d (D.v
 (Value.bool false))), []))) else some (T.leaf (AV.c (C.d (D.v (Value.bool false))), [])))) else (bif !within (SRel.zx2 r) (1 : Int) (4000 : Int) then some (T.leaf (AV.c (C.d (D.v
 (Value.bool false))), [])) else (bif !within (SRel.zr2 r) (0 : Int) (4000 : Int) then some (T.leaf (AV.c (C.d (D.v (Value.bool false))), [])) else (bif !within (SRel.zl2 r) (0 :
 Int) (4000 : Int) then some (T.leaf (AV.c (C.d (D.v (Value.bool false))), [])) else (bif !within (SRel.zd2 r) (0 : Int) (500 : Int) then some (T.leaf (AV.c (C.d (D.v (Value.bool
 false))), [])) else (bif within (SRel.min r) (1 : Int) (16383 : Int) then (bif within (SRel.kre r) (-200 : Int) (200 : Int) then some (T.leaf (AV.c (C.d (D.v (Value.bool (within
 (SRel.kim r) (-200 : Int) (200 : Int))))), [])) else some (T.leaf (AV.c (C.d (D.v (Value.bool false))), []))) else some (T.leaf (AV.c (C.d (D.v (Value.bool false))), [])))))))))
 else (bif !within (SRel.zx1 r) (1 : Int) (4000 : Int) then some (T.leaf (AV.c (C.d (D.v (Value.bool false))), [])) else (bif !within (SRel.zr1 r) (0 : Int) (4000 : Int) then some
 (T.leaf (AV.c (C.d (D.v (Value.bool false))), [])) else (bif !within (SRel.zl1 r) (0 : Int) (4000 : Int) then some (T.leaf (AV.c (C.d (D.v (Value.bool false))), [])) else (bif
 !within (SRel.zd1 r) (0 : Int) (500 : Int) then some (T.leaf (AV.c (C.d (D.v (Value.bool false))), [])) else (bif !SRel.zon2 r then (bif !(SRel.zon2 r == false && (SRel.zfw2 r ==
 false && (SRel.zx2 r == (0 : Int) && (SRel.zr2 r == (0 : Int) && (SRel.zl2 r == (0 : Int) && (SRel.zd2 r == (0 : Int) && true)))))) then some (T.leaf (AV.c (C.d (D.v (Value.bool
 false))), [])) else (bif within (SRel.min r) (1 : Int) (16383 : Int) then (bif within (SRel.kre r) (-200 : Int) (200 : Int) then some (T.leaf (AV.c (C.d (D.v (Value.bool (within
 (SRel.kim r) (-200 : Int) (200 : Int))))), [])) else some (T.leaf (AV.c (C.d (D.v (Value.bool false))), []))) else some (T.leaf (AV.c (C.d (D.v (Value.bool false))), [])))) else
 (bif !within (SRel.zx2 r) (1 : Int) (4000 : Int) then some (T.leaf (AV.c (C.d (D.v (Value.bool false))), [])) else (bif !within (SRel.zr2 r) (0 : Int) (4000 : Int) then some (T.leaf
 (AV.c (C.d (D.v (Value.bool false))), [])) else (bif !within (SRel.zl2 r) (0 : Int) (4000 : Int) then some (T.leaf (AV.c (C.d (D.v (Value.bool false))), [])) else (bif !within
 (SRel.zd2 r) (0 : Int) (500 : Int) then some (T.leaf (AV.c (C.d (D.v (Value.bool false))), [])) else (bif within (SRel.min r) (1 : Int) (16383 : Int) then (bif within (SRel.kre r)
 (-200 : Int) (200 : Int) then some (T.leaf (AV.c (C.d (D.v (Value.bool (within (SRel.kim r) (-200 : Int) (200 : Int))))), [])) else some (T.leaf (AV.c (C.d (D.v (Value.bool
 false))), []))) else some (T.leaf (AV.c (C.d (D.v (Value.bool false))), [])))))))))))))))))) := by kernel_rfl
noncomputable def ev79_v (r : SRel) : Bool :=
 (bif !SRel.zon0 r then (bif !(SRel.zon0 r == false && (SRel.zfw0 r == false && (SRel.zx0 r == (0 : Int) && (SRel.zr0 r == (0 : Int) && (SRel.zl0 r == (0 : Int) && (SRel.zd0 r == (0
 : Int) && true)))))) then (false) else (bif !SRel.zon1 r then (bif !(SRel.zon1 r == false && (SRel.zfw1 r == false && (SRel.zx1 r == (0 : Int) && (SRel.zr1 r == (0 : Int) &&
 (SRel.zl1 r == (0 : Int) && (SRel.zd1 r == (0 : Int) && true)))))) then (false) else (bif !SRel.zon2 r then (bif !(SRel.zon2 r == false && (SRel.zfw2 r == false && (SRel.zx2 r == (0
 : Int) && (SRel.zr2 r == (0 : Int) && (SRel.zl2 r == (0 : Int) && (SRel.zd2 r == (0 : Int) && true)))))) then (false) else (bif SRel.min r == (0 : Int) then (bif SRel.kre r == (0 :
 Int) then ((SRel.kim r == (0 : Int))) else (false)) else (false))) else (bif !within (SRel.zx2 r) (1 : Int) (4000 : Int) then (false) else (bif !within (SRel.zr2 r) (0 : Int) (4000
 : Int) then (false) else (bif !within (SRel.zl2 r) (0 : Int) (4000 : Int) then (false) else (bif !within (SRel.zd2 r) (0 : Int) (500 : Int) then (false) else (bif within (SRel.min
 r) (1 : Int) (16383 : Int) then (bif within (SRel.kre r) (-200 : Int) (200 : Int) then ((within (SRel.kim r) (-200 : Int) (200 : Int))) else (false)) else (false)))))))) else (bif
 !within (SRel.zx1 r) (1 : Int) (4000 : Int) then (false) else (bif !within (SRel.zr1 r) (0 : Int) (4000 : Int) then (false) else (bif !within (SRel.zl1 r) (0 : Int) (4000 : Int)
 then (false) else (bif !within (SRel.zd1 r) (0 : Int) (500 : Int) then (false) else (bif !SRel.zon2 r then (bif !(SRel.zon2 r == false && (SRel.zfw2 r == false && (SRel.zx2 r == (0
 : Int) && (SRel.zr2 r == (0 : Int) && (SRel.zl2 r == (0 : Int) && (SRel.zd2 r == (0 : Int) && true)))))) then (false) else (bif within (SRel.min r) (1 : Int) (16383 : Int) then (bif
 within (SRel.kre r) (-200 : Int) (200 : Int) then ((within (SRel.kim r) (-200 : Int) (200 : Int))) else (false)) else (false))) else (bif !within (SRel.zx2 r) (1 : Int) (4000 : Int)
 then (false) else (bif !within (SRel.zr2 r) (0 : Int) (4000 : Int) then (false) else (bif !within (SRel.zl2 r) (0 : Int) (4000 : Int) then (false) else (bif !within (SRel.zd2 r) (0
 : Int) (500 : Int) then (false) else (bif within (SRel.min r) (1 : Int) (16383 : Int) then (bif within (SRel.kre r) (-200 : Int) (200 : Int) then ((within (SRel.kim r) (-200 : Int)
 (200 : Int))) else (false)) else (false))))))))))))) else (bif !within (SRel.zx0 r) (1 : Int) (4000 : Int) then (false) else (bif !within (SRel.zr0 r) (0 : Int) (4000 : Int) then
 (false) else (bif !within (SRel.zl0 r) (0 : Int) (4000 : Int) then (false) else (bif !within (SRel.zd0 r) (0 : Int) (500 : Int) then (false) else (bif !SRel.zon1 r then (bif
 !(SRel.zon1 r == false && (SRel.zfw1 r == false && (SRel.zx1 r == (0 : Int) && (SRel.zr1 r == (0 : Int) && (SRel.zl1 r == (0 : Int) && (SRel.zd1 r == (0 : Int) && true)))))) then
 (false) else (bif !SRel.zon2 r then (bif !(SRel.zon2 r == false && (SRel.zfw2 r == false && (SRel.zx2 r == (0 : Int) && (SRel.zr2 r == (0 : Int) && (SRel.zl2 r == (0 : Int) &&
 (SRel.zd2 r == (0 : Int) && true)))))) then (false) else (bif within (SRel.min r) (1 : Int) (16383 : Int) then (bif within (SRel.kre r) (-200 : Int) (200 : Int) then ((within
 (SRel.kim r) (-200 : Int) (200 : Int))) else (false)) else (false))) else (bif !within (SRel.zx2 r) (1 : Int) (4000 : Int) then (false) else (bif !within (SRel.zr2 r) (0 : Int)
 (4000 : Int) then (false) else (bif !within (SRel.zl2 r) (0 : Int) (4000 : Int) then (false) else (bif !within (SRel.zd2 r) (0 : Int) (500 : Int) then (false) else (bif within
 (SRel.min r) (1 : Int) (16383 : Int) then (bif within (SRel.kre r) (-200 : Int) (200 : Int) then ((within (SRel.kim r) (-200 : Int) (200 : Int))) else (false)) else (false))))))))
 else (bif !within (SRel.zx1 r) (1 : Int) (4000 : Int) then (false) else (bif !within (SRel.zr1 r) (0 : Int) (4000 : Int) then (false) else (bif !within (SRel.zl1 r) (0 : Int) (4000
 : Int) then (false) else (bif !within (SRel.zd1 r) (0 : Int) (500 : Int) then (false) else (bif !SRel.zon2 r then (bif !(SRel.zon2 r == false && (SRel.zfw2 r == false && (SRel.zx2 r
 == (0 : Int) && (SRel.zr2 r == (0 : Int) && (SRel.zl2 r == (0 : Int) && (SRel.zd2 r == (0 : Int) && true)))))) then (false) else (bif within (SRel.min r) (1 : Int) (16383 : Int)
 then (bif within (SRel.kre r) (-200 : Int) (200 : Int) then ((within (SRel.kim r) (-200 : Int) (200 : Int))) else (false)) else (false))) else (bif !within (SRel.zx2 r) (1 : Int)
 (4000 : Int) then (false) else (bif !within (SRel.zr2 r) (0 : Int) (4000 : Int) then (false) else (bif !within (SRel.zl2 r) (0 : Int) (4000 : Int) then (false) else (bif !within
 (SRel.zd2 r) (0 : Int) (500 : Int) then (false) else (bif within (SRel.min r) (1 : Int) (16383 : Int) then (bif within (SRel.kre r) (-200 : Int) (200 : Int) then ((within (SRel.kim
 r) (-200 : Int) (200 : Int))) else (false)) else (false)))))))))))))))))
set_option maxRecDepth 100000 in
theorem ev79 (r : SRel) : callC Tryz.prog oW3 na 5 Tryz.f79 (bodyOf Tryz.f79) [aRel r] [] = some (.leaf (vB (ev79_v r), [])) := by
  rw [ev79_t]
  unfold ev79_v
  simp only [bLeaf]
set_option maxRecDepth 100000 in
theorem ev80_t (r : SRel) : callC Tryz.prog oW3 na 5 Tryz.f80 (bodyOf Tryz.f80) [aRel r] [] =
 (bif !within (SRel.scheme r) (0 : Int) (3 : Int) then some (T.leaf (AV.c (C.d (D.v (Value.bool false))), [])) else (bif SRel.scheme r == (3 : Int) then (bif !within (SRel.wait r) (1
 : Int) (50 : Int) then some (T.leaf (AV.c (C.d (D.v (Value.bool false))), [])) else (bif SRel.scheme r == (0 : Int) then some (T.leaf (AV.c (C.d (D.v (Value.bool (SRel.guard r == (0
 : Int))))), [])) else some (T.leaf (AV.c (C.d (D.v (Value.bool (within (SRel.guard r) (0 : Int) (50 : Int))))), [])))) else (bif SRel.wait r != (0 : Int) then some (T.leaf (AV.c
 (C.d (D.v (Value.bool false))), [])) else (bif SRel.scheme r == (0 : Int) then some (T.leaf (AV.c (C.d (D.v (Value.bool (SRel.guard r == (0 : Int))))), [])) else some (T.leaf (AV.c
 (C.d (D.v (Value.bool (within (SRel.guard r) (0 : Int) (50 : Int))))), [])))))) := by kernel_rfl
noncomputable def ev80_v (r : SRel) : Bool :=
 (bif !within (SRel.scheme r) (0 : Int) (3 : Int) then (false) else (bif SRel.scheme r == (3 : Int) then (bif !within (SRel.wait r) (1 : Int) (50 : Int) then (false) else (bif
 SRel.scheme r == (0 : Int) then ((SRel.guard r == (0 : Int))) else ((within (SRel.guard r) (0 : Int) (50 : Int))))) else (bif SRel.wait r != (0 : Int) then (false) else (bif
 SRel.scheme r == (0 : Int) then ((SRel.guard r == (0 : Int))) else ((within (SRel.guard r) (0 : Int) (50 : Int)))))))
set_option maxRecDepth 100000 in
theorem ev80 (r : SRel) : callC Tryz.prog oW3 na 5 Tryz.f80 (bodyOf Tryz.f80) [aRel r] [] = some (.leaf (vB (ev80_v r), [])) := by
  rw [ev80_t]
  unfold ev80_v
  simp only [bLeaf]
set_option maxRecDepth 100000 in
theorem ev81_t (r : SRel) : callC Tryz.prog oE3 na 5 Tryz.f81 (bodyOf Tryz.f81) [aRel r] [] =
 (bif SRel.ion r then (bif !within (SRel.ipk r) (1 : Int) (16383 : Int) then some (T.leaf (AV.c (C.d (D.v (Value.bool false))), [])) else (bif !within (SRel.idl r) (1 : Int) (1000 :
 Int) then some (T.leaf (AV.c (C.d (D.v (Value.bool false))), [])) else (bif elOk (SRel.don r) (SRel.dpk r) (SRel.ddl r) (0 : Int) then (bif elOk (SRel.uon r) (SRel.upk r) (SRel.udl
 r) (0 : Int) then (bif elOk (SRel.oon r) (SRel.opk r) (SRel.odl r) (0 : Int) then some (T.leaf (AV.c (C.d (D.v (Value.bool (elOk (SRel.fon r) (SRel.fpk r) (SRel.fdl r) (1 :
 Int))))), [])) else some (T.leaf (AV.c (C.d (D.v (Value.bool false))), []))) else some (T.leaf (AV.c (C.d (D.v (Value.bool false))), []))) else some (T.leaf (AV.c (C.d (D.v
 (Value.bool false))), []))))) else (bif !(SRel.ion r == false && (SRel.ipk r == (0 : Int) && (SRel.idl r == (0 : Int) && true))) then some (T.leaf (AV.c (C.d (D.v (Value.bool
 false))), [])) else (bif elOk (SRel.don r) (SRel.dpk r) (SRel.ddl r) (0 : Int) then (bif elOk (SRel.uon r) (SRel.upk r) (SRel.udl r) (0 : Int) then (bif elOk (SRel.oon r) (SRel.opk
 r) (SRel.odl r) (0 : Int) then some (T.leaf (AV.c (C.d (D.v (Value.bool (elOk (SRel.fon r) (SRel.fpk r) (SRel.fdl r) (1 : Int))))), [])) else some (T.leaf (AV.c (C.d (D.v
 (Value.bool false))), []))) else some (T.leaf (AV.c (C.d (D.v (Value.bool false))), []))) else some (T.leaf (AV.c (C.d (D.v (Value.bool false))), []))))) := by kernel_rfl
noncomputable def ev81_v (r : SRel) : Bool :=
 (bif SRel.ion r then (bif !within (SRel.ipk r) (1 : Int) (16383 : Int) then (false) else (bif !within (SRel.idl r) (1 : Int) (1000 : Int) then (false) else (bif elOk (SRel.don r)
 (SRel.dpk r) (SRel.ddl r) (0 : Int) then (bif elOk (SRel.uon r) (SRel.upk r) (SRel.udl r) (0 : Int) then (bif elOk (SRel.oon r) (SRel.opk r) (SRel.odl r) (0 : Int) then ((elOk
 (SRel.fon r) (SRel.fpk r) (SRel.fdl r) (1 : Int))) else (false)) else (false)) else (false)))) else (bif !(SRel.ion r == false && (SRel.ipk r == (0 : Int) && (SRel.idl r == (0 :
 Int) && true))) then (false) else (bif elOk (SRel.don r) (SRel.dpk r) (SRel.ddl r) (0 : Int) then (bif elOk (SRel.uon r) (SRel.upk r) (SRel.udl r) (0 : Int) then (bif elOk (SRel.oon
 r) (SRel.opk r) (SRel.odl r) (0 : Int) then ((elOk (SRel.fon r) (SRel.fpk r) (SRel.fdl r) (1 : Int))) else (false)) else (false)) else (false))))
set_option maxRecDepth 100000 in
theorem ev81 (r : SRel) : callC Tryz.prog oE3 na 5 Tryz.f81 (bodyOf Tryz.f81) [aRel r] [] = some (.leaf (vB (ev81_v r), [])) := by
  rw [ev81_t]
  unfold ev81_v
  simp only [bLeaf]
set_option maxRecDepth 100000 in
theorem ev82_t (r : SRel) : callC Tryz.prog oW3 na 5 Tryz.f82 (bodyOf Tryz.f82) [aRel r] [] =
 (bif SRel.shots r == (0 : Int) then (bif SRel.dead r != (0 : Int) then some (T.leaf (AV.c (C.d (D.v (Value.bool false))), [])) else (bif SRel.reclaim r != (0 : Int) then some
 (T.leaf (AV.c (C.d (D.v (Value.bool false))), [])) else (bif SRel.diff r == (0 : Int) then (bif SRel.num r == (0 : Int) then (bif SRel.den r == (0 : Int) then some (T.leaf (AV.c
 (C.d (D.v (Value.bool (SRel.harm r == (0 : Int))))), [])) else some (T.leaf (AV.c (C.d (D.v (Value.bool false))), []))) else some (T.leaf (AV.c (C.d (D.v (Value.bool false))), [])))
 else (bif within (SRel.diff r) (1 : Int) (16383 : Int) then (bif within (SRel.den r) (1 : Int) (100 : Int) then (bif within (SRel.num r) (0 : Int) (SRel.den r) then some (T.leaf
 (AV.c (C.d (D.v (Value.bool (within (SRel.harm r) (0 : Int) (100 : Int))))), [])) else some (T.leaf (AV.c (C.d (D.v (Value.bool false))), []))) else some (T.leaf (AV.c (C.d (D.v
 (Value.bool false))), []))) else some (T.leaf (AV.c (C.d (D.v (Value.bool false))), [])))))) else (bif !within (SRel.shots r) (1 : Int) (3 : Int) then some (T.leaf (AV.c (C.d (D.v
 (Value.bool false))), [])) else (bif !within (SRel.dead r) (1 : Int) (100 : Int) then some (T.leaf (AV.c (C.d (D.v (Value.bool false))), [])) else (bif !within (SRel.reclaim r) (1 :
 Int) (1000 : Int) then some (T.leaf (AV.c (C.d (D.v (Value.bool false))), [])) else (bif SRel.diff r == (0 : Int) then (bif SRel.num r == (0 : Int) then (bif SRel.den r == (0 : Int)
 then some (T.leaf (AV.c (C.d (D.v (Value.bool (SRel.harm r == (0 : Int))))), [])) else some (T.leaf (AV.c (C.d (D.v (Value.bool false))), []))) else some (T.leaf (AV.c (C.d (D.v
 (Value.bool false))), []))) else (bif within (SRel.diff r) (1 : Int) (16383 : Int) then (bif within (SRel.den r) (1 : Int) (100 : Int) then (bif within (SRel.num r) (0 : Int)
 (SRel.den r) then some (T.leaf (AV.c (C.d (D.v (Value.bool (within (SRel.harm r) (0 : Int) (100 : Int))))), [])) else some (T.leaf (AV.c (C.d (D.v (Value.bool false))), []))) else
 some (T.leaf (AV.c (C.d (D.v (Value.bool false))), []))) else some (T.leaf (AV.c (C.d (D.v (Value.bool false))), [])))))))) := by kernel_rfl
noncomputable def ev82_v (r : SRel) : Bool :=
 (bif SRel.shots r == (0 : Int) then (bif SRel.dead r != (0 : Int) then (false) else (bif SRel.reclaim r != (0 : Int) then (false) else (bif SRel.diff r == (0 : Int) then (bif
 SRel.num r == (0 : Int) then (bif SRel.den r == (0 : Int) then ((SRel.harm r == (0 : Int))) else (false)) else (false)) else (bif within (SRel.diff r) (1 : Int) (16383 : Int) then
 (bif within (SRel.den r) (1 : Int) (100 : Int) then (bif within (SRel.num r) (0 : Int) (SRel.den r) then ((within (SRel.harm r) (0 : Int) (100 : Int))) else (false)) else (false))
 else (false))))) else (bif !within (SRel.shots r) (1 : Int) (3 : Int) then (false) else (bif !within (SRel.dead r) (1 : Int) (100 : Int) then (false) else (bif !within (SRel.reclaim
 r) (1 : Int) (1000 : Int) then (false) else (bif SRel.diff r == (0 : Int) then (bif SRel.num r == (0 : Int) then (bif SRel.den r == (0 : Int) then ((SRel.harm r == (0 : Int))) else
 (false)) else (false)) else (bif within (SRel.diff r) (1 : Int) (16383 : Int) then (bif within (SRel.den r) (1 : Int) (100 : Int) then (bif within (SRel.num r) (0 : Int) (SRel.den
 r) then ((within (SRel.harm r) (0 : Int) (100 : Int))) else (false)) else (false)) else (false)))))))
set_option maxRecDepth 100000 in
theorem ev82 (r : SRel) : callC Tryz.prog oW3 na 5 Tryz.f82 (bodyOf Tryz.f82) [aRel r] [] = some (.leaf (vB (ev82_v r), [])) := by
  rw [ev82_t]
  unfold ev82_v
  simp only [bLeaf]
set_option maxRecDepth 100000 in
theorem ev83_t (r : SRel) : callC Tryz.prog oZo na 5 Tryz.f83 (bodyOf Tryz.f83) [aRel r] [] =
 (bif SRel.scheme r == (1 : Int) then (bif SRel.zon0 r then (bif SRel.zfw0 r then (bif SRel.zon1 r then some (T.leaf (AV.c (C.d (D.v (Value.bool (SRel.zfw1 r)))), [])) else some
 (T.leaf (AV.c (C.d (D.v (Value.bool false))), []))) else some (T.leaf (AV.c (C.d (D.v (Value.bool false))), []))) else some (T.leaf (AV.c (C.d (D.v (Value.bool false))), []))) else
 (bif SRel.scheme r == (2 : Int) then (bif SRel.zon1 r then some (T.leaf (AV.c (C.d (D.v (Value.bool (SRel.zfw1 r)))), [])) else some (T.leaf (AV.c (C.d (D.v (Value.bool false))),
 []))) else (bif SRel.scheme r == (3 : Int) then (bif SRel.zon1 r then (bif SRel.zfw1 r then (bif SRel.zon2 r then some (T.leaf (AV.c (C.d (D.v (Value.bool !SRel.zfw2 r))), [])) else
 some (T.leaf (AV.c (C.d (D.v (Value.bool false))), []))) else some (T.leaf (AV.c (C.d (D.v (Value.bool false))), []))) else some (T.leaf (AV.c (C.d (D.v (Value.bool false))), [])))
 else some (T.leaf (AV.c (C.d (D.v (Value.bool true))), []))))) := by kernel_rfl
noncomputable def ev83_v (r : SRel) : Bool :=
 (bif SRel.scheme r == (1 : Int) then (bif SRel.zon0 r then (bif SRel.zfw0 r then (bif SRel.zon1 r then ((SRel.zfw1 r)) else (false)) else (false)) else (false)) else (bif
 SRel.scheme r == (2 : Int) then (bif SRel.zon1 r then ((SRel.zfw1 r)) else (false)) else (bif SRel.scheme r == (3 : Int) then (bif SRel.zon1 r then (bif SRel.zfw1 r then (bif
 SRel.zon2 r then (!SRel.zfw2 r) else (false)) else (false)) else (false)) else (true))))
set_option maxRecDepth 100000 in
theorem ev83 (r : SRel) : callC Tryz.prog oZo na 5 Tryz.f83 (bodyOf Tryz.f83) [aRel r] [] = some (.leaf (vB (ev83_v r), [])) := by
  rw [ev83_t]
  unfold ev83_v
  simp only [bLeaf]
end Go.Proofs.YtngoglhlhlfknaaGreat.se
