/-
  Check of settings, the reference: what the pure parts compute. No condition.
-/
import Derived.Test.YtngoglhlhlfknaaGreatZRw
import Derived.Test.YtngoglhlhlfknaaGreatSu
namespace Go.Proofs.YtngoglhlhlfknaaGreat.se
open Go.RowKit Go.Eb
set_option maxRecDepth 100000

noncomputable def oB3 : Orc := Orc.cons 131 (ansP dec3 fun a => vB (within a.1 a.2.1 a.2.2)) Orc.nil
noncomputable def oNu (okr zo : List AV → Bool) : Orc := Orc.cons 130 (ansG okr fun x => vB (zo x)) (Orc.cons 132 (ansP decE fun a => vB (elOk a.1 a.2.1 a.2.2.1 a.2.2.2)) oB3)
set_option maxRecDepth 100000 in
theorem evBt_t (a b c : Int) : callC Tryz.prog Orc.nil na 5 Tryz.f131 (bodyOf Tryz.f131) [vI a, vI b, vI c] [] =
 (bif decide (a ≥ b) then some (T.leaf (AV.c (C.d (D.v (Value.bool (decide (a ≤ c))))), [])) else some (T.leaf (AV.c (C.d (D.v (Value.bool false))), []))) := by kernel_rfl
noncomputable def evBt_v (a b c : Int) : Bool :=
 (bif decide (a ≥ b) then ((decide (a ≤ c))) else (false))
set_option maxRecDepth 100000 in
theorem evBt (a b c : Int) : callC Tryz.prog Orc.nil na 5 Tryz.f131 (bodyOf Tryz.f131) [vI a, vI b, vI c] [] = some (.leaf (vB (evBt_v a b c), [])) := by
  rw [evBt_t]
  unfold evBt_v
  simp only [bLeaf]
set_option maxRecDepth 100000 in
theorem evEm_t (o : Bool) (a b c : Int) : callC Tryz.prog oB3 na 5 Tryz.f132 (bodyOf Tryz.f132) [.agg [.d (dB o), .d (dI a), .d (dI b)], vI c] [] =
 (bif !o then some (T.leaf (AV.c (C.d (D.v (Value.bool (o == false && (a == (0 : Int) && (b == (0 : Int) && true)))))), [])) else (bif within a (1 : Int) (16383 : Int) then some
 (T.leaf (AV.c (C.d (D.v (Value.bool (within b c (500 : Int))))), [])) else some (T.leaf (AV.c (C.d (D.v (Value.bool false))), [])))) := by kernel_rfl
noncomputable def evEm_v (o : Bool) (a b c : Int) : Bool :=
 (bif !o then ((o == false && (a == (0 : Int) && (b == (0 : Int) && true)))) else (bif within a (1 : Int) (16383 : Int) then ((within b c (500 : Int))) else (false)))
set_option maxRecDepth 100000 in
theorem evEm (o : Bool) (a b c : Int) : callC Tryz.prog oB3 na 5 Tryz.f132 (bodyOf Tryz.f132) [.agg [.d (dB o), .d (dI a), .d (dI b)], vI c] [] = some (.leaf (vB (evEm_v o a b c), [])) := by
  rw [evEm_t]
  unfold evEm_v
  simp only [bLeaf]
set_option maxRecDepth 100000 in
theorem ev88_t (r : SRel) : callC Tryz.prog oB3 na 5 Tryz.f88 (bodyOf Tryz.f88) [aRel r] [] =
 (bif !SRel.kind r == (1 : Int) then (bif !(SRel.zon0 r == false && (SRel.zfw0 r == false && (SRel.zx0 r == (0 : Int) && (SRel.zr0 r == (0 : Int) && (SRel.zl0 r == (0 : Int) &&
 (SRel.zd0 r == (0 : Int) && true))))) && (SRel.zon1 r == false && (SRel.zfw1 r == false && (SRel.zx1 r == (0 : Int) && (SRel.zr1 r == (0 : Int) && (SRel.zl1 r == (0 : Int) &&
 (SRel.zd1 r == (0 : Int) && true))))) && (SRel.zon2 r == false && (SRel.zfw2 r == false && (SRel.zx2 r == (0 : Int) && (SRel.zr2 r == (0 : Int) && (SRel.zl2 r == (0 : Int) &&
 (SRel.zd2 r == (0 : Int) && true))))) && true))) then some (T.leaf (AV.c (C.d (D.v (Value.bool true))), [])) else (bif SRel.min r != (0 : Int) then some (T.leaf (AV.c (C.d (D.v
 (Value.bool true))), [])) else (bif SRel.kre r != (0 : Int) then some (T.leaf (AV.c (C.d (D.v (Value.bool true))), [])) else (bif SRel.kim r != (0 : Int) then some (T.leaf (AV.c
 (C.d (D.v (Value.bool true))), [])) else (bif SRel.scheme r != (0 : Int) then some (T.leaf (AV.c (C.d (D.v (Value.bool true))), [])) else (bif SRel.wait r != (0 : Int) then some
 (T.leaf (AV.c (C.d (D.v (Value.bool true))), [])) else (bif SRel.guard r != (0 : Int) then some (T.leaf (AV.c (C.d (D.v (Value.bool true))), [])) else (bif SRel.shots r != (0 : Int)
 then some (T.leaf (AV.c (C.d (D.v (Value.bool true))), [])) else (bif SRel.dead r != (0 : Int) then some (T.leaf (AV.c (C.d (D.v (Value.bool true))), [])) else (bif SRel.reclaim r
 != (0 : Int) then some (T.leaf (AV.c (C.d (D.v (Value.bool true))), [])) else (bif !SRel.kind r == (2 : Int) then (bif !(SRel.uon r == false && (SRel.upk r == (0 : Int) && (SRel.udl
 r == (0 : Int) && true))) then some (T.leaf (AV.c (C.d (D.v (Value.bool true))), [])) else (bif !(SRel.oon r == false && (SRel.opk r == (0 : Int) && (SRel.odl r == (0 : Int) &&
 true))) then some (T.leaf (AV.c (C.d (D.v (Value.bool true))), [])) else (bif SRel.kind r == (4 : Int) then (bif !(SRel.don r == false && (SRel.dpk r == (0 : Int) && (SRel.ddl r ==
 (0 : Int) && true))) then some (T.leaf (AV.c (C.d (D.v (Value.bool true))), [])) else (bif !(SRel.ion r == false && (SRel.ipk r == (0 : Int) && (SRel.idl r == (0 : Int) && true)))
 then some (T.leaf (AV.c (C.d (D.v (Value.bool true))), [])) else (bif !(SRel.fon r == false && (SRel.fpk r == (0 : Int) && (SRel.fdl r == (0 : Int) && true))) then some (T.leaf
 (AV.c (C.d (D.v (Value.bool true))), [])) else (bif !SRel.kind r == (4 : Int) then (bif SRel.diff r != (0 : Int) then some (T.leaf (AV.c (C.d (D.v (Value.bool true))), [])) else
 (bif SRel.num r != (0 : Int) then some (T.leaf (AV.c (C.d (D.v (Value.bool true))), [])) else (bif SRel.den r != (0 : Int) then some (T.leaf (AV.c (C.d (D.v (Value.bool true))),
 [])) else some (T.leaf (AV.c (C.d (D.v (Value.bool (SRel.harm r != (0 : Int))))), []))))) else some (T.leaf (AV.c (C.d (D.v (Value.bool false))), [])))))) else (bif !SRel.kind r ==
 (4 : Int) then (bif SRel.diff r != (0 : Int) then some (T.leaf (AV.c (C.d (D.v (Value.bool true))), [])) else (bif SRel.num r != (0 : Int) then some (T.leaf (AV.c (C.d (D.v
 (Value.bool true))), [])) else (bif SRel.den r != (0 : Int) then some (T.leaf (AV.c (C.d (D.v (Value.bool true))), [])) else some (T.leaf (AV.c (C.d (D.v (Value.bool (SRel.harm r !=
 (0 : Int))))), []))))) else some (T.leaf (AV.c (C.d (D.v (Value.bool false))), [])))))) else (bif SRel.kind r == (4 : Int) then (bif !(SRel.don r == false && (SRel.dpk r == (0 :
 Int) && (SRel.ddl r == (0 : Int) && true))) then some (T.leaf (AV.c (C.d (D.v (Value.bool true))), [])) else (bif !(SRel.ion r == false && (SRel.ipk r == (0 : Int) && (SRel.idl r ==
 (0 : Int) && true))) then some (T.leaf (AV.c (C.d (D.v (Value.bool true))), [])) else (bif !(SRel.fon r == false && (SRel.fpk r == (0 : Int) && (SRel.fdl r == (0 : Int) && true)))
 then some (T.leaf (AV.c (C.d (D.v (Value.bool true))), [])) else (bif !SRel.kind r == (4 : Int) then (bif SRel.diff r != (0 : Int) then some (T.leaf (AV.c (C.d (D.v (Value.bool
 true))), [])) else (bif SRel.num r != (0 : Int) then some (T.leaf (AV.c (C.d (D.v (Value.bool true))), [])) else (bif SRel.den r != (0 : Int) then some (T.leaf (AV.c (C.d (D.v
 (Value.bool true))), [])) else some (T.leaf (AV.c (C.d (D.v (Value.bool (SRel.harm r != (0 : Int))))), []))))) else some (T.leaf (AV.c (C.d (D.v (Value.bool false))), [])))))) else
 (bif !SRel.kind r == (4 : Int) then (bif SRel.diff r != (0 : Int) then some (T.leaf (AV.c (C.d (D.v (Value.bool true))), [])) else (bif SRel.num r != (0 : Int) then some (T.leaf
 (AV.c (C.d (D.v (Value.bool true))), [])) else (bif SRel.den r != (0 : Int) then some (T.leaf (AV.c (C.d (D.v (Value.bool true))), [])) else some (T.leaf (AV.c (C.d (D.v (Value.bool
 (SRel.harm r != (0 : Int))))), []))))) else some (T.leaf (AV.c (C.d (D.v (Value.bool false))), []))))))))))))))) else (bif !SRel.kind r == (2 : Int) then (bif !(SRel.uon r == false
 && (SRel.upk r == (0 : Int) && (SRel.udl r == (0 : Int) && true))) then some (T.leaf (AV.c (C.d (D.v (Value.bool true))), [])) else (bif !(SRel.oon r == false && (SRel.opk r == (0 :
 Int) && (SRel.odl r == (0 : Int) && true))) then some (T.leaf (AV.c (C.d (D.v (Value.bool true))), [])) else (bif SRel.kind r == (4 : Int) then (bif !(SRel.don r == false &&
 (SRel.dpk r == (0 : Int) && (SRel.ddl r == (0 : Int) && true))) then some (T.leaf (AV.c (C.d (D.v (Value.bool true))), [])) else (bif !(SRel.ion r == false && (SRel.ipk r == (0 :
 Int) && (SRel.idl r == (0 : Int) && true))) then some (T.leaf (AV.c (C.d (D.v (Value.bool true))), [])) else (bif !(SRel.fon r == false && (SRel.fpk r == (0 : Int) && (SRel.fdl r ==
 (0 : Int) && true))) then some (T.leaf (AV.c (C.d (D.v (Value.bool true))), [])) else (bif !SRel.kind r == (4 : Int) then (bif SRel.diff r != (0 : Int) then some (T.leaf (AV.c (C.d
 (D.v (Value.bool true))), [])) else (bif SRel.num r != (0 : Int) then some (T.leaf (AV.c (C.d (D.v (Value.bool true))), [])) else (bif SRel.den r != (0 : Int) then some (T.leaf
 (AV.c (C.d (D.v (Value.bool true))), [])) else some (T.leaf (AV.c (C.d (D.v (Value.bool (SRel.harm r != (0 : Int))))), []))))) else some (T.leaf (AV.c (C.d (D.v (Value.bool
 false))), [])))))) else (bif !SRel.kind r == (4 : Int) then (bif SRel.diff r != (0 : Int) then some (T.leaf (AV.c (C.d (D.v (Value.bool true))), [])) else (bif SRel.num r != (0 :
 Int) then some (T.leaf (AV.c (C.d (D.v (Value.bool true))), [])) else (bif SRel.den r != (0 : Int) then some (T.leaf (AV.c (C.d (D.v (Value.bool true))), [])) else some (T.leaf
 (AV.c (C.d (D.v (Value.bool (SRel.harm r != (0 : Int))))), []))))) else some (T.leaf (AV.c (C.d (D.v (Value.bool false))), [])))))) else (bif SRel.kind r == (4 : Int) then (bif
 !(SRel.don r == false && (SRel.dpk r == (0 : Int) && (SRel.ddl r == (0 : Int) && true))) then some (T.leaf (AV.c (C.d (D.v (Value.bool true))), [])) else (bif !(SRel.ion r == false
 && (SRel.ipk r == (0 : Int) && (SRel.idl r == (0 : Int) && true))) then some (T.leaf (AV.c (C.d (D.v (Value.bool true))), [])) else (bif !(SRel.fon r == false && (SRel.fpk r == (0 :
 Int) && (SRel.fdl r == (0 : Int) && true))) then some (T.leaf (AV.c (C.d (D.v (Value.bool true))), [])) else (bif !SRel.kind r == (4 : Int) then (bif SRel.diff r != (0 : Int) then
 some (T.leaf (AV.c (C.d (D.v (Value.bool true))), [])) else (bif SRel.num r != (0 : Int) then some (T.leaf (AV.c (C.d (D.v (Value.bool true))), [])) else (bif SRel.den r != (0 :
 Int) then some (T.leaf (AV.c (C.d (D.v (Value.bool true))), [])) else some (T.leaf (AV.c (C.d (D.v (Value.bool (SRel.harm r != (0 : Int))))), []))))) else some (T.leaf (AV.c (C.d
 (D.v (Value.bool false))), [])))))) else (bif !SRel.kind r == (4 : Int) then (bif SRel.diff r != (0 : Int) then some (T.leaf (AV.c (C.d (D.v (Value.bool true))), [])) else (bif
 SRel.num r != (0 : Int) then some (T.leaf (AV.c (C.d (D.v (Value.bool true))), [])) else (bif SRel.den r != (0 : Int) then some (T.leaf (AV.c (C.d (D.v (Value.bool true))), []))
 else some (T.leaf (AV.c (C.d (D.v (Value.bool (SRel.harm r != (0 : Int))))), []))))) else some (T.leaf (AV.c (C.d (D.v (Value.bool false))), [])))))) := by kernel_rfl
noncomputable def ev88_v (r : SRel) : Bool :=
 (bif !SRel.kind r == (1 : Int) then (bif !(SRel.zon0 r == false && (SRel.zfw0 r == false && (SRel.zx0 r == (0 : Int) && (SRel.zr0 r == (0 : Int) && (SRel.zl0 r == (0 : Int) &&
 (SRel.zd0 r == (0 : Int) && true))))) && (SRel.zon1 r == false && (SRel.zfw1 r == false && (SRel.zx1 r == (0 : Int) && (SRel.zr1 r == (0 : Int) && (SRel.zl1 r == (0 : Int) &&
 (SRel.zd1 r == (0 : Int) && true))))) && (SRel.zon2 r == false && (SRel.zfw2 r == false && (SRel.zx2 r == (0 : Int) && (SRel.zr2 r == (0 : Int) && (SRel.zl2 r == (0 : Int) &&
 (SRel.zd2 r == (0 : Int) && true))))) && true))) then (true) else (bif SRel.min r != (0 : Int) then (true) else (bif SRel.kre r != (0 : Int) then (true) else (bif SRel.kim r != (0 :
 Int) then (true) else (bif SRel.scheme r != (0 : Int) then (true) else (bif SRel.wait r != (0 : Int) then (true) else (bif SRel.guard r != (0 : Int) then (true) else (bif SRel.shots
 r != (0 : Int) then (true) else (bif SRel.dead r != (0 : Int) then (true) else (bif SRel.reclaim r != (0 : Int) then (true) else (bif !SRel.kind r == (2 : Int) then (bif !(SRel.uon
 r == false && (SRel.upk r == (0 : Int) && (SRel.udl r == (0 : Int) && true))) then (true) else (bif !(SRel.oon r == false && (SRel.opk r == (0 : Int) && (SRel.odl r == (0 : Int) &&
 true))) then (true) else (bif SRel.kind r == (4 : Int) then (bif !(SRel.don r == false && (SRel.dpk r == (0 : Int) && (SRel.ddl r == (0 : Int) && true))) then (true) else (bif
 !(SRel.ion r == false && (SRel.ipk r == (0 : Int) && (SRel.idl r == (0 : Int) && true))) then (true) else (bif !(SRel.fon r == false && (SRel.fpk r == (0 : Int) && (SRel.fdl r == (0
 : Int) && true))) then (true) else (bif !SRel.kind r == (4 : Int) then (bif SRel.diff r != (0 : Int) then (true) else (bif SRel.num r != (0 : Int) then (true) else (bif SRel.den r
 != (0 : Int) then (true) else ((SRel.harm r != (0 : Int)))))) else (false))))) else (bif !SRel.kind r == (4 : Int) then (bif SRel.diff r != (0 : Int) then (true) else (bif SRel.num
 r != (0 : Int) then (true) else (bif SRel.den r != (0 : Int) then (true) else ((SRel.harm r != (0 : Int)))))) else (false))))) else (bif SRel.kind r == (4 : Int) then (bif
 !(SRel.don r == false && (SRel.dpk r == (0 : Int) && (SRel.ddl r == (0 : Int) && true))) then (true) else (bif !(SRel.ion r == false && (SRel.ipk r == (0 : Int) && (SRel.idl r == (0
 : Int) && true))) then (true) else (bif !(SRel.fon r == false && (SRel.fpk r == (0 : Int) && (SRel.fdl r == (0 : Int) && true))) then (true) else (bif !SRel.kind r == (4 : Int) then
 (bif SRel.diff r != (0 : Int) then (true) else (bif SRel.num r != (0 : Int) then (true) else (bif SRel.den r != (0 : Int) then (true) else ((SRel.harm r != (0 : Int)))))) else
 (false))))) else (bif !SRel.kind r == (4 : Int) then (bif SRel.diff r != (0 : Int) then (true) else (bif SRel.num r != (0 : Int) then (true) else (bif SRel.den r != (0 : Int) then
 (true) else ((SRel.harm r != (0 : Int)))))) else (false)))))))))))))) else (bif !SRel.kind r == (2 : Int) then (bif !(SRel.uon r == false && (SRel.upk r == (0 : Int) && (SRel.udl r
 == (0 : Int) && true))) then (true) else (bif !(SRel.oon r == false && (SRel.opk r == (0 : Int) && (SRel.odl r == (0 : Int) && true))) then (true) else (bif SRel.kind r == (4 : Int)
 then (bif !(SRel.don r == false && (SRel.dpk r == (0 : Int) && (SRel.ddl r == (0 : Int) && true))) then (true) else (bif !(SRel.ion r == false && (SRel.ipk r == (0 : Int) &&
 (SRel.idl r == (0 : Int) && true))) then (true) else (bif !(SRel.fon r == false && (SRel.fpk r == (0 : Int) && (SRel.fdl r == (0 : Int) && true))) then (true) else (bif !SRel.kind r
 == (4 : Int) then (bif SRel.diff r != (0 : Int) then (true) else (bif SRel.num r != (0 : Int) then (true) else (bif SRel.den r != (0 : Int) then (true) else ((SRel.harm r != (0 :
 Int)))))) else (false))))) else (bif !SRel.kind r == (4 : Int) then (bif SRel.diff r != (0 : Int) then (true) else (bif SRel.num r != (0 : Int) then (true) else (bif SRel.den r !=
 (0 : Int) then (true) else ((SRel.harm r != (0 : Int)))))) else (false))))) else (bif SRel.kind r == (4 : Int) then (bif !(SRel.don r == false && (SRel.dpk r == (0 : Int) &&
 (SRel.ddl r == (0 : Int) && true))) then (true) else (bif !(SRel.ion r == false && (SRel.ipk r == (0 : Int) && (SRel.idl r == (0 : Int) && true))) then (true) else (bif !(SRel.fon r
 == false && (SRel.fpk r == (0 : Int) && (SRel.fdl r == (0 : Int) && true))) then (true) else (bif !SRel.kind r == (4 : Int) then (bif SRel.diff r != (0 : Int) then (true) else (bif
 SRel.num r != (0 : Int) then (true) else (bif SRel.den r != (0 : Int) then (true) else ((SRel.harm r != (0 : Int)))))) else (false))))) else (bif !SRel.kind r == (4 : Int) then (bif
 SRel.diff r != (0 : Int) then (true) else (bif SRel.num r != (0 : Int) then (true) else (bif SRel.den r != (0 : Int) then (true) else ((SRel.harm r != (0 : Int)))))) else
 (false)))))
set_option maxRecDepth 100000 in
theorem ev88 (r : SRel) : callC Tryz.prog oB3 na 5 Tryz.f88 (bodyOf Tryz.f88) [aRel r] [] = some (.leaf (vB (ev88_v r), [])) := by
  rw [ev88_t]
  unfold ev88_v
  simp only [bLeaf]
set_option maxRecDepth 100000 in
theorem ev130_t (r : SRel) : callC Tryz.prog oB3 na 5 Tryz.f130 (bodyOf Tryz.f130) [aRel r] [] =
 (bif !SRel.zon0 r then (bif !(SRel.zon0 r == false && (SRel.zfw0 r == false && (SRel.zx0 r == (0 : Int) && (SRel.zr0 r == (0 : Int) && (SRel.zl0 r == (0 : Int) && (SRel.zd0 r == (0
 : Int) && true)))))) then some (T.leaf (AV.c (C.d (D.v (Value.bool false))), [])) else (bif !SRel.zon1 r then (bif !(SRel.zon1 r == false && (SRel.zfw1 r == false && (SRel.zx1 r ==
 (0 : Int) && (SRel.zr1 r == (0 : Int) && (SRel.zl1 r == (0 : Int) && (SRel.zd1 r == (0 : Int) && true)))))) then some (T.leaf (AV.c (C.d (D.v (Value.bool false))), [])) else (bif
 !SRel.zon2 r then (bif !(SRel.zon2 r == false && (SRel.zfw2 r == false && (SRel.zx2 r == (0 : Int) && (SRel.zr2 r == (0 : Int) && (SRel.zl2 r == (0 : Int) && (SRel.zd2 r == (0 :
 Int) && true)))))) then some (T.leaf (AV.c (C.d (D.v (Value.bool false))), [])) else (bif SRel.min r == (0 : Int) then (bif SRel.kre r == (0 : Int) then some (T.leaf (AV.c (C.d (D.v
 (Value.bool (SRel.kim r == (0 : Int))))), [])) else some (T.leaf (AV.c (C.d (D.v (Value.bool false))), []))) else some (T.leaf (AV.c (C.d (D.v (Value.bool false))), [])))) else (bif
 !within (SRel.zx2 r) (1 : Int) (4000 : Int) then some (T.leaf (AV.c (C.d (D.v (Value.bool false))), [])) else (bif !within (SRel.zr2 r) (0 : Int) (4000 : Int) then some (T.leaf
 (AV.c (C.d (D.v (Value.bool false))), [])) else (bif !within (SRel.zl2 r) (0 : Int) (4000 : Int) then some (T.leaf (AV.c (C.d (D.v (Value.bool false))), [])) else (bif !within
 (SRel.zd2 r) (0 : Int) (500 : Int) then some (T.leaf (AV.c (C.d (D.v (Value.bool false))), [])) else (bif within (SRel.min r) (1 : Int) (16383 : Int) then (bif within (SRel.kre r)
 (-200 : Int) (200 : Int) then some (T.leaf (AV.c (C.d (D.v (Value.bool (within (SRel.kim r) (-200 : Int) (200 : Int))))), [])) else some (T.leaf (AV.c (C.d (D.v (Value.bool
 false))), []))) else some (T.leaf (AV.c (C.d (D.v (Value.bool false))), []))))))))) else (bif !within (SRel.zx1 r) (1 : Int) (4000 : Int) then some (T.leaf (AV.c (C.d (D.v
 (Value.bool false))), [])) else (bif !within (SRel.zr1 r) (0 : Int) (4000 : Int) then some (T.leaf (AV.c (C.d (D.v (Value.bool false))), [])) else (bif !within (SRel.zl1 r) (0 :
 Int) (4000 : Int) then some (T.leaf (AV.c (C.d (D.v (Value.bool false))), [])) else (bif !within (SRel.zd1 r) (0 : Int) (500 : Int) then some (T.leaf (AV.c (C.d (D.v (Value.bool
 false))), [])) else (bif !SRel.zon2 r then (bif !(SRel.zon2 r == false && (SRel.zfw2 r == false && (SRel.zx2 r == (0 : Int) && (SRel.zr2 r == (0 : Int) && (SRel.zl2 r == (0 : Int)
 && (SRel.zd2 r == (0 : Int) && true)))))) then some (T.leaf (AV.c (C.d (D.v (Value.bool false))), [])) else (bif within (SRel.min r) (1 : Int) (16383 : Int) then (bif within
 (SRel.kre r) (-200 : Int) (200 : Int) then some (T.leaf (AV.c (C.d (D.v (Value.bool (within (SRel.kim r) (-200 : Int) (200 : Int))))), [])) else some (T.leaf (AV.c (C.d (D.v
 (Value.bool false))), []))) else some (T.leaf (AV.c (C.d (D.v (Value.bool false))), [])))) else (bif !within (SRel.zx2 r) (1 : Int) (4000 : Int) then some (T.leaf (AV.c (C.d (D.v
 (Value.bool false))), [])) else (bif !within (SRel.zr2 r) (0 : Int) (4000 : Int) then some (T.leaf (AV.c (C.d (D.v (Value.bool false))), [])) else (bif !within (SRel.zl2 r) (0 :
 Int) (4000 : Int) then some (T.leaf (AV.c (C.d (D.v (Value.bool false))), [])) else (bif !within (SRel.zd2 r) (0 : Int) (500 : Int) then some (T.leaf (AV.c (C.d (D.v (Value.bool
 false))), [])) else (bif within (SRel.min r) (1 : Int) (16383 : Int) then (bif within (SRel.kre r) (-200 : Int) (200 : Int) then some (T.leaf (AV.c (C.d (D.v (Value.bool (within
 (SRel.kim r) (-200 : Int) (200 : Int))))), [])) else some (T.leaf (AV.c (C.d (D.v (Value.bool false))), []))) else some (T.leaf (AV.c (C.d (D.v (Value.bool false))),
 [])))))))))))))) else (bif !within (SRel.zx0 r) (1 : Int) (4000 : Int) then some (T.leaf (AV.c (C.d (D.v (Value.bool false))), [])) else (bif !within (SRel.zr0 r) (0 : Int) (4000 :
 Int) then some (T.leaf (AV.c (C.d (D.v (Value.bool false))), [])) else (bif !within (SRel.zl0 r) (0 : Int) (4000 : Int) then some (T.leaf (AV.c (C.d (D.v (Value.bool false))), []))
 else (bif !within (SRel.zd0 r) (0 : Int) (500 : Int) then some (T.leaf (AV.c (C.d (D.v (Value.bool false))), [])) else (bif !SRel.zon1 r then (bif !(SRel.zon1 r == false &&
 (SRel.zfw1 r == false && (SRel.zx1 r == (0 : Int) && (SRel.zr1 r == (0 : Int) && (SRel.zl1 r == (0 : Int) && (SRel.zd1 r == (0 : Int) && true)))))) then some (T.leaf (AV.c (C.d (D.v
 (Value.bool false))), [])) else (bif !SRel.zon2 r then (bif !(SRel.zon2 r == false && (SRel.zfw2 r == false && (SRel.zx2 r == (0 : Int) && (SRel.zr2 r == (0 : Int) && (SRel.zl2 r ==
 (0 : Int) && (SRel.zd2 r == (0 : Int) && true)))))) then some (T.leaf (AV.c (C.d (D.v (Value.bool false))), [])) else (bif within (SRel.min r) (1 : Int) (16383 : Int) then (bif
 within (SRel.kre r) (-200 : Int) (200 : Int) then some (T.leaf (AV.c (C.d (D.v (Value.bool (within (SRel.kim r) (-200 : Int) (200 : Int))))), [])) else some (T.leaf (AV.c (C.d (D.v
 (Value.bool false))), []))) else some (T.leaf (AV.c (C.d (D.v (Value.bool false))), [])))) else (bif !within (SRel.zx2 r) (1 : Int) (4000 : Int) then some (T.leaf (AV.c (C.d (D.v
 (Value.bool false))), [])) else (bif !within (SRel.zr2 r) (0 : Int) (4000 : Int) then some (T.leaf (AV.c (C.d (D.v (Value.bool false))), [])) else (bif !within (SRel.zl2 r) (0 :
 Int) (4000 : Int) then some (T.leaf (AV.c (C.d (D.v (Value.bool false))), [])) else (bif !within (SRel.zd2 r) (0 : Int) (500 : Int) then some (T.leaf (AV.c (C.d (D.v (Value.bool
 false))), [])) else (bif within (SRel.min r) (1 : Int) (16383 : Int) then (bif within (SRel.kre r) (-200 : Int) (200 : Int) then some (T.leaf (AV.c (C.d (D.v (Value.bool (within
 (SRel.kim r) (-200 : Int) (200 : Int))))), [])) else some (T.leaf (AV.c (C.d (D.v (Value.bool false))), []))) else some (T.leaf (AV.c (C.d (D.v (Value.bool false))), [])))))))))
 else (bif !within (SRel.zx1 r) (1 : Int) (4000 : Int) then some (T.leaf (AV.c (C.d (D.v (Value.bool false))), [])) else (bif !within (SRel.zr1 r) (0 : Int) (4000 : Int) then some
 (T.leaf (AV.c (C.d (D.v (Value.bool false))), [])) else (bif !within (SRel.zl1 r) (0 : Int) (4000 : Int) then some (T.leaf (AV.c (C.d (D.v (Value.bool false))), [])) else (bif
 !within (SRel.zd1 r) (0 : Int) (500 : Int) then some (T.leaf (AV.c (C.d (D.v (Value.bool false))), [])) else (bif !SRel.zon2 r then (bif !(SRel.zon2 r == false && (SRel.zfw2 r ==
 false && (SRel.zx2 r == (0 : Int) && (SRel.zr2 r == (0 : Int) && (SRel.zl2 r == (0 : Int) && (SRel.zd2 r == (0 : Int) && true)))))) then some (T.leaf (AV.c (C.d (D.v (Value.bool
 false))), [])) else (bif within (SRel.min r) (1 : Int) (16383 : Int) then (bif within (SRel.kre r) (-200 : Int) (200 : Int) then some (T.leaf (AV.c (C.d (D.v (Value.bool (within
 (SRel.kim r) (-200 : Int) (200 : Int))))), [])) else some (T.leaf (AV.c (C.d (D.v (Value.bool false))), []))) else some (T.leaf (AV.c (C.d (D.v (Value.bool false))), [])))) else
 (bif !within (SRel.zx2 r) (1 : Int) (4000 : Int) then some (T.leaf (AV.c (C.d (D.v (Value.bool false))), [])) else (bif !within (SRel.zr2 r) (0 : Int) (4000 : Int) then some (T.leaf
 (AV.c (C.d (D.v (Value.bool false))), [])) else (bif !within (SRel.zl2 r) (0 : Int) (4000 : Int) then some (T.leaf (AV.c (C.d (D.v (Value.bool false))), [])) else (bif !within
 (SRel.zd2 r) (0 : Int) (500 : Int) then some (T.leaf (AV.c (C.d (D.v (Value.bool false))), [])) else (bif within (SRel.min r) (1 : Int) (16383 : Int) then (bif within (SRel.kre r)
 (-200 : Int) (200 : Int) then some (T.leaf (AV.c (C.d (D.v (Value.bool (within (SRel.kim r) (-200 : Int) (200 : Int))))), [])) else some (T.leaf (AV.c (C.d (D.v (Value.bool
 false))), []))) else some (T.leaf (AV.c (C.d (D.v (Value.bool false))), [])))))))))))))))))) := by kernel_rfl
noncomputable def ev130_v (r : SRel) : Bool :=
 (bif !SRel.zon0 r then (bif !(SRel.zon0 r == false && (SRel.zfw0 r == false && (SRel.zx0 r == (0 : Int) && (SRel.zr0 r == (0 : Int) && (SRel.zl0 r == (0 : Int) && (SRel.zd0 r == (0
 : Int) && true)))))) then (false) else (bif !SRel.zon1 r then (bif !(SRel.zon1 r == false && (SRel.zfw1 r == false && (SRel.zx1 r == (0 : Int) && (SRel.zr1 r == (0 : Int) &&
 (SRel.zl1 r == (0 : Int) && (SRel.zd1 r == (0 : Int) && true)))))) then (false) else (bif !SRel.zon2 r then (bif !(SRel.zon2 r == false && (SRel.zfw2 r == false && (SRel.zx2 r == (0
 : Int) && (SRel.zr2 r == (0 : Int) && (SRel.zl2 r == (0 : Int) && (SRel.zd2 r == (0 : Int) && true)))))) then (false) else (bif SRel.min r == (0 : Int) then (bif SRel.kre r == (0 :
 Int) then ((SRel.kim r == (0 : Int))) else (false)) else (false))) else (bif !within (SRel.zx2 r) (1 : Int) (4000 : Int) then (false) else (bif !within (SRel.zr2 r) (0 : Int) (4000
 : Int) then (false) else (bif !within (SRel.zl2 r) (0 : Int) (4000 : Int) then (false) else (bif !within (SRel.zd2 r) (0 : Int) (500 : Int) then (false) else (bif within (SRel.min
 r) (1 : Int) (16383 : Int) then (bif within (SRel.kre r) (-200 : Int) (200 : Int) then ((within (SRel.kim r) (-200 : Int) (200 : Int))) else (false)) else (false)))))))) else (bif
 !within (SRel.zx1 r) (1 : Int) (4000 : Int) then (false) else (bif !within (SRel.zr1 r) (0 : Int) (4000 : Int) then (false) else (bif !within (SRel.zl1 r) (0 : Int) (4000 : Int)
 then (false) else (bif !within (SRel.zd1 r) (0 : Int) (500 : Int) then (false) else (bif !SRel.zon2 r then (bif !(SRel.zon2 r == false && (SRel.zfw2 r == false && (SRel.zx2 r == (0
 : Int) && (SRel.zr2 r == (0 : Int) && (SRel.zl2 r == (0 : Int) && (SRel.zd2 r == (0 : Int) && true)))))) then (false) else (bif within (SRel.min r) (1 : Int) (16383 : Int) then (bif
 within (SRel.kre r) (-200 : Int) (200 : Int) then ((within (SRel.kim r) (-200 : Int) (200 : Int))) else (false)) else (false))) else (bif !within (SRel.zx2 r) (1 : Int) (4000 : Int)
 then (false) else (bif !within (SRel.zr2 r) (0 : Int) (4000 : Int) then (false) else (bif !within (SRel.zl2 r) (0 : Int) (4000 : Int) then (false) else (bif !within (SRel.zd2 r) (0
 : Int) (500 : Int) then (false) else (bif within (SRel.min r) (1 : Int) (16383 : Int) then (bif within (SRel.kre r) (-200 : Int) (200 : Int) then ((within (SRel.kim r) (-200 : Int)
 (200 : Int))) else (false)) else (false))))))))))))) else (bif !within (SRel.zx0 r) (1 : Int) (4000 : Int) then (false) else (bif !within (SRel.zr0 r) (0 : Int) (4000 : Int) then
 (false) else (bif !within (SRel.zl0 r) (0 : Int) (4000 : Int) then (false) else (bif !within (SRel.zd0 r) (0 : Int) (500 : Int) then (false) else (bif !SRel.zon1 r then (bif
 !(SRel.zon1 r == false && (SRel.zfw1 r == false && (SRel.zx1 r == (0 : Int) && (SRel.zr1 r == (0 : Int) && (SRel.zl1 r == (0 : Int) && (SRel.zd1 r == (0 : Int) && true)))))) then
 (false) else (bif !SRel.zon2 r then (bif !(SRel.zon2 r == false && (SRel.zfw2 r == false && (SRel.zx2 r == (0 : Int) && (SRel.zr2 r == (0 : Int) && (SRel.zl2 r == (0 : Int) &&
 (SRel.zd2 r == (0 : Int) && true)))))) then (false) else (bif within (SRel.min r) (1 : Int) (16383 : Int) then (bif within (SRel.kre r) (-200 : Int) (200 : Int) then ((within
 (SRel.kim r) (-200 : Int) (200 : Int))) else (false)) else (false))) else (bif !within (SRel.zx2 r) (1 : Int) (4000 : Int) then (false) else (bif !within (SRel.zr2 r) (0 : Int)
 (4000 : Int) then (false) else (bif !within (SRel.zl2 r) (0 : Int) (4000 : Int) then (false) else (bif !within (SRel.zd2 r) (0 : Int) (500 : Int) then (false) else (bif within
 (SRel.min r) (1 : Int) (16383 : Int) then (bif within (SRel.kre r) (-200 : Int) (200 : Int) then ((within (SRel.kim r) (-200 : Int) (200 : Int))) else (false)) else (false))))))))
 else (bif !within (SRel.zx1 r) (1 : Int) (4000 : Int) then (false) else (bif !within (SRel.zr1 r) (0 : Int) (4000 : Int) then (false) else (bif !within (SRel.zl1 r) (0 : Int) (4000
 : Int) then (false) else (bif !within (SRel.zd1 r) (0 : Int) (500 : Int) then (false) else (bif !SRel.zon2 r then (bif !(SRel.zon2 r == false && (SRel.zfw2 r == false && (SRel.zx2 r
 == (0 : Int) && (SRel.zr2 r == (0 : Int) && (SRel.zl2 r == (0 : Int) && (SRel.zd2 r == (0 : Int) && true)))))) then (false) else (bif within (SRel.min r) (1 : Int) (16383 : Int)
 then (bif within (SRel.kre r) (-200 : Int) (200 : Int) then ((within (SRel.kim r) (-200 : Int) (200 : Int))) else (false)) else (false))) else (bif !within (SRel.zx2 r) (1 : Int)
 (4000 : Int) then (false) else (bif !within (SRel.zr2 r) (0 : Int) (4000 : Int) then (false) else (bif !within (SRel.zl2 r) (0 : Int) (4000 : Int) then (false) else (bif !within
 (SRel.zd2 r) (0 : Int) (500 : Int) then (false) else (bif within (SRel.min r) (1 : Int) (16383 : Int) then (bif within (SRel.kre r) (-200 : Int) (200 : Int) then ((within (SRel.kim
 r) (-200 : Int) (200 : Int))) else (false)) else (false)))))))))))))))))
set_option maxRecDepth 100000 in
theorem ev130 (r : SRel) : callC Tryz.prog oB3 na 5 Tryz.f130 (bodyOf Tryz.f130) [aRel r] [] = some (.leaf (vB (ev130_v r), [])) := by
  rw [ev130_t]
  unfold ev130_v
  simp only [bLeaf]
set_option maxRecDepth 100000 in
theorem ev90_t (r : SRel) : callC Tryz.prog oB3 na 5 Tryz.f90 (bodyOf Tryz.f90) [aRel r] [] =
 (bif SRel.zon0 r then (bif SRel.zon1 r then (bif SRel.scheme r == (1 : Int) then (bif !SRel.zfw0 r then some (T.leaf (AV.c (C.d (D.v (Value.bool true))), [])) else some (T.leaf
 (AV.c (C.d (D.v (Value.bool !SRel.zfw1 r))), []))) else (bif SRel.scheme r == (2 : Int) then some (T.leaf (AV.c (C.d (D.v (Value.bool !SRel.zfw1 r))), [])) else (bif SRel.scheme r
 == (3 : Int) then (bif !SRel.zfw1 r then some (T.leaf (AV.c (C.d (D.v (Value.bool true))), [])) else (bif !SRel.zon2 r then some (T.leaf (AV.c (C.d (D.v (Value.bool true))), []))
 else some (T.leaf (AV.c (C.d (D.v (Value.bool (SRel.zfw2 r)))), [])))) else some (T.leaf (AV.c (C.d (D.v (Value.bool false))), []))))) else (bif SRel.scheme r == (1 : Int) then (bif
 !SRel.zfw0 r then some (T.leaf (AV.c (C.d (D.v (Value.bool true))), [])) else some (T.leaf (AV.c (C.d (D.v (Value.bool true))), []))) else (bif SRel.scheme r == (2 : Int) then some
 (T.leaf (AV.c (C.d (D.v (Value.bool true))), [])) else (bif SRel.scheme r == (3 : Int) then some (T.leaf (AV.c (C.d (D.v (Value.bool true))), [])) else some (T.leaf (AV.c (C.d (D.v
 (Value.bool false))), [])))))) else (bif SRel.zon1 r then (bif SRel.scheme r == (1 : Int) then some (T.leaf (AV.c (C.d (D.v (Value.bool true))), [])) else (bif SRel.scheme r == (2 :
 Int) then some (T.leaf (AV.c (C.d (D.v (Value.bool !SRel.zfw1 r))), [])) else (bif SRel.scheme r == (3 : Int) then (bif !SRel.zfw1 r then some (T.leaf (AV.c (C.d (D.v (Value.bool
 true))), [])) else (bif !SRel.zon2 r then some (T.leaf (AV.c (C.d (D.v (Value.bool true))), [])) else some (T.leaf (AV.c (C.d (D.v (Value.bool (SRel.zfw2 r)))), [])))) else some
 (T.leaf (AV.c (C.d (D.v (Value.bool false))), []))))) else (bif SRel.scheme r == (1 : Int) then some (T.leaf (AV.c (C.d (D.v (Value.bool true))), [])) else (bif SRel.scheme r == (2
 : Int) then some (T.leaf (AV.c (C.d (D.v (Value.bool true))), [])) else (bif SRel.scheme r == (3 : Int) then some (T.leaf (AV.c (C.d (D.v (Value.bool true))), [])) else some (T.leaf
 (AV.c (C.d (D.v (Value.bool false))), []))))))) := by kernel_rfl
noncomputable def ev90_v (r : SRel) : Bool :=
 (bif SRel.zon0 r then (bif SRel.zon1 r then (bif SRel.scheme r == (1 : Int) then (bif !SRel.zfw0 r then (true) else (!SRel.zfw1 r)) else (bif SRel.scheme r == (2 : Int) then
 (!SRel.zfw1 r) else (bif SRel.scheme r == (3 : Int) then (bif !SRel.zfw1 r then (true) else (bif !SRel.zon2 r then (true) else ((SRel.zfw2 r)))) else (false)))) else (bif
 SRel.scheme r == (1 : Int) then (bif !SRel.zfw0 r then (true) else (true)) else (bif SRel.scheme r == (2 : Int) then (true) else (bif SRel.scheme r == (3 : Int) then (true) else
 (false))))) else (bif SRel.zon1 r then (bif SRel.scheme r == (1 : Int) then (true) else (bif SRel.scheme r == (2 : Int) then (!SRel.zfw1 r) else (bif SRel.scheme r == (3 : Int) then
 (bif !SRel.zfw1 r then (true) else (bif !SRel.zon2 r then (true) else ((SRel.zfw2 r)))) else (false)))) else (bif SRel.scheme r == (1 : Int) then (true) else (bif SRel.scheme r ==
 (2 : Int) then (true) else (bif SRel.scheme r == (3 : Int) then (true) else (false))))))
set_option maxRecDepth 100000 in
theorem ev90 (r : SRel) : callC Tryz.prog oB3 na 5 Tryz.f90 (bodyOf Tryz.f90) [aRel r] [] = some (.leaf (vB (ev90_v r), [])) := by
  rw [ev90_t]
  unfold ev90_v
  simp only [bLeaf]
noncomputable def ann89 : Ann := annOf [(100003, ⟨[1], []⟩), (100005, ⟨[1], []⟩), (100007, ⟨[1], []⟩), (100009, ⟨[1], []⟩), (100011, ⟨[1], []⟩), (100013, ⟨[1], []⟩)]
noncomputable def L89_3 (okr zo : List AV → Bool) (r : SRel) (g m : Nat)  := GK Tryz.prog (oNu okr zo) ann89 (List.length (α := Nat × Blk) []) g Tryz.f89 3 m ⟨frm [(1, AV.c (C.ptr 0 0))] 0 Tryz.f89.ntmps, [(0, Blk.cells (List.map C.d (relC r)) 57)], 1⟩
noncomputable def L89_5 (okr zo : List AV → Bool) (r : SRel) (g m : Nat)  := GK Tryz.prog (oNu okr zo) ann89 (List.length (α := Nat × Blk) []) g Tryz.f89 5 m ⟨frm [(1, AV.c (C.ptr 0 0))] 0 Tryz.f89.ntmps, [(0, Blk.cells (List.map C.d (relC r)) 57)], 1⟩
noncomputable def L89_7 (okr zo : List AV → Bool) (r : SRel) (g m : Nat)  := GK Tryz.prog (oNu okr zo) ann89 (List.length (α := Nat × Blk) []) g Tryz.f89 7 m ⟨frm [(1, AV.c (C.ptr 0 0))] 0 Tryz.f89.ntmps, [(0, Blk.cells (List.map C.d (relC r)) 57)], 1⟩
noncomputable def L89_9 (okr zo : List AV → Bool) (r : SRel) (g m : Nat)  := GK Tryz.prog (oNu okr zo) ann89 (List.length (α := Nat × Blk) []) g Tryz.f89 9 m ⟨frm [(1, AV.c (C.ptr 0 0))] 0 Tryz.f89.ntmps, [(0, Blk.cells (List.map C.d (relC r)) 57)], 1⟩
noncomputable def L89_11 (okr zo : List AV → Bool) (r : SRel) (g m : Nat)  := GK Tryz.prog (oNu okr zo) ann89 (List.length (α := Nat × Blk) []) g Tryz.f89 11 m ⟨frm [(1, AV.c (C.ptr 0 0))] 0 Tryz.f89.ntmps, [(0, Blk.cells (List.map C.d (relC r)) 57)], 1⟩
noncomputable def L89_13 (okr zo : List AV → Bool) (r : SRel) (g m : Nat)  := GK Tryz.prog (oNu okr zo) ann89 (List.length (α := Nat × Blk) []) g Tryz.f89 13 m ⟨frm [(1, AV.c (C.ptr 0 0))] 0 Tryz.f89.ntmps, [(0, Blk.cells (List.map C.d (relC r)) 57)], 1⟩
theorem b89 : Tryz.f89.body = some (bodyOf Tryz.f89) := by kernel_rfl
set_option maxRecDepth 100000 in
theorem ev89 (okr zo : List AV → Bool) (r : SRel) (g : Nat) : callC Tryz.prog (oNu okr zo) ann89 g Tryz.f89 (bodyOf Tryz.f89) [aRel r] [] =
 (bif okr [AV.agg (List.map C.d (relC r))] then (bif !zo [AV.agg (List.map C.d (relC r))] then some (T.leaf (AV.c (C.d (D.v (Value.bool false))), [])) else (bif !within (SRel.scheme
 r) (0 : Int) (3 : Int) then some (T.leaf (AV.c (C.d (D.v (Value.bool false))), [])) else (bif !within (SRel.guard r) (0 : Int) (50 : Int) then some (T.leaf (AV.c (C.d (D.v
 (Value.bool false))), [])) else (bif SRel.scheme r == (0 : Int) then (bif SRel.guard r != (0 : Int) then some (T.leaf (AV.c (C.d (D.v (Value.bool false))), [])) else L89_3 okr zo r
 g g) else L89_3 okr zo r g g)))) else none) := by kernel_rfl
set_option maxRecDepth 100000 in
theorem st89_3 (okr zo : List AV → Bool) (r : SRel) (g m : Nat) : L89_3 okr zo r g (m + 1) =
 (bif SRel.scheme r == (3 : Int) then (bif !within (SRel.wait r) (1 : Int) (50 : Int) then some (T.leaf (AV.c (C.d (D.v (Value.bool false))), [])) else (bif SRel.scheme r != (3 :
 Int) then (bif SRel.wait r != (0 : Int) then some (T.leaf (AV.c (C.d (D.v (Value.bool false))), [])) else L89_5 okr zo r g g) else L89_5 okr zo r g g)) else (bif SRel.scheme r != (3
 : Int) then (bif SRel.wait r != (0 : Int) then some (T.leaf (AV.c (C.d (D.v (Value.bool false))), [])) else L89_5 okr zo r g g) else L89_5 okr zo r g g)) := by kernel_rfl
set_option maxRecDepth 100000 in
theorem st89_5 (okr zo : List AV → Bool) (r : SRel) (g m : Nat) : L89_5 okr zo r g (m + 1) =
 (bif !elOk (SRel.don r) (SRel.dpk r) (SRel.ddl r) (0 : Int) then some (T.leaf (AV.c (C.d (D.v (Value.bool false))), [])) else (bif !elOk (SRel.uon r) (SRel.upk r) (SRel.udl r) (0 :
 Int) then some (T.leaf (AV.c (C.d (D.v (Value.bool false))), [])) else (bif !elOk (SRel.oon r) (SRel.opk r) (SRel.odl r) (0 : Int) then some (T.leaf (AV.c (C.d (D.v (Value.bool
 false))), [])) else (bif !elOk (SRel.fon r) (SRel.fpk r) (SRel.fdl r) (1 : Int) then some (T.leaf (AV.c (C.d (D.v (Value.bool false))), [])) else L89_7 okr zo r g g)))) := by kernel_rfl
set_option maxRecDepth 100000 in
theorem st89_7 (okr zo : List AV → Bool) (r : SRel) (g m : Nat) : L89_7 okr zo r g (m + 1) =
 (bif SRel.ion r then (bif !within (SRel.ipk r) (1 : Int) (16383 : Int) then some (T.leaf (AV.c (C.d (D.v (Value.bool false))), [])) else (bif !within (SRel.idl r) (1 : Int) (1000 :
 Int) then some (T.leaf (AV.c (C.d (D.v (Value.bool false))), [])) else (bif !SRel.ion r then (bif !(SRel.ion r == false && (SRel.ipk r == (0 : Int) && (SRel.idl r == (0 : Int) &&
 true))) then some (T.leaf (AV.c (C.d (D.v (Value.bool false))), [])) else L89_9 okr zo r g g) else L89_9 okr zo r g g))) else (bif !SRel.ion r then (bif !(SRel.ion r == false &&
 (SRel.ipk r == (0 : Int) && (SRel.idl r == (0 : Int) && true))) then some (T.leaf (AV.c (C.d (D.v (Value.bool false))), [])) else L89_9 okr zo r g g) else L89_9 okr zo r g g)) := by kernel_rfl
set_option maxRecDepth 100000 in
theorem st89_9 (okr zo : List AV → Bool) (r : SRel) (g m : Nat) : L89_9 okr zo r g (m + 1) =
 (bif !within (SRel.shots r) (0 : Int) (3 : Int) then some (T.leaf (AV.c (C.d (D.v (Value.bool false))), [])) else (bif SRel.shots r == (0 : Int) then (bif SRel.dead r != (0 : Int)
 then some (T.leaf (AV.c (C.d (D.v (Value.bool false))), [])) else (bif SRel.reclaim r != (0 : Int) then some (T.leaf (AV.c (C.d (D.v (Value.bool false))), [])) else (bif decide
 (SRel.shots r > (0 : Int)) then (bif !within (SRel.dead r) (1 : Int) (100 : Int) then some (T.leaf (AV.c (C.d (D.v (Value.bool false))), [])) else (bif !within (SRel.reclaim r) (1 :
 Int) (1000 : Int) then some (T.leaf (AV.c (C.d (D.v (Value.bool false))), [])) else L89_11 okr zo r g g)) else L89_11 okr zo r g g))) else (bif decide (SRel.shots r > (0 : Int))
 then (bif !within (SRel.dead r) (1 : Int) (100 : Int) then some (T.leaf (AV.c (C.d (D.v (Value.bool false))), [])) else (bif !within (SRel.reclaim r) (1 : Int) (1000 : Int) then
 some (T.leaf (AV.c (C.d (D.v (Value.bool false))), [])) else L89_11 okr zo r g g)) else L89_11 okr zo r g g))) := by kernel_rfl
set_option maxRecDepth 100000 in
theorem st89_11 (okr zo : List AV → Bool) (r : SRel) (g m : Nat) : L89_11 okr zo r g (m + 1) =
 (bif !within (SRel.diff r) (0 : Int) (16383 : Int) then some (T.leaf (AV.c (C.d (D.v (Value.bool false))), [])) else (bif SRel.diff r == (0 : Int) then (bif SRel.num r != (0 : Int)
 then some (T.leaf (AV.c (C.d (D.v (Value.bool false))), [])) else (bif SRel.den r != (0 : Int) then some (T.leaf (AV.c (C.d (D.v (Value.bool false))), [])) else (bif SRel.harm r !=
 (0 : Int) then some (T.leaf (AV.c (C.d (D.v (Value.bool false))), [])) else L89_13 okr zo r g g))) else L89_13 okr zo r g g)) := by kernel_rfl
set_option maxRecDepth 100000 in
theorem st89_13 (okr zo : List AV → Bool) (r : SRel) (g m : Nat) : L89_13 okr zo r g (m + 1) =
 (bif SRel.diff r == (0 : Int) then some (T.leaf (AV.c (C.d (D.v (Value.bool true))), [])) else (bif within (SRel.den r) (1 : Int) (100 : Int) then (bif within (SRel.num r) (0 : Int)
 (SRel.den r) then some (T.leaf (AV.c (C.d (D.v (Value.bool (within (SRel.harm r) (0 : Int) (100 : Int))))), [])) else some (T.leaf (AV.c (C.d (D.v (Value.bool false))), []))) else
 some (T.leaf (AV.c (C.d (D.v (Value.bool false))), [])))) := by kernel_rfl
end Go.Proofs.YtngoglhlhlfknaaGreat.se
