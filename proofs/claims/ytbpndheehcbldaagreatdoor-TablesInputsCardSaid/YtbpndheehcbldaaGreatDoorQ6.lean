/-
  An evaluator of Go code on abstract values, proved sound, and what it computes of the functions that the statement reaches (part 6). No condition.
-/
import Derived.Test.YtbpndheehcbldaaGreatDoorQ5
set_option maxRecDepth 100000
namespace Go.Proofs.YtbpndheehcbldaaGreatDoor.se
open Go.RowKit Go.Eb
noncomputable def oWi : Orc := Orc.cons 189 (inl Tryz.prog Orc.nil na 1 Tryz.f189) Orc.nil
noncomputable def oW3 : Orc := Orc.cons 189 (ansP dec3 fun a => vB (Aac a.1 a.2.1 a.2.2)) Orc.nil
noncomputable def oE3 : Orc := Orc.cons 190 (ansP decE fun a => vB (elOk a.1 a.2.1 a.2.2.1 a.2.2.2)) oW3
noncomputable def oZo : Orc := Orc.cons 191 (inl Tryz.prog oW3 na 1 Tryz.f191) oW3
theorem evWi_t (a b c : Int) : Aai Tryz.prog Orc.nil na 5 Tryz.f189 (Aad Tryz.f189) [vI a, vI b, vI c] [] =
 (bif decide (a ≥ b) then leB (decide (a ≤ c)) else leB false) := by kernel_rfl
noncomputable def evWi_v (a b c : Int) : Bool :=
 (bif decide (a ≥ b) then ((decide (a ≤ c))) else (false))
theorem evWi (a b c : Int) : Aai Tryz.prog Orc.nil na 5 Tryz.f189 (Aad Tryz.f189) [vI a, vI b, vI c] [] = some (.leaf (vB (evWi_v a b c), [])) := by
 rw [evWi_t]
 unfold evWi_v
 simp only [Aeh]
theorem evEl_t (o : Bool) (a b c : Int) : Aai Tryz.prog oW3 na 5 Tryz.f190 (Aad Tryz.f190) [.agg [.d (dB o), .d (dI a), .d (dI b)], vI c] [] =
 (bif !o then leB (o == false && (a == 0 && (b == 0 && true))) else (bif Aac a 1 16383 then leB (Aac b c 500) else leB false)) := by kernel_rfl
noncomputable def evEl_v (o : Bool) (a b c : Int) : Bool :=
 (bif !o then ((o == false && (a == (0 : Int) && (b == (0 : Int) && true)))) else (bif Aac a (1 : Int) (16383 : Int) then ((Aac b c (500 : Int))) else (false)))
theorem evEl (o : Bool) (a b c : Int) : Aai Tryz.prog oW3 na 5 Tryz.f190 (Aad Tryz.f190) [.agg [.d (dB o), .d (dI a), .d (dI b)], vI c] [] = some (.leaf (vB (evEl_v o a b c), [])) := by
 rw [evEl_t]
 unfold evEl_v
 simp only [Aeh]
theorem ev78_t (r : SRel) : Aai Tryz.prog oW3 na 5 Tryz.f133 (Aad Tryz.f133) [aRel r] [] =
 (bif r.kind != 1 then (bif r.zon0 == false && (r.zfw0 == false && (r.zx0 == 0 && (r.zr0 == 0 && (r.zl0 == 0 && (r.zd0 == 0 && true))))) && (r.zon1 == false && (r.zfw1 == false &&
 (r.zx1 == 0 && (r.zr1 == 0 && (r.zl1 == 0 && (r.zd1 == 0 && true))))) && (r.zon2 == false && (r.zfw2 == false && (r.zx2 == 0 && (r.zr2 == 0 && (r.zl2 == 0 && (r.zd2 == 0 &&
 true))))) && true)) then (bif r.min == 0 then (bif r.kre == 0 then (bif r.kim == 0 then (bif r.scheme == 0 then (bif r.wait == 0 then (bif r.guard == 0 then (bif r.shots == 0 then
 (bif r.dead == 0 then (bif r.kind != 2 then (bif r.reclaim == 0 then (bif r.uon == false && (r.upk == 0 && (r.udl == 0 && true)) then (bif r.kind == 4 then (bif r.oon == false &&
 (r.opk == 0 && (r.odl == 0 && true)) then (bif r.don == false && (r.dpk == 0 && (r.ddl == 0 && true)) then (bif r.ion == false && (r.ipk == 0 && (r.idl == 0 && true)) then leB
 (r.fon == false && (r.fpk == 0 && (r.fdl == 0 && true))) else leB false) else leB false) else leB false) else (bif r.oon == false && (r.opk == 0 && (r.odl == 0 && true)) then (bif
 r.diff == 0 then (bif r.num == 0 then (bif r.den == 0 then leB (r.harm == 0) else leB false) else leB false) else leB false) else leB false)) else (bif r.kind == 4 then leB false
 else leB false)) else (bif r.kind == 4 then leB false else leB false)) else (bif r.kind == 4 then (bif r.reclaim == 0 then (bif r.don == false && (r.dpk == 0 && (r.ddl == 0 &&
 true)) then (bif r.ion == false && (r.ipk == 0 && (r.idl == 0 && true)) then leB (r.fon == false && (r.fpk == 0 && (r.fdl == 0 && true))) else leB false) else leB false) else leB
 false) else (bif r.reclaim == 0 then (bif r.diff == 0 then (bif r.num == 0 then (bif r.den == 0 then leB (r.harm == 0) else leB false) else leB false) else leB false) else leB
 false))) else (bif r.kind != 2 then (bif r.kind == 4 then leB false else leB false) else (bif r.kind == 4 then leB false else leB false))) else (bif r.kind != 2 then (bif r.kind ==
 4 then leB false else leB false) else (bif r.kind == 4 then leB false else leB false))) else (bif r.kind != 2 then (bif r.kind == 4 then leB false else leB false) else (bif r.kind
 == 4 then leB false else leB false))) else (bif r.kind != 2 then (bif r.kind == 4 then leB false else leB false) else (bif r.kind == 4 then leB false else leB false))) else (bif
 r.kind != 2 then (bif r.kind == 4 then leB false else leB false) else (bif r.kind == 4 then leB false else leB false))) else (bif r.kind != 2 then (bif r.kind == 4 then leB false
 else leB false) else (bif r.kind == 4 then leB false else leB false))) else (bif r.kind != 2 then (bif r.kind == 4 then leB false else leB false) else (bif r.kind == 4 then leB
 false else leB false))) else (bif r.kind != 2 then (bif r.kind == 4 then leB false else leB false) else (bif r.kind == 4 then leB false else leB false))) else (bif r.kind != 2 then
 (bif r.kind == 4 then leB false else leB false) else (bif r.kind == 4 then leB false else leB false))) else (bif r.kind != 2 then (bif r.uon == false && (r.upk == 0 && (r.udl == 0
 && true)) then (bif r.kind == 4 then (bif r.oon == false && (r.opk == 0 && (r.odl == 0 && true)) then (bif r.don == false && (r.dpk == 0 && (r.ddl == 0 && true)) then (bif r.ion ==
 false && (r.ipk == 0 && (r.idl == 0 && true)) then leB (r.fon == false && (r.fpk == 0 && (r.fdl == 0 && true))) else leB false) else leB false) else leB false) else (bif r.oon ==
 false && (r.opk == 0 && (r.odl == 0 && true)) then (bif r.diff == 0 then (bif r.num == 0 then (bif r.den == 0 then leB (r.harm == 0) else leB false) else leB false) else leB false)
 else leB false)) else (bif r.kind == 4 then leB false else leB false)) else (bif r.kind == 4 then (bif r.don == false && (r.dpk == 0 && (r.ddl == 0 && true)) then (bif r.ion ==
 false && (r.ipk == 0 && (r.idl == 0 && true)) then leB (r.fon == false && (r.fpk == 0 && (r.fdl == 0 && true))) else leB false) else leB false) else (bif r.diff == 0 then (bif
 r.num == 0 then (bif r.den == 0 then leB (r.harm == 0) else leB false) else leB false) else leB false)))) := by kernel_rfl
noncomputable def AdX (r : SRel) : Bool :=
 (bif SRel.kind r != (1 : Int) then (bif SRel.zon0 r == false && (SRel.zfw0 r == false && (SRel.zx0 r == (0 : Int) && (SRel.zr0 r == (0 : Int) && (SRel.zl0 r == (0 : Int) &&
 (SRel.zd0 r == (0 : Int) && true))))) && (SRel.zon1 r == false && (SRel.zfw1 r == false && (SRel.zx1 r == (0 : Int) && (SRel.zr1 r == (0 : Int) && (SRel.zl1 r == (0 : Int) &&
 (SRel.zd1 r == (0 : Int) && true))))) && (SRel.zon2 r == false && (SRel.zfw2 r == false && (SRel.zx2 r == (0 : Int) && (SRel.zr2 r == (0 : Int) && (SRel.zl2 r == (0 : Int) &&
 (SRel.zd2 r == (0 : Int) && true))))) && true)) then (bif SRel.min r == (0 : Int) then (bif SRel.kre r == (0 : Int) then (bif SRel.kim r == (0 : Int) then (bif SRel.scheme r == (0 :
 Int) then (bif SRel.wait r == (0 : Int) then (bif SRel.guard r == (0 : Int) then (bif SRel.shots r == (0 : Int) then (bif SRel.dead r == (0 : Int) then (bif SRel.kind r != (2 : Int)
 then (bif SRel.reclaim r == (0 : Int) then (bif SRel.uon r == false && (SRel.upk r == (0 : Int) && (SRel.udl r == (0 : Int) && true)) then (bif SRel.kind r == (4 : Int) then (bif
 SRel.oon r == false && (SRel.opk r == (0 : Int) && (SRel.odl r == (0 : Int) && true)) then (bif SRel.don r == false && (SRel.dpk r == (0 : Int) && (SRel.ddl r == (0 : Int) && true))
 then (bif SRel.ion r == false && (SRel.ipk r == (0 : Int) && (SRel.idl r == (0 : Int) && true)) then ((SRel.fon r == false && (SRel.fpk r == (0 : Int) && (SRel.fdl r == (0 : Int) &&
 true)))) else (false)) else (false)) else (false)) else (bif SRel.oon r == false && (SRel.opk r == (0 : Int) && (SRel.odl r == (0 : Int) && true)) then (bif SRel.diff r == (0 : Int)
 then (bif SRel.num r == (0 : Int) then (bif SRel.den r == (0 : Int) then ((SRel.harm r == (0 : Int))) else (false)) else (false)) else (false)) else (false))) else (bif SRel.kind r
 == (4 : Int) then (false) else (false))) else (bif SRel.kind r == (4 : Int) then (false) else (false))) else (bif SRel.kind r == (4 : Int) then (bif SRel.reclaim r == (0 : Int) then
 (bif SRel.don r == false && (SRel.dpk r == (0 : Int) && (SRel.ddl r == (0 : Int) && true)) then (bif SRel.ion r == false && (SRel.ipk r == (0 : Int) && (SRel.idl r == (0 : Int) &&
 true)) then ((SRel.fon r == false && (SRel.fpk r == (0 : Int) && (SRel.fdl r == (0 : Int) && true)))) else (false)) else (false)) else (false)) else (bif SRel.reclaim r == (0 : Int)
 then (bif SRel.diff r == (0 : Int) then (bif SRel.num r == (0 : Int) then (bif SRel.den r == (0 : Int) then ((SRel.harm r == (0 : Int))) else (false)) else (false)) else (false))
 else (false)))) else (bif SRel.kind r != (2 : Int) then (bif SRel.kind r == (4 : Int) then (false) else (false)) else (bif SRel.kind r == (4 : Int) then (false) else (false)))) else
 (bif SRel.kind r != (2 : Int) then (bif SRel.kind r == (4 : Int) then (false) else (false)) else (bif SRel.kind r == (4 : Int) then (false) else (false)))) else (bif SRel.kind r !=
 (2 : Int) then (bif SRel.kind r == (4 : Int) then (false) else (false)) else (bif SRel.kind r == (4 : Int) then (false) else (false)))) else (bif SRel.kind r != (2 : Int) then (bif
 SRel.kind r == (4 : Int) then (false) else (false)) else (bif SRel.kind r == (4 : Int) then (false) else (false)))) else (bif SRel.kind r != (2 : Int) then (bif SRel.kind r == (4 :
 Int) then (false) else (false)) else (bif SRel.kind r == (4 : Int) then (false) else (false)))) else (bif SRel.kind r != (2 : Int) then (bif SRel.kind r == (4 : Int) then (false)
 else (false)) else (bif SRel.kind r == (4 : Int) then (false) else (false)))) else (bif SRel.kind r != (2 : Int) then (bif SRel.kind r == (4 : Int) then (false) else (false)) else
 (bif SRel.kind r == (4 : Int) then (false) else (false)))) else (bif SRel.kind r != (2 : Int) then (bif SRel.kind r == (4 : Int) then (false) else (false)) else (bif SRel.kind r ==
 (4 : Int) then (false) else (false)))) else (bif SRel.kind r != (2 : Int) then (bif SRel.kind r == (4 : Int) then (false) else (false)) else (bif SRel.kind r == (4 : Int) then
 (false) else (false)))) else (bif SRel.kind r != (2 : Int) then (bif SRel.uon r == false && (SRel.upk r == (0 : Int) && (SRel.udl r == (0 : Int) && true)) then (bif SRel.kind r ==
 (4 : Int) then (bif SRel.oon r == false && (SRel.opk r == (0 : Int) && (SRel.odl r == (0 : Int) && true)) then (bif SRel.don r == false && (SRel.dpk r == (0 : Int) && (SRel.ddl r ==
 (0 : Int) && true)) then (bif SRel.ion r == false && (SRel.ipk r == (0 : Int) && (SRel.idl r == (0 : Int) && true)) then ((SRel.fon r == false && (SRel.fpk r == (0 : Int) &&
 (SRel.fdl r == (0 : Int) && true)))) else (false)) else (false)) else (false)) else (bif SRel.oon r == false && (SRel.opk r == (0 : Int) && (SRel.odl r == (0 : Int) && true)) then
 (bif SRel.diff r == (0 : Int) then (bif SRel.num r == (0 : Int) then (bif SRel.den r == (0 : Int) then ((SRel.harm r == (0 : Int))) else (false)) else (false)) else (false)) else
 (false))) else (bif SRel.kind r == (4 : Int) then (false) else (false))) else (bif SRel.kind r == (4 : Int) then (bif SRel.don r == false && (SRel.dpk r == (0 : Int) && (SRel.ddl r
 == (0 : Int) && true)) then (bif SRel.ion r == false && (SRel.ipk r == (0 : Int) && (SRel.idl r == (0 : Int) && true)) then ((SRel.fon r == false && (SRel.fpk r == (0 : Int) &&
 (SRel.fdl r == (0 : Int) && true)))) else (false)) else (false)) else (bif SRel.diff r == (0 : Int) then (bif SRel.num r == (0 : Int) then (bif SRel.den r == (0 : Int) then
 ((SRel.harm r == (0 : Int))) else (false)) else (false)) else (false)))))
theorem ev78 (r : SRel) : Aai Tryz.prog oW3 na 5 Tryz.f133 (Aad Tryz.f133) [aRel r] [] = some (.leaf (vB (AdX r), [])) := by
 rw [ev78_t]
 unfold AdX
 simp only [Aeh]
theorem ev79_t (r : SRel) : Aai Tryz.prog oW3 na 5 Tryz.f134 (Aad Tryz.f134) [aRel r] [] =
 (bif !r.zon0 then (bif !(r.zon0 == false && (r.zfw0 == false && (r.zx0 == 0 && (r.zr0 == 0 && (r.zl0 == 0 && (r.zd0 == 0 && true)))))) then leB false else (bif !r.zon1 then (bif
 !(r.zon1 == false && (r.zfw1 == false && (r.zx1 == 0 && (r.zr1 == 0 && (r.zl1 == 0 && (r.zd1 == 0 && true)))))) then leB false else (bif !r.zon2 then (bif !(r.zon2 == false &&
 (r.zfw2 == false && (r.zx2 == 0 && (r.zr2 == 0 && (r.zl2 == 0 && (r.zd2 == 0 && true)))))) then leB false else (bif r.min == 0 then (bif r.kre == 0 then leB (r.kim == 0) else leB
 false) else leB false)) else (bif !Aac r.zx2 1 4000 then leB false else (bif !Aac r.zr2 0 4000 then leB false else (bif !Aac r.zl2 0 4000 then leB false else (bif !Aac r.zd2 0 500
 then leB false else (bif Aac r.min 1 16383 then (bif Aac r.kre (-200) 200 then leB (Aac r.kim (-200) 200) else leB false) else leB false))))))) else (bif !Aac r.zx1 1 4000 then leB
 false else (bif !Aac r.zr1 0 4000 then leB false else (bif !Aac r.zl1 0 4000 then leB false else (bif !Aac r.zd1 0 500 then leB false else (bif !r.zon2 then (bif !(r.zon2 == false
 && (r.zfw2 == false && (r.zx2 == 0 && (r.zr2 == 0 && (r.zl2 == 0 && (r.zd2 == 0 && true)))))) then leB false else (bif Aac r.min 1 16383 then (bif Aac r.kre (-200) 200 then leB
 (Aac r.kim (-200) 200) else leB false) else leB false)) else (bif !Aac r.zx2 1 4000 then leB false else (bif !Aac r.zr2 0 4000 then leB false else (bif !Aac r.zl2 0 4000 then leB
 false else (bif !Aac r.zd2 0 500 then leB false else (bif Aac r.min 1 16383 then (bif Aac r.kre (-200) 200 then leB (Aac r.kim (-200) 200) else leB false) else leB
 false)))))))))))) else (bif !Aac r.zx0 1 4000 then leB false else (bif !Aac r.zr0 0 4000 then leB false else (bif !Aac r.zl0 0 4000 then leB false else (bif !Aac r.zd0 0 500 then
 leB false else (bif !r.zon1 then (bif !(r.zon1 == false && (r.zfw1 == false && (r.zx1 == 0 && (r.zr1 == 0 && (r.zl1 == 0 && (r.zd1 == 0 && true)))))) then leB false else (bif
 !r.zon2 then (bif !(r.zon2 == false && (r.zfw2 == false && (r.zx2 == 0 && (r.zr2 == 0 && (r.zl2 == 0 && (r.zd2 == 0 && true)))))) then leB false else (bif Aac r.min 1 16383 then
 (bif Aac r.kre (-200) 200 then leB (Aac r.kim (-200) 200) else leB false) else leB false)) else (bif !Aac r.zx2 1 4000 then leB false else (bif !Aac r.zr2 0 4000 then leB false
 else (bif !Aac r.zl2 0 4000 then leB false else (bif !Aac r.zd2 0 500 then leB false else (bif Aac r.min 1 16383 then (bif Aac r.kre (-200) 200 then leB (Aac r.kim (-200) 200) else
 leB false) else leB false))))))) else (bif !Aac r.zx1 1 4000 then leB false else (bif !Aac r.zr1 0 4000 then leB false else (bif !Aac r.zl1 0 4000 then leB false else (bif !Aac
 r.zd1 0 500 then leB false else (bif !r.zon2 then (bif !(r.zon2 == false && (r.zfw2 == false && (r.zx2 == 0 && (r.zr2 == 0 && (r.zl2 == 0 && (r.zd2 == 0 && true)))))) then leB
 false else (bif Aac r.min 1 16383 then (bif Aac r.kre (-200) 200 then leB (Aac r.kim (-200) 200) else leB false) else leB false)) else (bif !Aac r.zx2 1 4000 then leB false else
 (bif !Aac r.zr2 0 4000 then leB false else (bif !Aac r.zl2 0 4000 then leB false else (bif !Aac r.zd2 0 500 then leB false else (bif Aac r.min 1 16383 then (bif Aac r.kre (-200)
 200 then leB (Aac r.kim (-200) 200) else leB false) else leB false)))))))))))))))) := by kernel_rfl
noncomputable def AbC (r : SRel) : Bool :=
 (bif !SRel.zon0 r then (bif !(SRel.zon0 r == false && (SRel.zfw0 r == false && (SRel.zx0 r == (0 : Int) && (SRel.zr0 r == (0 : Int) && (SRel.zl0 r == (0 : Int) && (SRel.zd0 r == (0
 : Int) && true)))))) then (false) else (bif !SRel.zon1 r then (bif !(SRel.zon1 r == false && (SRel.zfw1 r == false && (SRel.zx1 r == (0 : Int) && (SRel.zr1 r == (0 : Int) &&
 (SRel.zl1 r == (0 : Int) && (SRel.zd1 r == (0 : Int) && true)))))) then (false) else (bif !SRel.zon2 r then (bif !(SRel.zon2 r == false && (SRel.zfw2 r == false && (SRel.zx2 r == (0
 : Int) && (SRel.zr2 r == (0 : Int) && (SRel.zl2 r == (0 : Int) && (SRel.zd2 r == (0 : Int) && true)))))) then (false) else (bif SRel.min r == (0 : Int) then (bif SRel.kre r == (0 :
 Int) then ((SRel.kim r == (0 : Int))) else (false)) else (false))) else (bif !Aac (SRel.zx2 r) (1 : Int) (4000 : Int) then (false) else (bif !Aac (SRel.zr2 r) (0 : Int) (4000
 : Int) then (false) else (bif !Aac (SRel.zl2 r) (0 : Int) (4000 : Int) then (false) else (bif !Aac (SRel.zd2 r) (0 : Int) (500 : Int) then (false) else (bif Aac (SRel.min
 r) (1 : Int) (16383 : Int) then (bif Aac (SRel.kre r) (-200 : Int) (200 : Int) then ((Aac (SRel.kim r) (-200 : Int) (200 : Int))) else (false)) else (false)))))))) else (bif
 !Aac (SRel.zx1 r) (1 : Int) (4000 : Int) then (false) else (bif !Aac (SRel.zr1 r) (0 : Int) (4000 : Int) then (false) else (bif !Aac (SRel.zl1 r) (0 : Int) (4000 : Int)
 then (false) else (bif !Aac (SRel.zd1 r) (0 : Int) (500 : Int) then (false) else (bif !SRel.zon2 r then (bif !(SRel.zon2 r == false && (SRel.zfw2 r == false && (SRel.zx2 r == (0
 : Int) && (SRel.zr2 r == (0 : Int) && (SRel.zl2 r == (0 : Int) && (SRel.zd2 r == (0 : Int) && true)))))) then (false) else (bif Aac (SRel.min r) (1 : Int) (16383 : Int) then (bif
 Aac (SRel.kre r) (-200 : Int) (200 : Int) then ((Aac (SRel.kim r) (-200 : Int) (200 : Int))) else (false)) else (false))) else (bif !Aac (SRel.zx2 r) (1 : Int) (4000 : Int)
 then (false) else (bif !Aac (SRel.zr2 r) (0 : Int) (4000 : Int) then (false) else (bif !Aac (SRel.zl2 r) (0 : Int) (4000 : Int) then (false) else (bif !Aac (SRel.zd2 r) (0
 : Int) (500 : Int) then (false) else (bif Aac (SRel.min r) (1 : Int) (16383 : Int) then (bif Aac (SRel.kre r) (-200 : Int) (200 : Int) then ((Aac (SRel.kim r) (-200 : Int)
 (200 : Int))) else (false)) else (false))))))))))))) else (bif !Aac (SRel.zx0 r) (1 : Int) (4000 : Int) then (false) else (bif !Aac (SRel.zr0 r) (0 : Int) (4000 : Int) then
 (false) else (bif !Aac (SRel.zl0 r) (0 : Int) (4000 : Int) then (false) else (bif !Aac (SRel.zd0 r) (0 : Int) (500 : Int) then (false) else (bif !SRel.zon1 r then (bif
 !(SRel.zon1 r == false && (SRel.zfw1 r == false && (SRel.zx1 r == (0 : Int) && (SRel.zr1 r == (0 : Int) && (SRel.zl1 r == (0 : Int) && (SRel.zd1 r == (0 : Int) && true)))))) then
 (false) else (bif !SRel.zon2 r then (bif !(SRel.zon2 r == false && (SRel.zfw2 r == false && (SRel.zx2 r == (0 : Int) && (SRel.zr2 r == (0 : Int) && (SRel.zl2 r == (0 : Int) &&
 (SRel.zd2 r == (0 : Int) && true)))))) then (false) else (bif Aac (SRel.min r) (1 : Int) (16383 : Int) then (bif Aac (SRel.kre r) (-200 : Int) (200 : Int) then ((Aac
 (SRel.kim r) (-200 : Int) (200 : Int))) else (false)) else (false))) else (bif !Aac (SRel.zx2 r) (1 : Int) (4000 : Int) then (false) else (bif !Aac (SRel.zr2 r) (0 : Int)
 (4000 : Int) then (false) else (bif !Aac (SRel.zl2 r) (0 : Int) (4000 : Int) then (false) else (bif !Aac (SRel.zd2 r) (0 : Int) (500 : Int) then (false) else (bif Aac
 (SRel.min r) (1 : Int) (16383 : Int) then (bif Aac (SRel.kre r) (-200 : Int) (200 : Int) then ((Aac (SRel.kim r) (-200 : Int) (200 : Int))) else (false)) else (false))))))))
 else (bif !Aac (SRel.zx1 r) (1 : Int) (4000 : Int) then (false) else (bif !Aac (SRel.zr1 r) (0 : Int) (4000 : Int) then (false) else (bif !Aac (SRel.zl1 r) (0 : Int) (4000
 : Int) then (false) else (bif !Aac (SRel.zd1 r) (0 : Int) (500 : Int) then (false) else (bif !SRel.zon2 r then (bif !(SRel.zon2 r == false && (SRel.zfw2 r == false && (SRel.zx2 r
 == (0 : Int) && (SRel.zr2 r == (0 : Int) && (SRel.zl2 r == (0 : Int) && (SRel.zd2 r == (0 : Int) && true)))))) then (false) else (bif Aac (SRel.min r) (1 : Int) (16383 : Int)
 then (bif Aac (SRel.kre r) (-200 : Int) (200 : Int) then ((Aac (SRel.kim r) (-200 : Int) (200 : Int))) else (false)) else (false))) else (bif !Aac (SRel.zx2 r) (1 : Int)
 (4000 : Int) then (false) else (bif !Aac (SRel.zr2 r) (0 : Int) (4000 : Int) then (false) else (bif !Aac (SRel.zl2 r) (0 : Int) (4000 : Int) then (false) else (bif !Aac
 (SRel.zd2 r) (0 : Int) (500 : Int) then (false) else (bif Aac (SRel.min r) (1 : Int) (16383 : Int) then (bif Aac (SRel.kre r) (-200 : Int) (200 : Int) then ((Aac (SRel.kim
 r) (-200 : Int) (200 : Int))) else (false)) else (false)))))))))))))))))
theorem ev79 (r : SRel) : Aai Tryz.prog oW3 na 5 Tryz.f134 (Aad Tryz.f134) [aRel r] [] = some (.leaf (vB (AbC r), [])) := by
 rw [ev79_t]
 unfold AbC
 simp only [Aeh]
theorem ev80_t (r : SRel) : Aai Tryz.prog oW3 na 5 Tryz.f135 (Aad Tryz.f135) [aRel r] [] =
 (bif !Aac r.scheme 0 3 then leB false else (bif r.scheme == 3 then (bif !Aac r.wait 1 50 then leB false else (bif r.scheme == 0 then leB (r.guard == 0) else leB (Aac r.guard 0
 50))) else (bif r.wait != 0 then leB false else (bif r.scheme == 0 then leB (r.guard == 0) else leB (Aac r.guard 0 50))))) := by kernel_rfl
noncomputable def Aca (r : SRel) : Bool :=
 (bif !Aac (SRel.scheme r) (0 : Int) (3 : Int) then (false) else (bif SRel.scheme r == (3 : Int) then (bif !Aac (SRel.wait r) (1 : Int) (50 : Int) then (false) else (bif
 SRel.scheme r == (0 : Int) then ((SRel.guard r == (0 : Int))) else ((Aac (SRel.guard r) (0 : Int) (50 : Int))))) else (bif SRel.wait r != (0 : Int) then (false) else (bif
 SRel.scheme r == (0 : Int) then ((SRel.guard r == (0 : Int))) else ((Aac (SRel.guard r) (0 : Int) (50 : Int)))))))
theorem ev80 (r : SRel) : Aai Tryz.prog oW3 na 5 Tryz.f135 (Aad Tryz.f135) [aRel r] [] = some (.leaf (vB (Aca r), [])) := by
 rw [ev80_t]
 unfold Aca
 simp only [Aeh]
theorem ev81_t (r : SRel) : Aai Tryz.prog oE3 na 5 Tryz.f136 (Aad Tryz.f136) [aRel r] [] =
 (bif r.ion then (bif !Aac r.ipk 1 16383 then leB false else (bif !Aac r.idl 1 1000 then leB false else (bif elOk r.don r.dpk r.ddl 0 then (bif elOk r.uon r.upk r.udl 0 then (bif
 elOk r.oon r.opk r.odl 0 then leB (elOk r.fon r.fpk r.fdl 1) else leB false) else leB false) else leB false))) else (bif !(r.ion == false && (r.ipk == 0 && (r.idl == 0 && true)))
 then leB false else (bif elOk r.don r.dpk r.ddl 0 then (bif elOk r.uon r.upk r.udl 0 then (bif elOk r.oon r.opk r.odl 0 then leB (elOk r.fon r.fpk r.fdl 1) else leB false) else leB
 false) else leB false))) := by kernel_rfl
noncomputable def AbZ (r : SRel) : Bool :=
 (bif SRel.ion r then (bif !Aac (SRel.ipk r) (1 : Int) (16383 : Int) then (false) else (bif !Aac (SRel.idl r) (1 : Int) (1000 : Int) then (false) else (bif elOk (SRel.don r)
 (SRel.dpk r) (SRel.ddl r) (0 : Int) then (bif elOk (SRel.uon r) (SRel.upk r) (SRel.udl r) (0 : Int) then (bif elOk (SRel.oon r) (SRel.opk r) (SRel.odl r) (0 : Int) then ((elOk
 (SRel.fon r) (SRel.fpk r) (SRel.fdl r) (1 : Int))) else (false)) else (false)) else (false)))) else (bif !(SRel.ion r == false && (SRel.ipk r == (0 : Int) && (SRel.idl r == (0 :
 Int) && true))) then (false) else (bif elOk (SRel.don r) (SRel.dpk r) (SRel.ddl r) (0 : Int) then (bif elOk (SRel.uon r) (SRel.upk r) (SRel.udl r) (0 : Int) then (bif elOk (SRel.oon
 r) (SRel.opk r) (SRel.odl r) (0 : Int) then ((elOk (SRel.fon r) (SRel.fpk r) (SRel.fdl r) (1 : Int))) else (false)) else (false)) else (false))))
theorem ev81 (r : SRel) : Aai Tryz.prog oE3 na 5 Tryz.f136 (Aad Tryz.f136) [aRel r] [] = some (.leaf (vB (AbZ r), [])) := by
 rw [ev81_t]
 unfold AbZ
 simp only [Aeh]
theorem ev82_t (r : SRel) : Aai Tryz.prog oW3 na 5 Tryz.f137 (Aad Tryz.f137) [aRel r] [] =
 (bif r.shots == 0 then (bif r.dead != 0 then leB false else (bif r.reclaim != 0 then leB false else (bif r.diff == 0 then (bif r.num == 0 then (bif r.den == 0 then leB (r.harm ==
 0) else leB false) else leB false) else (bif Aac r.diff 1 16383 then (bif Aac r.den 1 100 then (bif Aac r.num 0 r.den then leB (Aac r.harm 0 100) else leB false) else leB false)
 else leB false)))) else (bif !Aac r.shots 1 3 then leB false else (bif !Aac r.dead 1 100 then leB false else (bif !Aac r.reclaim 1 1000 then leB false else (bif r.diff == 0 then
 (bif r.num == 0 then (bif r.den == 0 then leB (r.harm == 0) else leB false) else leB false) else (bif Aac r.diff 1 16383 then (bif Aac r.den 1 100 then (bif Aac r.num 0 r.den then
 leB (Aac r.harm 0 100) else leB false) else leB false) else leB false)))))) := by kernel_rfl
noncomputable def AbY (r : SRel) : Bool :=
 (bif SRel.shots r == (0 : Int) then (bif SRel.dead r != (0 : Int) then (false) else (bif SRel.reclaim r != (0 : Int) then (false) else (bif SRel.diff r == (0 : Int) then (bif
 SRel.num r == (0 : Int) then (bif SRel.den r == (0 : Int) then ((SRel.harm r == (0 : Int))) else (false)) else (false)) else (bif Aac (SRel.diff r) (1 : Int) (16383 : Int) then
 (bif Aac (SRel.den r) (1 : Int) (100 : Int) then (bif Aac (SRel.num r) (0 : Int) (SRel.den r) then ((Aac (SRel.harm r) (0 : Int) (100 : Int))) else (false)) else (false))
 else (false))))) else (bif !Aac (SRel.shots r) (1 : Int) (3 : Int) then (false) else (bif !Aac (SRel.dead r) (1 : Int) (100 : Int) then (false) else (bif !Aac (SRel.reclaim
 r) (1 : Int) (1000 : Int) then (false) else (bif SRel.diff r == (0 : Int) then (bif SRel.num r == (0 : Int) then (bif SRel.den r == (0 : Int) then ((SRel.harm r == (0 : Int))) else
 (false)) else (false)) else (bif Aac (SRel.diff r) (1 : Int) (16383 : Int) then (bif Aac (SRel.den r) (1 : Int) (100 : Int) then (bif Aac (SRel.num r) (0 : Int) (SRel.den
 r) then ((Aac (SRel.harm r) (0 : Int) (100 : Int))) else (false)) else (false)) else (false)))))))
theorem ev82 (r : SRel) : Aai Tryz.prog oW3 na 5 Tryz.f137 (Aad Tryz.f137) [aRel r] [] = some (.leaf (vB (AbY r), [])) := by
 rw [ev82_t]
 unfold AbY
 simp only [Aeh]
theorem ev83_t (r : SRel) : Aai Tryz.prog oZo na 5 Tryz.f138 (Aad Tryz.f138) [aRel r] [] =
 (bif r.scheme == 1 then (bif r.zon0 then (bif r.zfw0 then (bif r.zon1 then leB r.zfw1 else leB false) else leB false) else leB false) else (bif r.scheme == 2 then (bif r.zon1 then
 leB r.zfw1 else leB false) else (bif r.scheme == 3 then (bif r.zon1 then (bif r.zfw1 then (bif r.zon2 then leB !r.zfw2 else leB false) else leB false) else leB false) else leB
 true))) := by kernel_rfl
noncomputable def Ack (r : SRel) : Bool :=
 (bif SRel.scheme r == (1 : Int) then (bif SRel.zon0 r then (bif SRel.zfw0 r then (bif SRel.zon1 r then ((SRel.zfw1 r)) else (false)) else (false)) else (false)) else (bif
 SRel.scheme r == (2 : Int) then (bif SRel.zon1 r then ((SRel.zfw1 r)) else (false)) else (bif SRel.scheme r == (3 : Int) then (bif SRel.zon1 r then (bif SRel.zfw1 r then (bif
 SRel.zon2 r then (!SRel.zfw2 r) else (false)) else (false)) else (false)) else (true))))
theorem ev83 (r : SRel) : Aai Tryz.prog oZo na 5 Tryz.f138 (Aad Tryz.f138) [aRel r] [] = some (.leaf (vB (Ack r), [])) := by
 rw [ev83_t]
 unfold Ack
 simp only [Aeh]
end Go.Proofs.YtbpndheehcbldaaGreatDoor.se
namespace Go.Proofs.YtbpndheehcbldaaGreatDoor.se
open Go.RowKit Go.Eb Go.Proofs.YtbpndheehcbldaaGreatDoor.st
theorem sWi : OrcS Tryz.prog oWi := .cons (.inl .nil Tryz.func189 (by kernel_rfl)) .nil
theorem cWi (a : Int × Int × Int) : CX Tryz.prog 189 [vI a.1, vI a.2.1, vI a.2.2] [] (vB (Aac a.1 a.2.1 a.2.2)) [] := by
 refine Aau (Orc.nil_ok _) Tryz.func189 (by kernel_rfl) rfl ((evWi a.1 a.2.1 a.2.2).trans ?_)
 unfold evWi_v Aac
 cases decide (a.1 ≥ a.2.1) <;> rfl
theorem sW3 : OrcS Tryz.prog oW3 := .cons (.p dec3_ok cWi) .nil
theorem cEl (a : Bool × Int × Int × Int) : CX Tryz.prog 190 [.agg [.d (dB a.1), .d (dI a.2.1), .d (dI a.2.2.1)], vI a.2.2.2] [] (vB (elOk a.1 a.2.1 a.2.2.1 a.2.2.2)) [] := by
 refine Aau sW3.ok Tryz.func190 (by kernel_rfl) rfl ((evEl a.1 a.2.1 a.2.2.1 a.2.2.2).trans ?_)
 unfold evEl_v elOk
 cases a.1 <;> cases (a.2.1 == 0) <;> cases (a.2.2.1 == 0) <;> cases Aac a.2.1 1 16383 <;> rfl
theorem sE3 : OrcS Tryz.prog oE3 := .cons (.p decE_ok cEl) sW3
theorem sZo : OrcS Tryz.prog oZo := .cons (.inl sW3 Tryz.func191 (by kernel_rfl)) sW3
theorem c78 (r : SRel) : CX Tryz.prog 133 [aRel r] [] (vB (AdX r)) [] := Aau sW3.ok Tryz.func133 (by kernel_rfl) rfl (ev78 r)
theorem c79 (r : SRel) : CX Tryz.prog 134 [aRel r] [] (vB (AbC r)) [] := Aau sW3.ok Tryz.func134 (by kernel_rfl) rfl (ev79 r)
theorem c80 (r : SRel) : CX Tryz.prog 135 [aRel r] [] (vB (Aca r)) [] := Aau sW3.ok Tryz.func135 (by kernel_rfl) rfl (ev80 r)
theorem c81 (r : SRel) : CX Tryz.prog 136 [aRel r] [] (vB (AbZ r)) [] := Aau sE3.ok Tryz.func136 (by kernel_rfl) rfl (ev81 r)
theorem c82 (r : SRel) : CX Tryz.prog 137 [aRel r] [] (vB (AbY r)) [] := Aau sW3.ok Tryz.func137 (by kernel_rfl) rfl (ev82 r)
theorem c83 (r : SRel) : CX Tryz.prog 138 [aRel r] [] (vB (Ack r)) [] := Aau sZo.ok Tryz.func138 (by kernel_rfl) rfl (ev83 r)
def enRu (l : List SRule) : List AV := [.agg [.d (dF 194), .d (dF 196), .d (dF 197)], .c (.d (AgR l))]
def enSe (l : List SSet) : List AV := [.agg [.d (dF 198), .d (dF 200), .d dNF], .c (.d (AfH l))]
def enPu (l : List SPub) : List AV := [.agg [.d (dF 201), .d (dF 202), .d (dF 203)], .c (.d (pubsD l))]
def enSu (l : List SSub) : List AV := [.agg [.d (dF 204), .d (dF 205), .d dNF], .c (.d (subsD l))]
theorem enRu_inj : InjT enRu := fun a b h => Aax Afc _ _ (AfC (Aaj (Aaj h).2).1)
theorem enSe_inj : InjT enSe := fun a b h => Aax Aem _ _ (AfC (Aaj (Aaj h).2).1)
theorem enPu_inj : InjT enPu := fun a b h => Aax Afe _ _ (AfC (Aaj (Aaj h).2).1)
theorem enSu_inj : InjT enSu := fun a b h => Aax Adm _ _ (AfC (Aaj (Aaj h).2).1)
noncomputable def Acr (l : List SRule) : Int := AbI AeC SRule.name (fun x => AcR x.text) [] l
def Ahs (l : List SSet) : Int := AbI setOk SSet.name rest0 [] l
noncomputable def Ahu (l : List SPub) : Int := AbI pubOk SPub.set Acp [] l
def eSubs (l : List SSub) : Int := AbI subOk SSub.loc rest0 [] l
def cSe (l : List SSet) : Bool := Aaq l && l.all Afg
noncomputable def AdB (r : SRel) : Int := bif Acr r.rules != 0 then Acr r.rules else bif Ahs r.sets != 0 then Ahs r.sets else bif Ahu r.pubs != 0 then Ahu r.pubs else eSubs r.subs
theorem s85 : OrcS Tryz.prog (o85 (okG enRu Aaq) (okG enSe cSe) (okG enPu Aaq) (okG enSu Aaq) (fun x => Acr (theT enRu x)) (fun x => Ahs (theT enSe x)) (fun x => Ahu (theT enPu x)) fun x => eSubs (theT enSu x)) := by
 refine .cons (.t' (r := fun a => vI (Acr a)) fun a h => c126 a h) (.cons (.t' (r := fun a => vI (Ahs a)) fun a h => ?_) (.cons (.t' (r := fun a => vI (Ahu a)) fun a h => c128 a h) (.cons (.t' (r := fun a => vI (eSubs a)) fun a h => c129 a h) .nil)))
 unfold cSe at h
 simp only [Bool.and_eq_true] at h
 exact c127 a h.1 h.2
theorem c85 (r : SRel) (hr : Abk r = true) : CX Tryz.prog 140 [aRel r] [] (vI (AdB r)) [] := by
 refine Aau s85.ok Tryz.func140 b85 rfl ((ev85 _ _ _ _ _ _ _ _ r 1).trans ?_)
 unfold Abk at hr
 simp only [Bool.and_eq_true] at hr
 obtain ⟨h1, h2, h3, h4, h5⟩ := hr
 have k1 := Aam enRu_inj (c := Aaq) r.rules h1
 have k2 := Aam enSe_inj (c := cSe) r.sets (by unfold cSe; rw [h2, h5]; rfl)
 have k3 := Aam enPu_inj (c := Aaq) r.pubs h3
 have k4 := Aam enSu_inj (c := Aaq) r.subs h4
 have t1 := Aah enRu_inj r.rules
 have t2 := Aah enSe_inj r.sets
 have t3 := Aah enPu_inj r.pubs
 have t4 := Aah enSu_inj r.subs
 unfold enRu at k1 t1
 unfold enSe at k2 t2
 unfold enPu at k3 t3
 unfold enSu at k4 t4
 unfold enRu enSe enPu enSu
 rw [k1, t1, k2, t2, k3, t3, k4, t4]
 unfold AdB
 simp only [cond_true]
 cases (Acr r.rules != 0) <;> cases (Ahs r.sets != 0) <;> cases (Ahu r.pubs != 0) <;> rfl
def AdM (x : SSet) : Bool := !(decide (1 ≤ x.sigs.length) && decide (x.sigs.length ≤ 24))
theorem s113 : OrcS Tryz.prog o113 := .cons (.inl sWi Tryz.func192 (by kernel_rfl)) .nil
theorem c141 (l : List SSet) (hl : Aaq l = true) : CX Tryz.prog 46 [.c (.d (AfH l)), .c (.d (dF 192))] [] (vI (idxP AdM 0 l)) [] := by
 obtain ⟨g, hg⟩ : ∃ g, l.length < g := ⟨l.length + 1, by omega⟩
 refine Aau s113.ok Tryz.func46 b141 rfl ((ev141 l g).trans ?_)
 have := Afr (p := AdM) (l := l) (d0 := set0) (L := fun m i => L141_2 l g m i) (fun m k hk => by
  have e1 : ∀ n : Nat, decide ((n : Int) ≥ 1) = decide (1 ≤ n) := fun n => by rw [Bool.eq_iff_iff, decide_eq_true_eq, decide_eq_true_eq]; omega
  have e2 : ∀ n : Nat, decide ((n : Int) ≤ 24) = decide (n ≤ 24) := fun n => by rw [Bool.eq_iff_iff, decide_eq_true_eq, decide_eq_true_eq]; omega
  rw [st141_2, lt1 hk, ge0, tn, nx hk (AaF hl), e1, e2]
  unfold AdM
  simp only [tt, cond_true]
  cases decide (1 ≤ (l.getD k set0).sigs.length) <;> cases decide ((l.getD k set0).sigs.length ≤ 24) <;> rfl) (fun m => by rw [st141_2, lt0 (Nat.lt_irrefl _)]; rfl) g 0 (by omega) (by omega)
 exact this
abbrev eCt := en2 (aD AfH) (eFn 192)
theorem eCt_inj : InjT eCt := Ahr (aD_inj (Aax (sz := 2) (d0 := set0) Aem)) (eFn_inj _)
def AaQ (r : SRel) : Bool := decide (r.rules.length ≤ 16) && (decide (r.sets.length ≤ 4) && (decide (r.pubs.length ≤ 4) && (decide (r.subs.length ≤ 24) && !r.sets.any AdM)))
theorem c84 (r : SRel) (hr : Abk r = true) : CX Tryz.prog 139 [aRel r] [] (vB (AaQ r)) [] := by
 have hs : OrcS Tryz.prog (o84 (okG eCt cLen) fun x => idxP AdM 0 (theT eCt x).1) := .cons (.inl (.cons (.t' (r := fun (a : List SSet × Unit) => vI (idxP AdM 0 a.1)) fun a h => c141 a.1 h) .nil) Tryz.func193 (by kernel_rfl)) .nil
 refine Aau hs.ok Tryz.func139 b84 rfl ((ev84 _ _ r 1).trans ?_)
 unfold Abk at hr
 simp only [Bool.and_eq_true] at hr
 have k := Aam eCt_inj (c := cLen) (r.sets, ()) hr.2.1
 have t := Aah eCt_inj (r.sets, ())
 simp only [en2, aD, eFn] at k t
 rw [k, t, Ahk]
 have e1 : ∀ n : Nat, decide ((n : Int) ≤ 16) = decide (n ≤ 16) := fun n => by rw [Bool.eq_iff_iff, decide_eq_true_eq, decide_eq_true_eq]; omega
 have e2 : ∀ n : Nat, decide ((n : Int) ≤ 4) = decide (n ≤ 4) := fun n => by rw [Bool.eq_iff_iff, decide_eq_true_eq, decide_eq_true_eq]; omega
 have e3 : ∀ n : Nat, decide ((n : Int) ≤ 24) = decide (n ≤ 24) := fun n => by rw [Bool.eq_iff_iff, decide_eq_true_eq, decide_eq_true_eq]; omega
 unfold AaQ
 simp only [e1, e2, e3]
 cases decide (r.rules.length ≤ 16) <;> cases decide (r.sets.length ≤ 4) <;> cases decide (r.pubs.length ≤ 4) <;> cases decide (r.subs.length ≤ 24) <;> rfl
end Go.Proofs.YtbpndheehcbldaaGreatDoor.se
namespace Go.Proofs.YtbpndheehcbldaaGreatDoor.se
open Go.RowKit Go.Eb Go.Proofs.YtbpndheehcbldaaGreatDoor.st
noncomputable def ann28 : Ann := AaE [(3, ⟨[3, 18, 1, 19, 20], []⟩), (8, ⟨[3, 31, 1, 32, 33], []⟩), (13, ⟨[3, 45, 1, 46, 47], []⟩), (18, ⟨[3, 59, 60, 61], []⟩)]
noncomputable def L28_3 (s : SSta) (g m : Nat) (l2 : List (Value × Value)) (l3 : List (Value × Value)) (i20 : Int) := LK Tryz.prog Orc.nil ann28 0 g Tryz.f75 3 m ⟨frm [(1, .c (.ptr 0 0)), (3, .c (.ptr 1 0)), (18, .c (.d (Aab 1 busC e0 (SSta.buses s)))), (19, .c (.d (.v (.int .i64 (↑(List.length (SSta.buses s)) : Int))))), (20, .c (.d (.v (.int .i64 i20))))] 0 Tryz.f75.ntmps, [(0, Blk.cells (List.map C.d (staC s)) 27), (1, Blk.cells [.d (.v (.string (SSta.name s))), C.d (Aab 1 busC e0 (SSta.buses s)), C.d (Aab 5 Aap Aaf (SSta.lines s)), C.d (Aab 6 Aao src0 (SSta.srcs s)), C.d (Aab 12 bayC bay0 (SSta.bays s)), C.mp 2, C.mp 3] 229), (2, Blk.map 0 l2), (3, Blk.map 2 l3)], 4⟩
noncomputable def L28_8 (s : SSta) (g m : Nat) (l2 : List (Value × Value)) (l3 : List (Value × Value)) (i33 : Int) := LK Tryz.prog Orc.nil ann28 0 g Tryz.f75 8 m ⟨frm [(1, .c (.ptr 0 0)), (3, .c (.ptr 1 0)), (31, .c (.d (Aab 5 Aap Aaf (SSta.lines s)))), (32, .c (.d (.v (.int .i64 (↑(List.length (SSta.lines s)) : Int))))), (33, .c (.d (.v (.int .i64 i33))))] 0 Tryz.f75.ntmps, [(0, Blk.cells (List.map C.d (staC s)) 27), (1, Blk.cells [.d (.v (.string (SSta.name s))), C.d (Aab 1 busC e0 (SSta.buses s)), C.d (Aab 5 Aap Aaf (SSta.lines s)), C.d (Aab 6 Aao src0 (SSta.srcs s)), C.d (Aab 12 bayC bay0 (SSta.bays s)), C.mp 2, C.mp 3] 229), (2, Blk.map 0 l2), (3, Blk.map 2 l3)], 4⟩
noncomputable def L28_13 (s : SSta) (g m : Nat) (l2 : List (Value × Value)) (l3 : List (Value × Value)) (i47 : Int) := LK Tryz.prog Orc.nil ann28 0 g Tryz.f75 13 m ⟨frm [(1, .c (.ptr 0 0)), (3, .c (.ptr 1 0)), (45, .c (.d (Aab 6 Aao src0 (SSta.srcs s)))), (46, .c (.d (.v (.int .i64 (↑(List.length (SSta.srcs s)) : Int))))), (47, .c (.d (.v (.int .i64 i47))))] 0 Tryz.f75.ntmps, [(0, Blk.cells (List.map C.d (staC s)) 27), (1, Blk.cells [.d (.v (.string (SSta.name s))), C.d (Aab 1 busC e0 (SSta.buses s)), C.d (Aab 5 Aap Aaf (SSta.lines s)), C.d (Aab 6 Aao src0 (SSta.srcs s)), C.d (Aab 12 bayC bay0 (SSta.bays s)), C.mp 2, C.mp 3] 229), (2, Blk.map 0 l2), (3, Blk.map 2 l3)], 4⟩
noncomputable def L28_18 (s : SSta) (g m : Nat) (l1 : List (Value × Value)) (l2 : List (Value × Value)) (i61 : Int) := LK Tryz.prog Orc.nil ann28 0 g Tryz.f75 18 m ⟨frm [(3, .c (.ptr 0 0)), (59, .c (.d (Aab 12 bayC bay0 (SSta.bays s)))), (60, .c (.d (.v (.int .i64 (↑(List.length (SSta.bays s)) : Int))))), (61, .c (.d (.v (.int .i64 i61))))] 0 Tryz.f75.ntmps, [(0, Blk.cells [.d (.v (.string (SSta.name s))), C.d (Aab 1 busC e0 (SSta.buses s)), C.d (Aab 5 Aap Aaf (SSta.lines s)), C.d (Aab 6 Aao src0 (SSta.srcs s)), C.d (Aab 12 bayC bay0 (SSta.bays s)), C.mp 1, C.mp 2] 229), (1, Blk.map 0 l1), (2, Blk.map 2 l2)], 3⟩
theorem b28 : Tryz.f75.body = some (Aad Tryz.f75) := by kernel_rfl
theorem ev28 (s : SSta) (g : Nat) : Aai Tryz.prog Orc.nil ann28 g Tryz.f75 (Aad Tryz.f75) [aSta s] [] =
 L28_3 s g g ([]) ([]) 0 := by kernel_rfl
theorem st28_3 (s : SSta) (g m : Nat) (l2 : List (Value × Value)) (l3 : List (Value × Value)) (i20 : Int) : L28_3 s g (m + 1) l2 l3 i20 =
 (bif decide (i20 < (↑s.buses.length : Int)) then (bif decide (0 ≤ i20) && decide (i20 < (↑s.buses.length : Int)) then L28_3 s g m ((Value.string (s.buses.getD i20.toNat e0),
 Value.bool true) :: l2) l3 (IntKind.wrap .i64 (i20 + 1)) else none) else L28_8 s g g l2 l3 0) := by kernel_rfl
theorem st28_8 (s : SSta) (g m : Nat) (l2 : List (Value × Value)) (l3 : List (Value × Value)) (i33 : Int) : L28_8 s g (m + 1) l2 l3 i33 =
 (bif decide (i33 < (↑s.lines.length : Int)) then (bif decide (0 ≤ i33) && decide (i33 < (↑s.lines.length : Int)) then L28_8 s g m ((Value.string (SLine.name (s.lines.getD i33.toNat
 Aaf)), Value.bool true) :: l2) l3 (IntKind.wrap .i64 (i33 + 1)) else none) else L28_13 s g g l2 l3 0) := by kernel_rfl
theorem st28_13 (s : SSta) (g m : Nat) (l2 : List (Value × Value)) (l3 : List (Value × Value)) (i47 : Int) : L28_13 s g (m + 1) l2 l3 i47 =
 (bif decide (i47 < (↑s.srcs.length : Int)) then (bif decide (0 ≤ i47) && decide (i47 < (↑s.srcs.length : Int)) then L28_13 s g m ((Value.string (SSrc.name (s.srcs.getD i47.toNat
 src0)), Value.bool true) :: l2) l3 (IntKind.wrap .i64 (i47 + 1)) else none) else L28_18 s g g l2 l3 0) := by kernel_rfl
theorem st28_18 (s : SSta) (g m : Nat) (l1 : List (Value × Value)) (l2 : List (Value × Value)) (i61 : Int) : L28_18 s g (m + 1) l1 l2 i61 =
 (bif decide (i61 < (↑s.bays.length : Int)) then (bif decide (0 ≤ i61) && decide (i61 < (↑s.bays.length : Int)) then L28_18 s g m ((Value.string (SBay.name (s.bays.getD i61.toNat
 bay0)), Value.bool true) :: l1) l2 (IntKind.wrap .i64 (i61 + 1)) else none) else some (T.leaf (AV.c (C.ptr ((0 : Nat)) (0)), [(0, Blk.cells [C.d (.v (.string s.name)), C.d (Aab (1)
 busC e0 s.buses), C.d (Aab (5) Aap Aaf s.lines), C.d (Aab (6) Aao src0 s.srcs), C.d (Aab (12) bayC bay0 s.bays), C.mp (1), C.mp (2)] (229)), (1, Blk.map ((0 : Nat)) l1), (2,
 Blk.map (2) l2)]))) := by kernel_rfl
def HC (s : SSta) (N B : List (Value × Value)) : Hp := [(0, .cells ((staC s).map .d ++ [.mp 1, .mp 2]) 229), (1, .map 0 N), (2, .map 2 B)]
noncomputable def ann77 : Ann := AaE []
theorem b77 : Tryz.f132.body = some (Aad Tryz.f132) := by kernel_rfl
theorem ev77 (s : SSta) (N B : List (Value × Value)) (r : SRel) (g : Nat) : Aai Tryz.prog (Orc.cons 189 (inl Tryz.prog Orc.nil na 1 Tryz.f189) Orc.nil) ann77 g Tryz.f132 (Aad Tryz.f132) [.c (.ptr 0 0), aRel r] (HC s N B) =
 (bif r.kind == 1 then (bif decide (r.bay ≥ 0) then (bif !decide (r.bay ≤ IntKind.wrap .i64 ((↑s.bays.length : Int) - 1)) then some (T.leaf (AV.c (.d (.v (.int .i64 9))), [(0,
 Blk.cells [C.d (.v (.string s.name)), C.d (Aab (1) busC e0 s.buses), C.d (Aab (5) Aap Aaf s.lines), C.d (Aab (6) Aao src0 s.srcs), C.d (Aab (12) bayC bay0 s.bays), C.mp (1), C.mp
 (2)] (229)), (1, Blk.map (0) N), (2, Blk.map (2) B)])) else (bif decide (0 ≤ r.bay) && decide (r.bay < (↑s.bays.length : Int)) then (bif SBay.kind (s.bays.getD (Int.toNat r.bay)
 bay0) != 1 then some (T.leaf (AV.c (C.d (D.v (Value.int IntKind.i64 9))), [(0, Blk.cells [C.d (.v (.string s.name)), C.d (Aab (1) busC e0 s.buses), C.d (Aab (5) Aap Aaf s.lines),
 C.d (Aab (6) Aao src0 s.srcs), C.d (Aab (12) bayC bay0 s.bays), C.mp (1), C.mp (2)] (229)), (1, Blk.map (0) N), (2, Blk.map (2) B)])) else (bif Abf (Aaz B (Value.int IntKind.i64
 r.bay)) then some (T.leaf (AV.c (C.d (D.v (Value.int IntKind.i64 12))), [(0, Blk.cells [C.d (.v (.string s.name)), C.d (Aab (1) busC e0 s.buses), C.d (Aab (5) Aap Aaf s.lines), C.d
 (Aab (6) Aao src0 s.srcs), C.d (Aab (12) bayC bay0 s.bays), C.mp (1), C.mp (2)] (229)), (1, Blk.map (0) N), (2, Blk.map (2) B)])) else some (T.leaf (AV.c (.d (.v (.int .i64 0))),
 [(0, Blk.cells [C.d (D.v (Value.string s.name)), C.d (Aab (1) busC e0 s.buses), C.d (Aab (5) Aap Aaf s.lines), C.d (Aab (6) Aao src0 s.srcs), C.d (Aab (12) bayC bay0 s.bays), C.mp
 (1), C.mp (2)] (229)), (1, Blk.map (0) N), (2, Blk.map (2) B)])))) else none)) else some (T.leaf (AV.c (.d (.v (.int .i64 9))), [(0, Blk.cells [C.d (.v (.string s.name)), C.d (Aab
 (1) busC e0 s.buses), C.d (Aab (5) Aap Aaf s.lines), C.d (Aab (6) Aao src0 s.srcs), C.d (Aab (12) bayC bay0 s.bays), C.mp (1), C.mp (2)] (229)), (1, Blk.map (0) N), (2, Blk.map (2)
 B)]))) else (bif r.kind == 2 then (bif decide (r.bay ≥ 0) then (bif !decide (r.bay ≤ IntKind.wrap .i64 ((↑s.bays.length : Int) - 1)) then some (T.leaf (AV.c (.d (.v (.int .i64
 9))), [(0, Blk.cells [C.d (.v (.string s.name)), C.d (Aab (1) busC e0 s.buses), C.d (Aab (5) Aap Aaf s.lines), C.d (Aab ((6 : Nat)) Aao src0 s.srcs), C.d (Aab (12) bayC bay0
 s.bays), C.mp (1), C.mp (2)] (229)), (1, Blk.map (0) N), ((2 : Nat), Blk.map (2) B)])) else (bif decide (0 ≤ r.bay) && decide (r.bay < (↑s.bays.length : Int)) then (bif SBay.kind
 (s.bays.getD (Int.toNat r.bay) bay0) != 2 then some (T.leaf (AV.c (.d (.v (.int .i64 9))), [(0, Blk.cells [C.d (.v (.string s.name)), C.d (Aab (1) busC e0 s.buses), C.d (Aab (5)
 Aap Aaf s.lines), C.d (Aab (6) Aao src0 s.srcs), C.d (Aab (12) bayC bay0 s.bays), C.mp (1), C.mp (2)] (229)), (1, Blk.map (0) N), (2, Blk.map (2) B)])) else (bif Abf (Aaz B
 (Value.int IntKind.i64 r.bay)) then some (T.leaf (AV.c (.d (.v (.int .i64 12))), [(0, Blk.cells [C.d (.v (.string s.name)), C.d (Aab (1) busC e0 s.buses), C.d (Aab (5) Aap Aaf
 s.lines), C.d (Aab (6) Aao src0 s.srcs), C.d (Aab (12) bayC bay0 s.bays), C.mp (1), C.mp (2)] (229)), (1, Blk.map (0) N), (2, Blk.map (2) B)])) else some (T.leaf (AV.c (C.d (D.v
 (Value.int IntKind.i64 0))), [(0, Blk.cells [C.d (.v (.string s.name)), C.d (Aab (1) busC e0 s.buses), C.d (Aab (5) Aap Aaf s.lines), C.d (Aab (6) Aao src0 s.srcs), C.d (Aab (12)
 bayC bay0 s.bays), C.mp (1), C.mp (2)] (229)), ((1 : Nat), Blk.map (0) N), (2, Blk.map (2) B)])))) else none)) else some (T.leaf (AV.c (.d (.v (.int .i64 9))), [(0, Blk.cells [C.d
 (D.v (.string s.name)), C.d (Aab (1) busC e0 s.buses), C.d (Aab (5) Aap Aaf s.lines), C.d (Aab (6) Aao src0 s.srcs), C.d (Aab (12) bayC bay0 s.bays), C.mp (1), C.mp (2)] (229)),
 (1, Blk.map (0) N), (2, Blk.map (2) B)]))) else (bif r.kind == 3 then (bif decide (r.bay ≥ 0) then (bif !decide (r.bay ≤ IntKind.wrap .i64 ((↑s.bays.length : Int) - 1)) then some
 (T.leaf (AV.c (.d (.v (.int .i64 9))), [(0, Blk.cells [C.d (.v (.string s.name)), C.d (Aab (1) busC e0 s.buses), C.d (Aab (5) Aap Aaf s.lines), C.d (Aab (6) Aao src0 s.srcs), C.d
 (Aab (12) bayC bay0 s.bays), C.mp ((1 : Nat)), C.mp (2)] (229)), (1, Blk.map (0) N), (2, Blk.map (2) B)])) else (bif decide (0 ≤ r.bay) && decide (r.bay < (↑s.bays.length : Int))
 then (bif SBay.kind (s.bays.getD (Int.toNat r.bay) bay0) != 3 then some (T.leaf (AV.c (C.d (D.v (Value.int IntKind.i64 9))), [(0, Blk.cells [C.d (.v (.string s.name)), C.d (Aab (1)
 busC e0 s.buses), C.d (Aab (5) Aap Aaf s.lines), C.d (Aab (6) Aao src0 s.srcs), C.d (Aab (12) bayC bay0 s.bays), C.mp (1), C.mp (2)] (229)), (1, Blk.map (0) N), (2, Blk.map (2)
 B)])) else (bif Abf (Aaz B (Value.int IntKind.i64 r.bay)) then some (T.leaf (AV.c (C.d (D.v (Value.int IntKind.i64 12))), [(0, Blk.cells [C.d (.v (.string s.name)), C.d (Aab (1)
 busC e0 s.buses), C.d (Aab (5) Aap Aaf s.lines), C.d (Aab (6) Aao src0 s.srcs), C.d (Aab (12) bayC bay0 s.bays), C.mp (1), C.mp (2)] (229)), (1, Blk.map (0) N), (2, Blk.map (2)
 B)])) else some (T.leaf (AV.c (.d (.v (.int .i64 0))), [(0, Blk.cells [C.d (D.v (Value.string s.name)), C.d (Aab (1) busC e0 s.buses), C.d (Aab (5) Aap Aaf s.lines), C.d (Aab (6)
 Aao src0 s.srcs), C.d (Aab (12) bayC bay0 s.bays), C.mp (1), C.mp (2)] (229)), (1, Blk.map (0) N), (2, Blk.map (2) B)])))) else none)) else some (T.leaf (AV.c (.d (.v (.int .i64
 9))), [(0, Blk.cells [C.d (.v (.string s.name)), C.d (Aab (1) busC e0 s.buses), C.d (Aab (5) Aap Aaf s.lines), C.d (Aab (6) Aao src0 s.srcs), C.d (Aab (12) bayC bay0 s.bays), C.mp
 (1), C.mp (2)] (229)), (1, Blk.map (0) N), (2, Blk.map (2) B)]))) else (bif r.kind == 4 then (bif r.bay != (-1) then some (T.leaf (AV.c (.d (.v (.int .i64 9))), [(0, Blk.cells [C.d
 (.v (.string s.name)), C.d (Aab (1) busC e0 s.buses), C.d (Aab (5) Aap Aaf s.lines), C.d (Aab (6) Aao src0 s.srcs), C.d (Aab (12) bayC bay0 s.bays), C.mp (1), C.mp ((2 : Nat))]
 (229)), (1, Blk.map (0) N), (2, Blk.map (2) B)])) else (bif Abf (Aaz B (Value.int IntKind.i64 r.bay)) then some (T.leaf (AV.c (.d (.v (.int .i64 12))), [(0, Blk.cells [C.d (.v
 (.string s.name)), C.d (Aab (1) busC e0 s.buses), C.d (Aab ((5 : Nat)) Aap Aaf s.lines), C.d (Aab (6) Aao src0 s.srcs), C.d (Aab (12) bayC bay0 s.bays), C.mp (1), C.mp (2)] ((229 :
 Nat))), (1, Blk.map (0) N), (2, Blk.map (2) B)])) else some (T.leaf (AV.c (.d (.v (.int .i64 0))), [(0, Blk.cells [C.d (D.v (.string s.name)), C.d (Aab (1) busC e0 s.buses), C.d
 (Aab (5) Aap Aaf s.lines), C.d (Aab (6) Aao src0 s.srcs), C.d (Aab (12) bayC bay0 s.bays), C.mp (1), C.mp (2)] (229)), (1, Blk.map (0) N), (2, Blk.map (2) B)])))) else some (T.leaf
 (AV.c (.d (.v (.int .i64 10))), [(0, Blk.cells [C.d (.v (.string s.name)), C.d (Aab (1) busC e0 s.buses), C.d (Aab (5) Aap Aaf s.lines), C.d (Aab (6) Aao src0 s.srcs), C.d (Aab
 (12) bayC bay0 s.bays), C.mp ((1 : Nat)), C.mp (2)] (229)), (1, Blk.map (0) N), (2, Blk.map (2) B)])))))) := by kernel_rfl
structure K32 where
 okr : List AV → Bool
 us : List AV → Bool
 di : List AV → Bool
 sc : List AV → Bool
 el : List AV → Bool
 ot : List AV → Bool
 zo : List AV → Bool
 ct : List AV → Bool
 ls : List AV → Int
 okp : List AV → Hp → Bool
 pl : List AV → Hp → Int
noncomputable def o32 (Z : K32) (s : SSta) (N B : List (Value × Value)) : Orc := oN Aae (Orc.cons 132 (ansM Z.okp (fun x H => vI (Z.pl x H)) fun _ _ => HC s N B) (Orc.cons 133 (ansG Z.okr fun x => vB (Z.us x)) (Orc.cons 134 (ansG Z.okr fun x => vB (Z.di x)) (Orc.cons 135 (ansG Z.okr fun x => vB (Z.sc x)) (Orc.cons 136 (ansG Z.okr fun x => vB (Z.el x))
 (Orc.cons 137 (ansG Z.okr fun x => vB (Z.ot x)) (Orc.cons 138 (ansG Z.okr fun x => vB (Z.zo x)) (Orc.cons 139 (ansG Z.okr fun x => vB (Z.ct x)) (Orc.cons 140 (ansG Z.okr fun x => vI (Z.ls x)) Orc.nil)))))))))
noncomputable def ann32 : Ann := AaE []
theorem b32 : Tryz.f76.body = some (Aad Tryz.f76) := by kernel_rfl
theorem ev32 (Z : K32) (s : SSta) (N B : List (Value × Value)) (r : SRel) (g : Nat) : Aai Tryz.prog (o32 Z s N B) ann32 g Tryz.f76 (Aad Tryz.f76) [.c (.ptr 0 0), aRel r] (HC s N B) =
 (bif !Aae r.name then some (T.leaf (AV.c (.d (.v (.int .i64 7))), [(0, Blk.cells [C.d (.v (.string s.name)), C.d (Aab ((1 : Nat)) busC e0 s.buses), C.d (Aab (5) Aap Aaf s.lines),
 C.d (Aab (6) Aao src0 s.srcs), C.d (Aab (12) bayC bay0 s.bays), C.mp (1), C.mp (2)] (229)), (1, Blk.map (0) N), (2, Blk.map (2) B)])) else (bif Abf (Aaz N (Value.string r.name))
 then some (T.leaf (AV.c (.d (.v (.int .i64 8))), [(0, Blk.cells [C.d (.v (.string s.name)), C.d (Aab (1) busC e0 s.buses), C.d (Aab (5) Aap Aaf s.lines), C.d (Aab (6) Aao src0
 s.srcs), C.d (Aab (12) bayC bay0 s.bays), C.mp ((1 : Nat)), C.mp (2)] (229)), (1, Blk.map (0) N), (2, Blk.map (2) B)])) else (bif K32.okp Z [AV.c (C.ptr (0) (0)), AV.agg (List.map
 C.d (relC r))] [(0, Blk.cells [C.d (.v (.string s.name)), C.d (Aab (1) busC e0 s.buses), C.d (Aab (5) Aap Aaf s.lines), C.d (Aab (6) Aao src0 s.srcs), C.d (Aab (12) bayC bay0
 s.bays), C.mp (1), C.mp (2)] (229)), (1, Blk.map (0) N), (2, Blk.map (2) B)] then (bif K32.pl Z [AV.c (C.ptr (0) (0)), AV.agg (List.map C.d (relC r))] [(0, Blk.cells [C.d (D.v
 (.string s.name)), C.d (Aab (1) busC e0 s.buses), C.d (Aab (5) Aap Aaf s.lines), C.d (Aab (6) Aao src0 s.srcs), C.d (Aab (12) bayC bay0 s.bays), C.mp (1), C.mp (2)] (229)), (1,
 Blk.map (0) N), (2, Blk.map (2) B)] != 0 then some (T.leaf (AV.c (.d (.v (.int .i64 (K32.pl Z [AV.c (C.ptr (0) (0)), AV.agg (List.map C.d (relC r))] [(0, Blk.cells [C.d (D.v
 (Value.string s.name)), C.d (Aab (1) busC e0 s.buses), C.d (Aab (5) Aap Aaf s.lines), C.d (Aab (6) Aao src0 s.srcs), C.d (Aab (12) bayC bay0 s.bays), C.mp (1), C.mp (2)] (229)),
 (1, Blk.map (0) N), (2, Blk.map (2) B)])))), [(0, Blk.cells [C.d (.v (.string s.name)), C.d (Aab (1) busC e0 s.buses), C.d (Aab (5) Aap Aaf s.lines), C.d (Aab ((6 : Nat)) Aao src0
 s.srcs), C.d (Aab (12) bayC bay0 s.bays), C.mp (1), C.mp (2)] (229)), (1, Blk.map (0) N), ((2 : Nat), Blk.map (2) B)])) else (bif K32.okr Z [AV.agg (List.map C.d (relC r))] then
 (bif !K32.us Z [AV.agg (List.map C.d (relC r))] then some (T.leaf (AV.c (C.d (D.v (Value.int IntKind.i64 12))), [(0, Blk.cells [C.d (.v (.string s.name)), C.d (Aab (1) busC e0
 s.buses), C.d (Aab (5) Aap Aaf s.lines), C.d (Aab (6) Aao src0 s.srcs), C.d (Aab (12) bayC bay0 s.bays), C.mp (1), C.mp (2)] (229)), ((1 : Nat), Blk.map (0) N), (2, Blk.map (2)
 B)])) else (bif K32.okr Z [AV.agg (List.map C.d (relC r))] then (bif !K32.di Z [AV.agg (List.map C.d (relC r))] then some (T.leaf (AV.c (.d (.v (.int .i64 2))), [(0, Blk.cells [C.d
 (.v (.string s.name)), C.d (Aab (1) busC e0 s.buses), C.d (Aab (5) Aap Aaf s.lines), C.d (Aab (6) Aao src0 s.srcs), C.d (Aab (12) bayC bay0 s.bays), C.mp (1), C.mp ((2 : Nat))]
 (229)), (1, Blk.map (0) N), (2, Blk.map (2) B)])) else (bif K32.okr Z [AV.agg (List.map C.d (relC r))] then (bif !K32.sc Z [AV.agg (List.map C.d (relC r))] then some (T.leaf (AV.c
 (.d (.v (.int .i64 2))), [(0, Blk.cells [C.d (.v (.string s.name)), C.d (Aab ((1 : Nat)) busC e0 s.buses), C.d (Aab (5) Aap Aaf s.lines), C.d (Aab (6) Aao src0 s.srcs), C.d (Aab
 (12) bayC bay0 s.bays), C.mp (1), C.mp (2)] (229)), (1, Blk.map (0) N), (2, Blk.map (2) B)])) else (bif K32.okr Z [AV.agg (List.map C.d (relC r))] then (bif !K32.el Z [AV.agg
 (List.map C.d (relC r))] then some (T.leaf (AV.c (.d (.v (.int .i64 2))), [(0, Blk.cells [C.d (D.v (Value.string s.name)), C.d (Aab (1) busC e0 s.buses), C.d (Aab (5) Aap Aaf
 s.lines), C.d (Aab (6) Aao src0 s.srcs), C.d (Aab (12) bayC bay0 s.bays), C.mp (1), C.mp (2)] (229)), (1, Blk.map (0) N), (2, Blk.map (2) B)])) else (bif K32.okr Z [AV.agg
 (List.map C.d (relC r))] then (bif !K32.ot Z [AV.agg (List.map C.d (relC r))] then some (T.leaf (AV.c (.d (.v (.int .i64 2))), [(0, Blk.cells [C.d (.v (.string s.name)), C.d (Aab
 (1) busC e0 s.buses), C.d (Aab (5) Aap Aaf s.lines), C.d (Aab (6) Aao src0 s.srcs), C.d (Aab (12) bayC bay0 s.bays), C.mp (1), C.mp (2)] (229)), (1, Blk.map (0) N), (2, Blk.map (2)
 B)])) else (bif K32.okr Z [AV.agg (List.map C.d (relC r))] then (bif !K32.zo Z [AV.agg (List.map C.d (relC r))] then some (T.leaf (AV.c (C.d (D.v (Value.int IntKind.i64 11))), [(0,
 Blk.cells [C.d (.v (.string s.name)), C.d (Aab (1) busC e0 s.buses), C.d (Aab (5) Aap Aaf s.lines), C.d (Aab (6) Aao src0 s.srcs), C.d (Aab (12) bayC bay0 s.bays), C.mp (1), C.mp
 (2)] (229)), (1, Blk.map ((0 : Nat)) N), (2, Blk.map (2) B)])) else (bif K32.okr Z [AV.agg (List.map C.d (relC r))] then (bif !K32.ct Z [AV.agg (List.map C.d (relC r))] then some
 (T.leaf (AV.c (C.d (.v (.int .i64 3))), [(0, Blk.cells [C.d (.v (.string s.name)), C.d (Aab (1) busC e0 s.buses), C.d (Aab (5) Aap Aaf s.lines), C.d (Aab (6) Aao src0 s.srcs), C.d
 (Aab (12) bayC bay0 s.bays), C.mp (1), C.mp (2)] (229)), (1, Blk.map (0) N), (2, Blk.map (2) B)])) else (bif K32.okr Z [AV.agg (List.map C.d (relC r))] then (bif K32.ls Z [AV.agg
 (List.map C.d (relC r))] != 0 then some (T.leaf (AV.c (.d (.v (.int .i64 (K32.ls Z [AV.agg (List.map C.d (relC r))])))), [(0, Blk.cells [C.d (.v (.string s.name)), C.d (Aab (1)
 busC e0 s.buses), C.d (Aab (5) Aap Aaf s.lines), C.d (Aab (6) Aao src0 s.srcs), C.d (Aab (12) bayC bay0 s.bays), C.mp (1), C.mp (2)] (229)), (1, Blk.map (0) N), (2, Blk.map (2)
 B)])) else some (T.leaf (AV.c (C.d (D.v (Value.int IntKind.i64 0))), [(0, Blk.cells [C.d (.v (.string s.name)), C.d (Aab (1) busC e0 s.buses), C.d (Aab (5) Aap Aaf s.lines), C.d
 (Aab (6) Aao src0 s.srcs), C.d (Aab (12) bayC bay0 s.bays), C.mp (1), C.mp (2)] (229)), ((1 : Nat), Blk.map (0) ((Value.string r.name, Value.bool true) :: N)), (2, Blk.map (2)
 ((Value.int IntKind.i64 r.bay, Value.bool true) :: B))]))) else none)) else none)) else none)) else none)) else none)) else none)) else none)) else none)) else none))) := by kernel_rfl
end Go.Proofs.YtbpndheehcbldaaGreatDoor.se
namespace Go.Proofs.YtbpndheehcbldaaGreatDoor.se
open Go.RowKit Go.Eb Go.Proofs.YtbpndheehcbldaaGreatDoor.st
theorem c28 (s : SSta) (hs : AcF s = true) : CX Tryz.prog 75 [aSta s] [] (.c (.ptr 0 0)) (HC s (Aak (AaG s)) []) := by
 obtain ⟨a1, a2, a3, a4, _⟩ := Ada hs
 obtain ⟨g, g1, g2, g3, g4⟩ : ∃ g, s.buses.length < g ∧ s.lines.length < g ∧ s.srcs.length < g ∧ s.bays.length < g := ⟨s.buses.length + s.lines.length + s.srcs.length + s.bays.length + 1, by omega⟩
 refine Aau (Orc.nil_ok _) Tryz.func75 b28 rfl ((ev28 s g).trans ?_)
 have l4 := fun N => Adc (nm := SBay.name) (d0 := bay0) (l := s.bays) (L := fun m mp i => L28_18 s g m mp [] i) (NX := fun mp => some (.leaf (.c (.ptr 0 0), HC s mp []))) (fun m k N hk => by
  rw [st28_18, lt1 hk, ge0, tn, nx hk a4, Abh]; simp only [tt, cond_true]) (fun m mp => by rw [st28_18, lt0 (Nat.lt_irrefl _)]; rfl) g 0 N (by omega) (by omega)
 have l3 := fun N => Adc (nm := SSrc.name) (d0 := src0) (l := s.srcs) (L := fun m mp i => L28_13 s g m mp [] i) (NX := fun mp => L28_18 s g g mp [] 0) (fun m k N hk => by
  rw [st28_13, lt1 hk, ge0, tn, nx hk a3, Abh]; simp only [tt, cond_true]) (fun m mp => by rw [st28_13, lt0 (Nat.lt_irrefl _)]; simp only [cond_false]) g 0 N (by omega) (by omega)
 have l2 := fun N => Adc (nm := SLine.name) (d0 := Aaf) (l := s.lines) (L := fun m mp i => L28_8 s g m mp [] i) (NX := fun mp => L28_13 s g g mp [] 0) (fun m k N hk => by
  rw [st28_8, lt1 hk, ge0, tn, nx hk a2, Abh]; simp only [tt, cond_true]) (fun m mp => by rw [st28_8, lt0 (Nat.lt_irrefl _)]; simp only [cond_false]) g 0 N (by omega) (by omega)
 have l1 := fun N => Adc (nm := id) (d0 := e0) (l := s.buses) (L := fun m mp i => L28_3 s g m mp [] i) (NX := fun mp => L28_8 s g g mp [] 0) (fun m k N hk => by
  rw [st28_3, lt1 hk, ge0, tn, nx hk a1, Abh]; simp only [tt, cond_true, id]) (fun m mp => by rw [st28_3, lt0 (Nat.lt_irrefl _)]; simp only [cond_false]) g 0 N (by omega) (by omega)
 have e := l1 []
 simp only [List.drop_zero, List.map_id, List.nil_append] at e l2 l3 l4
 have e' : L28_3 s g g [] [] 0 = L28_8 s g g (Aak s.buses) [] 0 := e
 have f2 : L28_8 s g g (Aak s.buses) [] 0 = L28_13 s g g (Aak (s.buses ++ s.lines.map SLine.name)) [] 0 := l2 s.buses
 have f3 := l3 (s.buses ++ s.lines.map SLine.name)
 have f4 := l4 (s.buses ++ s.lines.map SLine.name ++ s.srcs.map SSrc.name)
 refine e'.trans (f2.trans (Eq.trans f3 (Eq.trans f4 ?_)))
 unfold AaG
 simp only [List.append_assoc]
def seenB (B : List Int) (n : Int) : Int := bif B.any fun m => n == m then 12 else 0
def placeK (bays : List SBay) (B : List Int) (r : SRel) (k : Int) : Int := bif !Aac r.bay 0 ((bays.length : Int) - 1) then 9 else bif (bays.getD r.bay.toNat bay0).kind != k then 9 else seenB B r.bay
def AaK (bays : List SBay) (B : List Int) (r : SRel) : Int :=
 bif r.kind == 1 then placeK bays B r 1 else bif r.kind == 2 then placeK bays B r 2 else bif r.kind == 3 then placeK bays B r 3 else bif r.kind == 4 then (bif r.bay != -1 then 9 else seenB B r.bay) else 10
theorem place_k {β : Type} (X : Int → Option β) (n len : Int) (kb sn : Bool) : (bif decide (n ≥ 0) then (bif !decide (n ≤ len - 1) then X 9 else (bif decide (0 ≤ n) && decide (n < len) then (bif kb then X 9 else (bif sn then X 12 else X 0)) else none)) else X 9) = X (bif !Aac n 0 (len - 1) then 9 else bif kb then 9 else bif sn then 12 else 0) := by
 unfold Aac
 by_cases h1 : n ≥ 0
 ·by_cases h2 : n ≤ len - 1
  ·have h3 : n < len := by omega
   have h4 : (0 : Int) ≤ n := h1
   simp only [h2, h3, h4, ge_iff_le, decide_true, Bool.not_true, Bool.and_self, cond_true, cond_false]
   cases kb <;> cases sn <;> rfl
  ·have h4 : (0 : Int) ≤ n := h1
   simp only [h2, h4, ge_iff_le, decide_true, decide_false, Bool.not_false, Bool.and_false, cond_true]
 ·have h4 : ¬ (0 : Int) ≤ n := h1
  simp only [h4, ge_iff_le, decide_false, Bool.not_false, Bool.false_and, cond_true, cond_false]
theorem c77 (s : SSta) (N : List (Value × Value)) (B : List Int) (r : SRel) (hb : s.bays.length ≤ 9223372036854775807) : CX Tryz.prog 132 [.c (.ptr 0 0), aRel r] (HC s N (AbH B)) (vI (AaK s.bays B r)) (HC s N (AbH B)) := by
 refine Aau sWi.ok Tryz.func132 b77 rfl ((ev77 s N (AbH B) r 1).trans ?_)
 have w : IntKind.wrap IntKind.i64 ((s.bays.length : Int) - 1) = (s.bays.length : Int) - 1 := AdI (by omega) (by omega)
 rw [w, assoc_mapIn]
 have key : ∀ (kb sn : Bool), _ := fun kb sn => place_k (fun n => some (T.leaf (vI n, HC s N (AbH B)))) r.bay s.bays.length kb sn
 unfold AaK
 cases (r.kind == 1) with
 | true => exact key _ _
 | false =>
  cases (r.kind == 2) with
  | true => exact key _ _
  | false =>
   cases (r.kind == 3) with
   | true => exact key _ _
   | false =>
    cases (r.kind == 4) with
    | false => rfl
    | true =>
     unfold seenB
     cases (r.bay != -1) with
     | true => rfl
     | false => cases (B.any fun m => r.bay == m) <;> rfl
noncomputable def AeM (r : SRel) : Int := bif !AdX r then 12 else bif !AbC r then 2 else bif !Aca r then 2 else bif !AbZ r then 2 else bif !AbY r then 2 else bif !Ack r then 11 else bif !AaQ r then 3 else AdB r
noncomputable def Abz (bays : List SBay) (N : List ByteArray) (B : List Int) (r : SRel) : Int := bif !Aae r.name then 7 else bif inB N r.name then 8 else bif AaK bays B r != 0 then AaK bays B r else AeM r
def eP (s : SSta) (a : List ByteArray × List Int × SRel) : List AV × Hp := ([.c (.ptr 0 0), aRel a.2.2], HC s (Aak a.1) (AbH a.2.1))
theorem eP_inj (s : SSta) : InjY (eP s) := fun a b h1 h2 => by
 obtain ⟨n, i, r⟩ := a
 obtain ⟨n', i', r'⟩ := b
 have e1 : r = r' := Aew _ _ (Aaj (Aaj h1).2).1
 have e2 := mapOf_inj (ble_map (Aeu h2 1 (a := .map 0 (Aak n)) (b := .map 0 (Aak n')) rfl rfl))
 have e3 := mapIn_inj (ble_map (Aeu h2 2 (a := .map 2 (AbH i)) (b := .map 2 (AbH i')) rfl rfl))
 rw [e1, e2, e3]
def eQ (s : SSta) (n : List ByteArray) (b : List Int) (r : SRel) : List AV × Hp := ([.c (.ptr 0 0), aRel r], HC s (Aak n) (AbH b))
theorem eQ_inj (s : SSta) (n : List ByteArray) (b : List Int) : InjY (eQ s n b) := fun x y h1 _ => Aew _ _ (Aaj (Aaj h1).2).1
abbrev eR := en1 aRel
theorem Aht : InjT eR := AcI Aew
noncomputable def Z32 (s : SSta) (n : List ByteArray) (b : List Int) : K32 where
 okr := okG eR Abk
 us x := AdX (theT eR x)
 di x := AbC (theT eR x)
 sc x := Aca (theT eR x)
 el x := AbZ (theT eR x)
 ot x := AbY (theT eR x)
 zo x := Ack (theT eR x)
 ct x := AaQ (theT eR x)
 ls x := AdB (theT eR x)
 okp := okZ (eQ s n b) fun _ => true
 pl x H := AaK s.bays b (theY (eQ s n b) x H)
theorem s32 (s : SSta) (n : List ByteArray) (b : List Int) (hb : s.bays.length ≤ 9223372036854775807) : OrcS Tryz.prog (o32 (Z32 s n b) s (Aak n) (AbH b)) := by
 refine sN (.cons (.m (enc := eQ s n b) (c := fun _ => true) (r := fun r => vI (AaK s.bays b r)) (H' := fun _ => HC s (Aak n) (AbH b)) fun r _ => c77 s (Aak n) b r hb) ?_)
 exact .cons (.t' (r := fun a => vB (AdX a)) fun a _ => c78 a) (.cons (.t' (r := fun a => vB (AbC a)) fun a _ => c79 a) (.cons (.t' (r := fun a => vB (Aca a)) fun a _ => c80 a) (.cons (.t' (r := fun a => vB (AbZ a)) fun a _ => c81 a)
  (.cons (.t' (r := fun a => vB (AbY a)) fun a _ => c82 a) (.cons (.t' (r := fun a => vB (Ack a)) fun a _ => c83 a) (.cons (.t' (r := fun a => vB (AaQ a)) fun a h => c84 a h) (.cons (.t' (r := fun a => vI (AdB a)) fun a h => c85 a h) .nil)))))))
noncomputable def addN (bays : List SBay) (N : List ByteArray) (B : List Int) (r : SRel) : List ByteArray := bif Abz bays N B r != 0 then N else N ++ [r.name]
noncomputable def addB (bays : List SBay) (N : List ByteArray) (B : List Int) (r : SRel) : List Int := bif Abz bays N B r != 0 then B else B ++ [r.bay]
theorem c32 (s : SSta) (N : List ByteArray) (B : List Int) (r : SRel) (hs : s.bays.length ≤ 9223372036854775807) (hr : Abk r = true) :
  CX Tryz.prog 76 [.c (.ptr 0 0), aRel r] (HC s (Aak N) (AbH B)) (vI (Abz s.bays N B r)) (HC s (Aak (addN s.bays N B r)) (AbH (addB s.bays N B r))) := by
 refine Aau (s32 s N B hs).ok Tryz.func76 b32 rfl ((ev32 (Z32 s N B) s (Aak N) (AbH B) r 1).trans ?_)
 have k1 : (Z32 s N B).okp [.c (.ptr 0 0), aRel r] (HC s (Aak N) (AbH B)) = true := AeP (eQ_inj s N B) (c := fun _ => true) r rfl
 have k2 : (Z32 s N B).pl [.c (.ptr 0 0), aRel r] (HC s (Aak N) (AbH B)) = AaK s.bays B r := congrArg (AaK s.bays B) (Adl (eQ_inj s N B) r)
 have k3 : (Z32 s N B).okr [aRel r] = true := Aam Aht (c := Abk) r hr
 have t := Aah Aht r
 have k4 : (Z32 s N B).us [aRel r] = AdX r := congrArg AdX t
 have k5 : (Z32 s N B).di [aRel r] = AbC r := congrArg AbC t
 have k6 : (Z32 s N B).sc [aRel r] = Aca r := congrArg Aca t
 have k7 : (Z32 s N B).el [aRel r] = AbZ r := congrArg AbZ t
 have k8 : (Z32 s N B).ot [aRel r] = AbY r := congrArg AbY t
 have k9 : (Z32 s N B).zo [aRel r] = Ack r := congrArg Ack t
 have k10 : (Z32 s N B).ct [aRel r] = AaQ r := congrArg AaQ t
 have k11 : (Z32 s N B).ls [aRel r] = AdB r := congrArg AdB t
 unfold HC at k1 k2
 simp only [staC, List.map_cons, List.map_nil, List.cons_append, List.nil_append] at k1 k2
 rw [k1, k2, k3, k4, k5, k6, k7, k8, k9, k10, k11, assocN]
 unfold addN addB
 unfold Abz
 cases Aae r.name with
 | false => rfl
 | true =>
  cases inB N r.name with
  | true => rfl
  | false =>
   cases hp : (AaK s.bays B r != 0) with
   | true => simp only [Bool.not_true, cond_false, cond_true, hp]; rfl
   | false =>
    unfold AeM
    cases AdX r with
    | false => rfl
    | true =>
     cases AbC r with
     | false => rfl
     | true =>
      cases Aca r with
      | false => rfl
      | true =>
       cases AbZ r with
       | false => rfl
       | true =>
        cases AbY r with
        | false => rfl
        | true =>
         cases Ack r with
         | false => rfl
         | true =>
          cases AaQ r with
          | false => rfl
          | true =>
           cases hl : (AdB r != 0) with
           | true => simp only [Bool.not_true, cond_false, cond_true, hl]; rfl
           | false =>
            have e0 : AdB r = 0 := by simpa using hl
            have z0 : ((0 : Int) != 0) = false := rfl
            simp only [Bool.not_true, cond_false, cond_true, e0, z0, Abh, mapIn_app]; rfl
end Go.Proofs.YtbpndheehcbldaaGreatDoor.se
namespace Go.Proofs.YtbpndheehcbldaaGreatDoor.se
open Go.RowKit Go.Eb Go.Proofs.YtbpndheehcbldaaGreatDoor.st
structure K13 where
 okS : List AV → Bool
 chk : List AV → Int
 okn : List AV → Hp → Bool
 n0 : List (Value × Value)
 oka : List AV → Hp → Bool
 ad : List AV → Hp → Int
 an : List AV → Hp → List (Value × Value)
 ab : List AV → Hp → List (Value × Value)
noncomputable def o13c (Z : K13) (s : SSta) : Orc := Orc.cons 31 (ansG Z.okS fun x => vI (Z.chk x)) (Orc.cons 75 (ansM Z.okn (fun _ _ => .c (.ptr 0 0)) fun _ _ => HC s Z.n0 []) (Orc.cons 76 (ansM Z.oka (fun x H => vI (Z.ad x H)) fun x H => HC s (Z.an x H) (Z.ab x H)) Orc.nil))
noncomputable def ann13c : Ann := AaE [(5, ⟨[6, 15, 16, 17], []⟩)]
noncomputable def L13c_5 (Z : K13) (s : SSta) (l : List SRel) (g m : Nat) (l1 : List (Value × Value)) (l2 : List (Value × Value)) (i17 : Int) := LK Tryz.prog (o13c Z s) ann13c 0 g Tryz.f32 5 m ⟨frm [(6, .c (.ptr 0 0)), (15, .c (.d (Aab 53 relC rel0 l))), (16, .c (.d (.v (.int .i64 (↑(List.length l) : Int))))), (17, .c (.d (.v (.int .i64 i17))))] 0 Tryz.f32.ntmps, [(0, Blk.cells [.d (.v (.string (SSta.name s))), C.d (Aab 1 busC e0 (SSta.buses s)), C.d (Aab 5 Aap Aaf (SSta.lines s)), C.d (Aab 6 Aao src0 (SSta.srcs s)), C.d (Aab 12 bayC bay0 (SSta.bays s)), C.mp 1, C.mp 2] 229), (1, Blk.map 0 l1), (2, Blk.map 2 l2)], 3⟩
theorem b13c : Tryz.f32.body = some (Aad Tryz.f32) := by kernel_rfl
theorem ev13c (Z : K13) (s : SSta) (l : List SRel) (g : Nat) : Aai Tryz.prog (o13c Z s) ann13c g Tryz.f32 (Aad Tryz.f32) [aSta s, .c (.d (AbF l))] [] =
 (bif K13.okS Z [AV.agg (List.map C.d (staC s))] then (bif K13.chk Z [AV.agg (List.map C.d (staC s))] != 0 then some (T.leaf (AV.tup [(false, [C.d (D.v (Value.int IntKind.i64 0))]),
 (false, [C.d (.v (.int .i64 1))])], [])) else (bif K13.okn Z [AV.agg (List.map C.d (staC s))] [] then L13c_5 Z s l g g (K13.n0 Z) ([]) 0 else none)) else none) := by kernel_rfl
theorem st13c_5 (Z : K13) (s : SSta) (l : List SRel) (g m : Nat) (l1 : List (Value × Value)) (l2 : List (Value × Value)) (i17 : Int) : L13c_5 Z s l g (m + 1) l1 l2 i17 =
 (bif decide (i17 < (↑l.length : Int)) then (bif decide (0 ≤ i17) && decide (i17 < (↑l.length : Int)) then (bif K13.oka Z [AV.c (C.ptr (0) (0)), AV.agg (List.map C.d (relC (l.getD
 i17.toNat rel0)))] [(0, Blk.cells [C.d (.v (.string s.name)), C.d (Aab (1) busC e0 s.buses), C.d (Aab (5) Aap Aaf s.lines), C.d (Aab (6) Aao src0 s.srcs), C.d (Aab (12) bayC bay0
 s.bays), C.mp (1), C.mp ((2 : Nat))] (229)), (1, Blk.map (0) l1), (2, Blk.map (2) l2)] then (bif K13.ad Z [AV.c (C.ptr (0) (0)), AV.agg (List.map C.d (relC (l.getD i17.toNat
 rel0)))] [(0, Blk.cells [C.d (.v (.string s.name)), C.d (Aab (1) busC e0 s.buses), C.d (Aab (5) Aap Aaf s.lines), C.d (Aab (6) Aao src0 s.srcs), C.d (Aab (12) bayC bay0 s.bays),
 C.mp (1), C.mp (2)] (229)), ((1 : Nat), Blk.map (0) l1), (2, Blk.map (2) l2)] != 0 then some (T.leaf (AV.tup [(false, [C.d (.v (.int .i64 i17))]), (false, [C.d (D.v (Value.int
 IntKind.i64 (K13.ad Z [AV.c (C.ptr (0) (0)), AV.agg (List.map C.d (relC (l.getD i17.toNat rel0)))] [(0, Blk.cells [C.d (D.v (Value.string s.name)), C.d (Aab (1) busC e0 s.buses),
 C.d (Aab (5) Aap Aaf s.lines), C.d (Aab (6) Aao src0 s.srcs), C.d (Aab (12) bayC bay0 s.bays), C.mp (1), C.mp (2)] (229)), (1, Blk.map (0) l1), (2, Blk.map (2) l2)])))])], []))
 else L13c_5 Z s l g m (K13.an Z [AV.c (C.ptr (0) (0)), AV.agg (List.map C.d (relC (l.getD i17.toNat rel0)))] [(0, Blk.cells [C.d (D.v (.string s.name)), C.d (Aab (1) busC e0
 s.buses), C.d (Aab (5) Aap Aaf s.lines), C.d (Aab (6) Aao src0 s.srcs), C.d (Aab (12) bayC bay0 s.bays), C.mp (1), C.mp (2)] (229)), (1, Blk.map (0) l1), (2, Blk.map (2) l2)])
 (K13.ab Z [AV.c (C.ptr (0) (0)), AV.agg (List.map C.d (relC (l.getD i17.toNat rel0)))] [(0, Blk.cells [C.d (.v (.string s.name)), C.d (Aab (1) busC e0 s.buses), C.d (Aab (5) Aap
 Aaf s.lines), C.d (Aab (6) Aao src0 s.srcs), C.d (Aab (12) bayC bay0 s.bays), C.mp (1), C.mp (2)] (229)), (1, Blk.map (0) l1), (2, Blk.map (2) l2)]) (IntKind.wrap .i64 (i17 + 1)))
 else none) else none) else some (T.leaf (AV.tup [(false, [C.d (.v (.int .i64 0))]), (false, [C.d (.v (.int .i64 0))])], []))) := by kernel_rfl
end Go.Proofs.YtbpndheehcbldaaGreatDoor.se
namespace Go.Proofs.YtbpndheehcbldaaGreatDoor.se
open Go.RowKit Go.Eb Go.Proofs.YtbpndheehcbldaaGreatDoor.st
def vII (a b : Int) : AV := .tup [(false, [.d (dI a)]), (false, [.d (dI b)])]
def vP (p : Int × Int) : AV := vII p.1 p.2
noncomputable def Abi (bays : List SBay) (N : List ByteArray) (B : List Int) (i : Nat) : List SRel → Int × Int
 | [] => (0, 0)
 | r :: t => bif Abz bays N B r != 0 then ((i : Int), Abz bays N B r) else Abi bays (N ++ [r.name]) (B ++ [r.bay]) (i + 1) t
noncomputable def AhA (s : SSta) (l : List SRel) : Int × Int := bif AbQ s != 0 then (0, 1) else Abi s.bays (AaG s) [] 0 l
abbrev eSt := en1 aSta
theorem AcJ : InjT eSt := AcI AgH
def eN1 (s : SSta) (_ : Unit) : List AV × Hp := ([aSta s], [])
theorem eN1_inj (s : SSta) : InjY (eN1 s) := fun _ _ _ _ => rfl
def okA (a : List ByteArray × List Int × SRel) : Bool := Abk a.2.2
noncomputable def Z13 (s : SSta) : K13 where
 okS := okG eSt AcF
 chk x := AbQ (theT eSt x)
 okn := okZ (eN1 s) fun _ => true
 n0 := Aak (AaG s)
 oka := okZ (eP s) okA
 ad x H := Abz s.bays (theY (eP s) x H).1 (theY (eP s) x H).2.1 (theY (eP s) x H).2.2
 an x H := Aak (addN s.bays (theY (eP s) x H).1 (theY (eP s) x H).2.1 (theY (eP s) x H).2.2)
 ab x H := AbH (addB s.bays (theY (eP s) x H).1 (theY (eP s) x H).2.1 (theY (eP s) x H).2.2)
theorem s13c (s : SSta) (hs : AcF s = true) : OrcS Tryz.prog (o13c (Z13 s) s) :=
 .cons (.t' (r := fun a => vI (AbQ a)) fun a h => c12 a (Ada h).2.2.2.2) (.cons (.m (enc := eN1 s) (c := fun _ => true) (r := fun _ => .c (.ptr 0 0)) (H' := fun _ => HC s (Aak (AaG s)) []) fun _ _ => c28 s hs)
  (.cons (.m (enc := eP s) (c := okA) (r := fun a => vI (Abz s.bays a.1 a.2.1 a.2.2)) (H' := fun a => HC s (Aak (addN s.bays a.1 a.2.1 a.2.2)) (AbH (addB s.bays a.1 a.2.1 a.2.2))) fun a h => c32 s a.1 a.2.1 a.2.2 (Ada hs).2.2.2.1 h) .nil))
theorem lp13c (s : SSta) (l : List SRel) (g : Nat) (hl : Aaq l = true) (ha : l.all Abk = true) : ∀ (m k : Nat) (N : List ByteArray) (B : List Int), k ≤ l.length → l.length - k < m → L13c_5 (Z13 s) s l g m (Aak N) (AbH B) k = some (.leaf (vP (Abi s.bays N B k (l.drop k)), []))
 | 0, k, _, _, _, h => by omega
 | m + 1, k, N, B, hk, h => by
  rw [st13c_5]
  by_cases hlt : k < l.length
  ·have hr : Abk (l.getD k rel0) = true := Acu ha rfl k
   rw [Aar (d := rel0) hlt]
   rw [lt1 hlt, ge0, tn, nx hlt (AaF hl)]
   generalize l.getD k rel0 = r at hr ⊢
   have k1 : (Z13 s).oka [.c (.ptr 0 0), aRel r] (HC s (Aak N) (AbH B)) = true := AeP (eP_inj s) (c := okA) (N, B, r) hr
   have t : theY (eP s) [.c (.ptr 0 0), aRel r] (HC s (Aak N) (AbH B)) = (N, B, r) := Adl (eP_inj s) (N, B, r)
   have k2 : (Z13 s).ad [.c (.ptr 0 0), aRel r] (HC s (Aak N) (AbH B)) = Abz s.bays N B r := by dsimp only [Z13]; rw [t]
   have k3 : (Z13 s).an [.c (.ptr 0 0), aRel r] (HC s (Aak N) (AbH B)) = Aak (addN s.bays N B r) := by dsimp only [Z13]; rw [t]
   have k4 : (Z13 s).ab [.c (.ptr 0 0), aRel r] (HC s (Aak N) (AbH B)) = AbH (addB s.bays N B r) := by dsimp only [Z13]; rw [t]
   unfold HC at k1 k2 k3 k4
   simp only [staC, List.map_cons, List.map_nil, List.cons_append, List.nil_append] at k1 k2 k3 k4
   have ih := lp13c s l g hl ha m (k + 1) (N ++ [r.name]) (B ++ [r.bay]) (by omega) (by omega)
   simp only [tt, cond_true]
   refine Eq.trans (congrArg (fun b => cond b _ _) k1) ?_
   simp only [cond_true]
   rw [k2, k3, k4]
   unfold addN addB
   simp only [Abi]
   cases hz : (Abz s.bays N B r != 0) with
   | true => rfl
   | false => exact ih
  ·rw [lt0 hlt, List.drop_of_length_le (by omega)]
   rfl
theorem c13c (s : SSta) (l : List SRel) (hs : AcF s = true) (hl : Aaq l = true) (ha : l.all Abk = true) : CX Tryz.prog 32 [aSta s, .c (.d (AbF l))] [] (vP (AhA s l)) [] := by
 obtain ⟨g, hg⟩ : ∃ g, l.length < g := ⟨l.length + 1, by omega⟩
 refine Aau (s13c s hs).ok Tryz.func32 b13c rfl ((ev13c (Z13 s) s l g).trans ?_)
 have k1 : (Z13 s).okS [aSta s] = true := Aam AcJ (c := AcF) s hs
 have k2 : (Z13 s).chk [aSta s] = AbQ s := congrArg AbQ (Aah AcJ s)
 have k3 : (Z13 s).okn [aSta s] [] = true := AeP (eN1_inj s) (c := fun _ => true) () rfl
 have e : L13c_5 (Z13 s) s l g g (Aak (AaG s)) (AbH []) ((0 : Nat) : Int) = _ := lp13c s l g hl ha g 0 (AaG s) [] (by omega) (by omega)
 rw [k1, k2, k3]
 unfold AhA
 cases (AbQ s != 0) with
 | true => rfl
 | false => exact e
end Go.Proofs.YtbpndheehcbldaaGreatDoor.se
namespace Go.Proofs.YtbpndheehcbldaaGreatDoor.se
open Go.RowKit Go.Eb
theorem ev133_t (s : ByteArray) : Aai Tryz.prog (Orc.cons 52 (inl Tryz.prog Orc.nil na 20 Tryz.f52) Orc.nil) na 20 Tryz.f188 (Aad Tryz.f188) [vS s] [] =
 (bif ByteArray.toList (⟨#[116, 114, 117, 101]⟩) == s.toList then leB true else (bif ByteArray.toList (⟨#[102, 97, 108, 115, 101]⟩) == s.toList then leB true else (bif
 ByteArray.toList (⟨#[110, 111, 116]⟩) == s.toList then leB true else (bif ByteArray.toList (⟨#[97, 110, 100]⟩) == s.toList then leB true else (bif ByteArray.toList (⟨#[111, 114]⟩)
 == s.toList then leB true else (bif ByteArray.toList (⟨#[120, 111, 114]⟩) == s.toList then leB true else (bif ByteArray.toList (⟨#[109, 105, 110]⟩) == s.toList then leB true else
 (bif ByteArray.toList (⟨#[109, 97, 120]⟩) == s.toList then leB true else (bif ByteArray.toList (⟨#[97, 98, 115]⟩) == s.toList then leB true else (bif ByteArray.toList (⟨#[105,
 102]⟩) == s.toList then leB true else (bif ByteArray.toList (⟨#[114, 105, 115, 101]⟩) == s.toList then leB true else (bif ByteArray.toList (⟨#[102, 97, 108, 108]⟩) == s.toList then
 leB true else (bif ByteArray.toList (⟨#[100, 101, 108, 97, 121]⟩) == s.toList then leB true else (bif ByteArray.toList (⟨#[104, 111, 108, 100]⟩) == s.toList then leB true else (bif
 ByteArray.toList (⟨#[108, 97, 116, 99, 104]⟩) == s.toList then leB true else (bif ByteArray.toList (⟨#[99, 111, 117, 110, 116]⟩) == s.toList then leB true else leB
 false)))))))))))))))) := by kernel_rfl
noncomputable def ev133_v (s : ByteArray) : Bool :=
 (bif ByteArray.toList (ByteArray.mk #[(116 : UInt8), (114 : UInt8), (117 : UInt8), (101 : UInt8)]) == ByteArray.toList s then (true) else (bif ByteArray.toList (ByteArray.mk #[(102
 : UInt8), (97 : UInt8), (108 : UInt8), (115 : UInt8), (101 : UInt8)]) == ByteArray.toList s then (true) else (bif ByteArray.toList (ByteArray.mk #[(110 : UInt8), (111 : UInt8), (116
 : UInt8)]) == ByteArray.toList s then (true) else (bif ByteArray.toList (ByteArray.mk #[(97 : UInt8), (110 : UInt8), (100 : UInt8)]) == ByteArray.toList s then (true) else (bif
 ByteArray.toList (ByteArray.mk #[(111 : UInt8), (114 : UInt8)]) == ByteArray.toList s then (true) else (bif ByteArray.toList (ByteArray.mk #[(120 : UInt8), (111 : UInt8), (114 :
 UInt8)]) == ByteArray.toList s then (true) else (bif ByteArray.toList (ByteArray.mk #[(109 : UInt8), (105 : UInt8), (110 : UInt8)]) == ByteArray.toList s then (true) else (bif
 ByteArray.toList (ByteArray.mk #[(109 : UInt8), (97 : UInt8), (120 : UInt8)]) == ByteArray.toList s then (true) else (bif ByteArray.toList (ByteArray.mk #[(97 : UInt8), (98 :
 UInt8), (115 : UInt8)]) == ByteArray.toList s then (true) else (bif ByteArray.toList (ByteArray.mk #[(105 : UInt8), (102 : UInt8)]) == ByteArray.toList s then (true) else (bif
 ByteArray.toList (ByteArray.mk #[(114 : UInt8), (105 : UInt8), (115 : UInt8), (101 : UInt8)]) == ByteArray.toList s then (true) else (bif ByteArray.toList (ByteArray.mk #[(102 :
 UInt8), (97 : UInt8), (108 : UInt8), (108 : UInt8)]) == ByteArray.toList s then (true) else (bif ByteArray.toList (ByteArray.mk #[(100 : UInt8), (101 : UInt8), (108 : UInt8), (97 :
 UInt8), (121 : UInt8)]) == ByteArray.toList s then (true) else (bif ByteArray.toList (ByteArray.mk #[(104 : UInt8), (111 : UInt8), (108 : UInt8), (100 : UInt8)]) == ByteArray.toList
 s then (true) else (bif ByteArray.toList (ByteArray.mk #[(108 : UInt8), (97 : UInt8), (116 : UInt8), (99 : UInt8), (104 : UInt8)]) == ByteArray.toList s then (true) else (bif
 ByteArray.toList (ByteArray.mk #[(99 : UInt8), (111 : UInt8), (117 : UInt8), (110 : UInt8), (116 : UInt8)]) == ByteArray.toList s then (true) else (false)))))))))))))))))
theorem ev133 (s : ByteArray) : Aai Tryz.prog (Orc.cons 52 (inl Tryz.prog Orc.nil na 20 Tryz.f52) Orc.nil) na 20 Tryz.f188 (Aad Tryz.f188) [vS s] [] = some (.leaf (vB (ev133_v s), [])) := by
 rw [ev133_t]
 unfold ev133_v
 simp only [Aeh]
noncomputable def ann91 : Ann := AaE [(4, ⟨[1, 3], []⟩)]
noncomputable def L91_4 (r : SRel) (g m : Nat) (i3 : Int) := LK Tryz.prog Orc.nil ann91 0 g Tryz.f122 4 m ⟨frm [(1, .c (.ptr 0 0)), (3, .c (.d (.v (.int .i64 i3))))] 0 Tryz.f122.ntmps, [(0, Blk.cells (List.map C.d (relC r)) 64)], 1⟩
theorem b91 : Tryz.f122.body = some (Aad Tryz.f122) := by kernel_rfl
theorem ev91 (r : SRel) (g : Nat) : Aai Tryz.prog Orc.nil ann91 g Tryz.f122 (Aad Tryz.f122) [aRel r] [] =
 (bif decide ((↑r.rules.length : Int) > 16) then leB true else (bif decide ((↑r.sets.length : Int) > 4) then leB true else (bif decide ((↑r.pubs.length : Int) > 4) then leB true
 else (bif decide ((↑r.subs.length : Int) > 24) then leB true else L91_4 r g g 0)))) := by kernel_rfl
theorem st91_4 (r : SRel) (g m : Nat) (i3 : Int) : L91_4 r g (m + 1) i3 =
 (bif decide (i3 < (↑r.sets.length : Int)) then (bif decide (0 ≤ i3) && decide (i3 < (↑r.sets.length : Int)) then (bif decide ((↑(SSet.sigs (r.sets.getD i3.toNat set0)).length :
 Int) < 1) then leB true else (bif decide (0 ≤ i3) && decide (i3 < (↑r.sets.length : Int)) then (bif decide ((↑(SSet.sigs (r.sets.getD i3.toNat set0)).length : Int) > 24) then leB
 true else L91_4 r g m (IntKind.wrap .i64 (i3 + 1))) else none)) else none) else leB false) := by kernel_rfl
noncomputable def ann87 : Ann := AaE [(16, ⟨[5, 1, 8], []⟩)]
noncomputable def AfF (s : SSta) (b : List SRel) (r : SRel) (g m : Nat) (i8 : Int) := LK Tryz.prog Orc.nil ann87 0 g Tryz.f118 16 m ⟨frm [(1, .c (.d (Aab 53 relC rel0 b))), (5, .c (.ptr 0 0)), (8, .c (.d (.v (.int .i64 i8))))] 0 Tryz.f118.ntmps, [(0, Blk.cells (List.map C.d (relC r)) 64)], 1⟩
theorem b87 : Tryz.f118.body = some (Aad Tryz.f118) := by kernel_rfl
theorem ev87 (s : SSta) (b : List SRel) (r : SRel) (g : Nat) : Aai Tryz.prog Orc.nil ann87 g Tryz.f118 (Aad Tryz.f118) [aSta s, .c (.d (AbF b)), aRel r] [] =
 (bif r.kind == 1 then (bif decide (r.bay < 0) then leI 9 else (bif decide (r.bay ≥ (↑s.bays.length : Int)) then leI 9 else (bif decide (0 ≤ r.bay) && decide (r.bay <
 (↑s.bays.length : Int)) then (bif SBay.kind (s.bays.getD (Int.toNat r.bay) bay0) != 1 then leI 9 else AfF s b r g g 0) else none))) else (bif r.kind == 2 then (bif decide (r.bay <
 0) then leI 9 else (bif decide (r.bay ≥ (↑s.bays.length : Int)) then leI 9 else (bif decide (0 ≤ r.bay) && decide (r.bay < (↑s.bays.length : Int)) then (bif SBay.kind (s.bays.getD
 (Int.toNat r.bay) bay0) != 2 then leI 9 else AfF s b r g g 0) else none))) else (bif r.kind == 3 then (bif decide (r.bay < 0) then leI 9 else (bif decide (r.bay ≥ (↑s.bays.length :
 Int)) then leI 9 else (bif decide (0 ≤ r.bay) && decide (r.bay < (↑s.bays.length : Int)) then (bif SBay.kind (s.bays.getD (Int.toNat r.bay) bay0) != 3 then leI 9 else AfF s b r g g
 0) else none))) else (bif r.kind == 4 then (bif r.bay != (-1) then leI 9 else AfF s b r g g 0) else leI 10)))) := by kernel_rfl
theorem st87_16 (s : SSta) (b : List SRel) (r : SRel) (g m : Nat) (i8 : Int) : AfF s b r g (m + 1) i8 =
 (bif decide (i8 < (↑b.length : Int)) then (bif decide (0 ≤ i8) && decide (i8 < (↑b.length : Int)) then (bif SRel.bay (b.getD i8.toNat rel0) == r.bay then leI 12 else AfF s b r g m
 (IntKind.wrap .i64 (i8 + 1))) else none) else leI 0) := by kernel_rfl
noncomputable def oIx (oki : List AV → Bool) (ix : List AV → Int) (r : Orc) : Orc := Orc.cons 52 (ansL oki fun x => vI (ix x)) r
noncomputable def o92 (nk rv : ByteArray → Bool) (oki : List AV → Bool) (ix : List AV → Int) : Orc := oIx oki ix (Orc.cons 57 (ansP decS fun s => vB (nk s)) (Orc.cons 188 (ansP decS fun s => vB (rv s)) Orc.nil))
noncomputable def ann92 : Ann := AaE [(3, ⟨[1, 4, 3], [(3, 0, 1, 9)]⟩), (13, ⟨[5, 1, 4, 3, 6], []⟩)]
noncomputable def L92_3 (nk rv : ByteArray → Bool) (oki : List AV → Bool) (ix : List AV → Int) (r : SRel) (g m : Nat) (n1 : Nat) (f1 : Nat → List D) (i4 : Int) := LK Tryz.prog (o92 nk rv oki ix) ann92 0 g Tryz.f123 3 m ⟨frm [(1, .c (.ptr 0 0)), (3, .c (.row 1 1 n1)), (4, .c (.d (.v (.int .i64 i4))))] 0 Tryz.f123.ntmps, [(0, Blk.cells (List.map C.d (relC r)) 64), (1, Blk.row n1 f1 1 9)], 2⟩
noncomputable def L92_13 (nk rv : ByteArray → Bool) (oki : List AV → Bool) (ix : List AV → Int) (r : SRel) (g mo m : Nat) (n1 : Nat) (f1 : Nat → List D) (i4 : Int) (i6 : Int) := LK2 Tryz.prog (o92 nk rv oki ix) ann92 0 g Tryz.f123 3 mo 13 m ⟨frm [(1, .c (.ptr 0 0)), (3, .c (.row 1 1 n1)), (4, .c (.d (.v (.int .i64 i4)))), (5, .c (.ptr 2 0)), (6, .c (.d (.v (.int .i64 i6))))] 0 Tryz.f123.ntmps, [(0, Blk.cells (List.map C.d (relC r)) 64), (1, Blk.row n1 f1 1 9), (2, Blk.cells (List.map C.d (AcA (List.getD (SRel.rules r) (Int.toNat i4) AaI))) 136)], 3⟩
theorem b92 : Tryz.f123.body = some (Aad Tryz.f123) := by kernel_rfl
theorem ev92 (nk rv : ByteArray → Bool) (oki : List AV → Bool) (ix : List AV → Int) (r : SRel) (g : Nat) : Aai Tryz.prog (o92 nk rv oki ix) ann92 g Tryz.f123 (Aad Tryz.f123) [aRel r] [] =
 L92_3 nk rv oki ix r g g 0 (fun x => []) 0 := by kernel_rfl
theorem st92_3 (nk rv : ByteArray → Bool) (oki : List AV → Bool) (ix : List AV → Int) (r : SRel) (g m : Nat) (n1 : Nat) (f1 : Nat → List D) (i4 : Int) : L92_3 nk rv oki ix r g (m + 1) n1 f1 i4 =
 (bif decide (i4 < (↑r.rules.length : Int)) then (bif decide (0 ≤ i4) && decide (i4 < (↑r.rules.length : Int)) then (bif !nk (SRule.name (r.rules.getD i4.toNat AaI)) then leI 7 else
 (bif rv (SRule.name (r.rules.getD i4.toNat AaI)) then leI 7 else (bif oki [AV.c (C.d (D.sl (1) n1 f1)), AV.c (C.d (D.v (Value.string (SRule.name (r.rules.getD i4.toNat AaI)))))]
 then (bif decide (ix [AV.c (C.d (D.sl (1) n1 f1)), AV.c (.d (.v (.string (SRule.name (r.rules.getD i4.toNat AaI)))))] ≥ 0) then leI 8 else (bif decide ((↑(ByteArray.size
 (SRule.text (r.rules.getD i4.toNat AaI))) : Int) > 120) then leI 4 else L92_13 nk rv oki ix r g m g n1 f1 i4 0)) else none))) else none) else leI 0) := by kernel_rfl
theorem st92_13 (nk rv : ByteArray → Bool) (oki : List AV → Bool) (ix : List AV → Int) (r : SRel) (g mo m : Nat) (n1 : Nat) (f1 : Nat → List D) (i4 : Int) (i6 : Int) : L92_13 nk rv oki ix r g mo (m + 1) n1 f1 i4 i6 =
 (bif decide (i6 < (↑(ByteArray.size (SRule.text (r.rules.getD i4.toNat AaI))) : Int)) then (bif decide (0 ≤ i6) && decide (i6 < (↑(ByteArray.size (SRule.text (r.rules.getD i4.toNat
 AaI))) : Int)) then (bif decide ((↑(UInt8.toNat ((Array.toList (ByteArray.data (SRule.text (r.rules.getD i4.toNat AaI)))).getD i6.toNat 0)) : Int) < 32) then leI 5 else (bif decide
 (0 ≤ i6) && decide (i6 < (↑(ByteArray.size (SRule.text (r.rules.getD i4.toNat AaI))) : Int)) then (bif decide ((↑(UInt8.toNat ((Array.toList (ByteArray.data (SRule.text
 (r.rules.getD i4.toNat AaI)))).getD i6.toNat 0)) : Int) > 126) then leI 5 else (bif decide (0 ≤ i6) && decide (i6 < (↑(ByteArray.size (SRule.text (r.rules.getD i4.toNat AaI))) :
 Int)) then (bif (↑(UInt8.toNat ((Array.toList (ByteArray.data (SRule.text (r.rules.getD i4.toNat AaI)))).getD i6.toNat 0)) : Int) == 34 then leI 5 else L92_13 nk rv oki ix r g mo m
 n1 f1 i4 (IntKind.wrap .i64 (i6 + 1))) else none)) else none)) else none) else (bif decide ((n1 + 1) * 16 ≤ 140737488355328) && decide (n1 + 1 ≤ 9223372036854775807) then L92_3 nk
 rv oki ix r g mo (n1 + 1) (appF n1 f1 (Aat [dS (SRule.name (r.rules.getD i4.toNat AaI))] (0 + 1))) (IntKind.wrap .i64 (i4 + 1)) else none)) := by kernel_rfl
noncomputable def o93 (nk : ByteArray → Bool) (oki : List AV → Bool) (ix : List AV → Int) : Orc := oIx oki ix (Orc.cons 57 (ansP decS fun s => vB (nk s)) (Orc.cons 186 (ansP dec3 fun a => vB (Aac a.1 a.2.1 a.2.2)) Orc.nil))
noncomputable def ann93 : Ann := AaE [(3, ⟨[1, 4, 3], [(3, 0, 1, 9)]⟩), (9, ⟨[5, 1, 4, 3, 6], []⟩), (18, ⟨[1, 7, 3], [(3, 0, 1, 9)]⟩), (30, ⟨[1, 9, 3], [(3, 0, 1, 9)]⟩)]
noncomputable def L93_3 (nk : ByteArray → Bool) (oki : List AV → Bool) (ix : List AV → Int) (r : SRel) (g m : Nat) (n1 : Nat) (f1 : Nat → List D) (i4 : Int) := LK Tryz.prog (o93 nk oki ix) ann93 0 g Tryz.f124 3 m ⟨frm [(1, .c (.ptr 0 0)), (3, .c (.row 1 1 n1)), (4, .c (.d (.v (.int .i64 i4))))] 0 Tryz.f124.ntmps, [(0, Blk.cells (List.map C.d (relC r)) 64), (1, Blk.row n1 f1 1 9)], 2⟩
noncomputable def L93_9 (nk : ByteArray → Bool) (oki : List AV → Bool) (ix : List AV → Int) (r : SRel) (g mo m : Nat) (n1 : Nat) (f1 : Nat → List D) (i4 : Int) (i6 : Int) := LK2 Tryz.prog (o93 nk oki ix) ann93 0 g Tryz.f124 3 mo 9 m ⟨frm [(1, .c (.ptr 0 0)), (3, .c (.row 1 1 n1)), (4, .c (.d (.v (.int .i64 i4)))), (5, .c (.ptr 2 0)), (6, .c (.d (.v (.int .i64 i6))))] 0 Tryz.f124.ntmps, [(0, Blk.cells (List.map C.d (relC r)) 64), (1, Blk.row n1 f1 1 9), (2, Blk.cells (List.map C.d (setC (List.getD (SRel.sets r) (Int.toNat i4) set0))) 125)], 3⟩
noncomputable def AfE (nk : ByteArray → Bool) (oki : List AV → Bool) (ix : List AV → Int) (r : SRel) (g m : Nat) (n1 : Nat) (f1 : Nat → List D) (i7 : Int) := LK Tryz.prog (o93 nk oki ix) ann93 0 g Tryz.f124 18 m ⟨frm [(1, .c (.ptr 0 0)), (3, .c (.row 1 1 n1)), (7, .c (.d (.v (.int .i64 i7))))] 0 Tryz.f124.ntmps, [(0, Blk.cells (List.map C.d (relC r)) 64), (1, Blk.row n1 f1 1 9)], 2⟩
noncomputable def AfD (nk : ByteArray → Bool) (oki : List AV → Bool) (ix : List AV → Int) (r : SRel) (g m : Nat) (n1 : Nat) (f1 : Nat → List D) (i9 : Int) := LK Tryz.prog (o93 nk oki ix) ann93 0 g Tryz.f124 30 m ⟨frm [(1, .c (.ptr 0 0)), (3, .c (.row 1 1 n1)), (9, .c (.d (.v (.int .i64 i9))))] 0 Tryz.f124.ntmps, [(0, Blk.cells (List.map C.d (relC r)) 64), (1, Blk.row n1 f1 1 9)], 2⟩
theorem b93 : Tryz.f124.body = some (Aad Tryz.f124) := by kernel_rfl
theorem ev93 (nk : ByteArray → Bool) (oki : List AV → Bool) (ix : List AV → Int) (r : SRel) (g : Nat) : Aai Tryz.prog (o93 nk oki ix) ann93 g Tryz.f124 (Aad Tryz.f124) [aRel r] [] =
 L93_3 nk oki ix r g g 0 (fun x => []) 0 := by kernel_rfl
theorem st93_3 (nk : ByteArray → Bool) (oki : List AV → Bool) (ix : List AV → Int) (r : SRel) (g m : Nat) (n1 : Nat) (f1 : Nat → List D) (i4 : Int) : L93_3 nk oki ix r g (m + 1) n1 f1 i4 =
 (bif decide (i4 < (↑r.sets.length : Int)) then (bif decide (0 ≤ i4) && decide (i4 < (↑r.sets.length : Int)) then (bif !nk (SSet.name (r.sets.getD i4.toNat set0)) then leI 7 else
 L93_9 nk oki ix r g m g n1 f1 i4 0) else none) else AfE nk oki ix r g g 0 (fun x => []) 0) := by kernel_rfl
theorem st93_9 (nk : ByteArray → Bool) (oki : List AV → Bool) (ix : List AV → Int) (r : SRel) (g mo m : Nat) (n1 : Nat) (f1 : Nat → List D) (i4 : Int) (i6 : Int) : L93_9 nk oki ix r g mo (m + 1) n1 f1 i4 i6 =
 (bif decide (i6 < (↑(SSet.sigs (r.sets.getD i4.toNat set0)).length : Int)) then (bif decide (0 ≤ i6) && decide (i6 < (↑(SSet.sigs (r.sets.getD i4.toNat set0)).length : Int)) then
 (bif !nk ((SSet.sigs (r.sets.getD i4.toNat set0)).getD i6.toNat e0) then leI 7 else L93_9 nk oki ix r g mo m n1 f1 i4 (IntKind.wrap .i64 (i6 + 1))) else none) else (bif oki [AV.c
 (C.d (D.sl ((1 : Nat)) n1 f1)), AV.c (.d (.v (.string (SSet.name (r.sets.getD i4.toNat set0)))))] then (bif decide (ix [AV.c (C.d (D.sl (1) n1 f1)), AV.c (C.d (D.v (Value.string
 (SSet.name (r.sets.getD i4.toNat set0)))))] ≥ 0) then leI 8 else (bif decide ((n1 + 1) * 16 ≤ 140737488355328) && decide (n1 + 1 ≤ 9223372036854775807) then L93_3 nk oki ix r g mo
 (n1 + 1) (appF n1 f1 (Aat [dS (SSet.name (r.sets.getD i4.toNat set0))] (0 + 1))) (IntKind.wrap .i64 (i4 + 1)) else none)) else none)) := by kernel_rfl
theorem st93_18 (nk : ByteArray → Bool) (oki : List AV → Bool) (ix : List AV → Int) (r : SRel) (g m : Nat) (n1 : Nat) (f1 : Nat → List D) (i7 : Int) : AfE nk oki ix r g (m + 1) n1 f1 i7 =
 (bif decide (i7 < (↑r.pubs.length : Int)) then (bif decide (0 ≤ i7) && decide (i7 < (↑r.pubs.length : Int)) then (bif !nk (SPub.set (r.pubs.getD i7.toNat pub0)) then leI 7 else
 (bif oki [AV.c (C.d (D.sl (1) n1 f1)), AV.c (C.d (D.v (Value.string (SPub.set (r.pubs.getD i7.toNat pub0)))))] then (bif decide (ix [AV.c (C.d (D.sl (1) n1 f1)), AV.c (.d (.v
 (.string (SPub.set (r.pubs.getD i7.toNat pub0)))))] ≥ 0) then leI 8 else (bif !Aac (SPub.fst (r.pubs.getD i7.toNat pub0)) 1 100 then leI 2 else (bif !Aac (SPub.max (r.pubs.getD
 i7.toNat pub0)) (SPub.fst (r.pubs.getD i7.toNat pub0)) 1000 then leI 2 else (bif decide ((n1 + 1) * 16 ≤ 140737488355328) && decide (n1 + 1 ≤ 9223372036854775807) then AfE nk oki
 ix r g m (n1 + 1) (appF n1 f1 (Aat [dS (SPub.set (r.pubs.getD i7.toNat pub0))] (0 + 1))) (IntKind.wrap .i64 (i7 + 1)) else none)))) else none)) else none) else AfD nk oki ix r g g
 0 (fun x => []) 0) := by kernel_rfl
theorem st93_30 (nk : ByteArray → Bool) (oki : List AV → Bool) (ix : List AV → Int) (r : SRel) (g m : Nat) (n1 : Nat) (f1 : Nat → List D) (i9 : Int) : AfD nk oki ix r g (m + 1) n1 f1 i9 =
 (bif decide (i9 < (↑r.subs.length : Int)) then (bif decide (0 ≤ i9) && decide (i9 < (↑r.subs.length : Int)) then (bif !nk (SSub.loc (r.subs.getD i9.toNat sub0)) then leI 7 else
 (bif !nk (SSub.dev (r.subs.getD i9.toNat sub0)) then leI 7 else (bif !nk (SSub.set (r.subs.getD i9.toNat sub0)) then leI 7 else (bif !nk (SSub.sig (r.subs.getD i9.toNat sub0)) then
 leI 7 else (bif oki [AV.c (C.d (D.sl (1) n1 f1)), AV.c (.d (.v (.string (SSub.loc (r.subs.getD i9.toNat sub0)))))] then (bif decide (ix [AV.c (C.d (D.sl (1) n1 f1)), AV.c (.d (.v
 (.string (SSub.loc (r.subs.getD i9.toNat sub0)))))] ≥ 0) then leI 8 else (bif decide ((n1 + 1) * 16 ≤ 140737488355328) && decide (n1 + 1 ≤ 9223372036854775807) then AfD nk oki ix r
 g m (n1 + 1) (appF n1 f1 (Aat [dS (SSub.loc (r.subs.getD i9.toNat sub0))] (0 + 1))) (IntKind.wrap .i64 (i9 + 1)) else none)) else none))))) else none) else leI 0) := by kernel_rfl
end Go.Proofs.YtbpndheehcbldaaGreatDoor.se
namespace Go.Proofs.YtbpndheehcbldaaGreatDoor.st
open Go.RowKit Go.Eb
theorem bOr (a b : Bool) : (bif a then lB false else lB b) = lB (!a && b) := by cases a <;> rfl
theorem sBe : OrcS Tryz.prog oBe := .cons (.inl .nil Tryz.func113 (by kernel_rfl)) .nil
theorem sOh : OrcS Tryz.prog oOh := .cons (.inl sBe Tryz.func60 (by kernel_rfl)) sBe
theorem c49 (x : SBay) : CX Tryz.prog 115 [aBay x] [] (vB (Acd x)) [] := by
 refine Aau sOh.ok Tryz.func115 b49 rfl ((ev49 x 1).trans ?_)
 unfold ev49_1 ev49_2 ev49_3 ev49_4 ev49_5 ev49_6
 unfold Acd Ahj Aac
 cases h3 : (x.kind == 3) with
 | true =>
  cases h1 : (x.kind == 1) with
  | true => simp at h1 h3; omega
  | false =>
   simp only [cond_true, cond_false, fNot, bAnd, bOr, neN, Bool.and_true]
   refine congrArg lB ?_
   rw [Bool.eq_iff_iff]
   simp only [Bool.and_eq_true, decide_eq_true_eq, beq_iff_eq, Bool.not_eq_true', bne_iff_ne, ne_eq, Bool.not_not, Bool.or_eq_true, Bool.and_eq_false_iff, decide_eq_false_iff_not, beq_eq_false_iff_ne, Bool.not_eq_false', Bool.not_and, Bool.not_or]
   omega
 | false =>
  cases h1 : (x.kind == 1) with
  | true =>
   simp only [cond_true, cond_false, fNot, bAnd, bOr, neN, Bool.and_true]
   refine congrArg lB ?_
   rw [Bool.eq_iff_iff]
   simp only [Bool.and_eq_true, decide_eq_true_eq, beq_iff_eq, Bool.not_eq_true', bne_iff_ne, ne_eq, Bool.not_not, Bool.or_eq_true, Bool.and_eq_false_iff, decide_eq_false_iff_not, beq_eq_false_iff_ne, Bool.not_eq_false', Bool.not_and, Bool.not_or]
   omega
  | false =>
   simp only [cond_true, cond_false, fNot, bAnd, bOr, neN, Bool.and_true]
   refine congrArg lB ?_
   rw [Bool.eq_iff_iff]
   simp only [Bool.and_eq_true, decide_eq_true_eq, beq_iff_eq, Bool.not_eq_true', bne_iff_ne, ne_eq, Bool.not_not, Bool.or_eq_true, Bool.and_eq_false_iff, decide_eq_false_iff_not, beq_eq_false_iff_ne, Bool.not_eq_false', Bool.not_and, Bool.not_or]
   omega
theorem bge (b : Int) (n : Nat) : (decide (b < 0) || decide (b ≥ (n : Int))) = !Aac b 0 ((n : Int) - 1) := by
 unfold Aac
 rw [Bool.eq_iff_iff]
 simp only [Bool.or_eq_true, decide_eq_true_eq, Bool.not_eq_true', Bool.and_eq_false_iff, decide_eq_false_iff_not]
 omega
theorem lp50 (s : SSta) (x : SBay) (hl : x.links.length ≤ 9223372036854775807) (g : Nat) : ∀ (m k : Nat), k ≤ x.links.length → x.links.length - k < m → L50_5 s x g m k = lI (AdU s.buses.length x.kind (prevB x.links k) (x.links.drop k)) []
 | 0, k, _, h => by omega
 | m + 1, k, hk, h => by
  rw [st50_5]
  by_cases hlt : k < x.links.length
  ·have ih := lp50 s x hl g m (k + 1) (by omega) (by omega)
   rw [Aar (d := AaH) hlt]
   simp only [lt1 hlt, ge0, tn, Bool.and_self, cond_true, nx hlt (by omega), ih, AdU, fOr, bge]
   cases k with
   | zero =>
    simp only [prevB, List.getD_cons_zero]
    generalize Aac (x.links.getD 0 AaH).bus 0 ((s.buses.length : Int) - 1) = b1
    generalize ((x.links.getD 0 AaH).pos != 1) = b3
    generalize ((x.links.getD 0 AaH).pos != 0) = b4
    generalize (x.kind == 3) = b5
    cases b1 <;> cases b3 <;> cases b4 <;> cases b5 <;> rfl
   | succ k =>
    have e1 : IntKind.wrap IntKind.i64 (((k + 1 : Nat) : Int) - 1) = (k : Int) := by rw [AdI (by omega) (by omega)]; omega
    have e2 : decide (((k + 1 : Nat) : Int) > 0) = true := by rw [gt0]; simp
    have e3 : decide ((k : Int) < (x.links.length : Int)) = true := lt1 (by omega)
    have e4 : (some (x.links.getD k AaH).bus == some (x.links.getD (k + 1) AaH).bus) = ((x.links.getD (k + 1) AaH).bus == (x.links.getD k AaH).bus) := by
     show ((x.links.getD k AaH).bus == (x.links.getD (k + 1) AaH).bus) = _
     exact Bool.beq_comm
    simp only [prevB, e1, e2, e3, e4, ge0, tn, Bool.and_self, cond_true]
    generalize Aac (x.links.getD (k + 1) AaH).bus 0 ((s.buses.length : Int) - 1) = b1
    generalize ((x.links.getD (k + 1) AaH).pos != 1) = b3
    generalize ((x.links.getD (k + 1) AaH).pos != 0) = b4
    generalize (x.kind == 3) = b5
    generalize ((x.links.getD (k + 1) AaH).bus == (x.links.getD k AaH).bus) = b6
    cases b1 <;> cases b3 <;> cases b4 <;> cases b5 <;> cases b6 <;> rfl
  ·rw [lt0 hlt, List.drop_of_length_le (by omega)]
   rfl
theorem c50 (s : SSta) (x : SBay) (hl : x.links.length ≤ 9223372036854775807) : CX Tryz.prog 116 [aSta s, aBay x] [] (vI (Abg s.buses.length x)) [] := by
 obtain ⟨g, hg⟩ : ∃ g, x.links.length < g := ⟨x.links.length + 1, by omega⟩
 refine Aau (Orc.nil_ok _) Tryz.func116 b50 rfl ((ev50 s x g).trans ?_)
 have e0 : L50_5 s x g g 0 = lI (AdU s.buses.length x.kind none x.links) [] := lp50 s x hl g g 0 (by omega) (by omega)
 rw [e0, len_lt1, len_gt2, len_ne2]
 unfold Abg
 generalize decide (x.links.length < 1) = b1
 generalize decide (2 < x.links.length) = b2
 generalize (x.kind == 3) = b3
 generalize (x.links.length != 2) = b4
 cases b1 <;> cases b2 <;> cases b3 <;> cases b4 <;> rfl
end Go.Proofs.YtbpndheehcbldaaGreatDoor.st
namespace Go.Proofs.YtbpndheehcbldaaGreatDoor.se
open Go.RowKit Go.Eb
noncomputable def oB3 : Orc := Orc.cons 186 (ansP dec3 fun a => vB (Aac a.1 a.2.1 a.2.2)) Orc.nil
noncomputable def oNu (okr zo : List AV → Bool) : Orc := Orc.cons 185 (ansG okr fun x => vB (zo x)) (Orc.cons 187 (ansP decE fun a => vB (elOk a.1 a.2.1 a.2.2.1 a.2.2.2)) oB3)
theorem evBt_t (a b c : Int) : Aai Tryz.prog Orc.nil na 5 Tryz.f186 (Aad Tryz.f186) [vI a, vI b, vI c] [] =
 (bif decide (a ≥ b) then leB (decide (a ≤ c)) else leB false) := by kernel_rfl
noncomputable def evBt_v (a b c : Int) : Bool :=
 (bif decide (a ≥ b) then ((decide (a ≤ c))) else (false))
theorem evBt (a b c : Int) : Aai Tryz.prog Orc.nil na 5 Tryz.f186 (Aad Tryz.f186) [vI a, vI b, vI c] [] = some (.leaf (vB (evBt_v a b c), [])) := by
 rw [evBt_t]
 unfold evBt_v
 simp only [Aeh]
theorem evEm_t (o : Bool) (a b c : Int) : Aai Tryz.prog oB3 na 5 Tryz.f187 (Aad Tryz.f187) [.agg [.d (dB o), .d (dI a), .d (dI b)], vI c] [] =
 (bif !o then leB (o == false && (a == 0 && (b == 0 && true))) else (bif Aac a 1 16383 then leB (Aac b c 500) else leB false)) := by kernel_rfl
noncomputable def evEm_v (o : Bool) (a b c : Int) : Bool :=
 (bif !o then ((o == false && (a == (0 : Int) && (b == (0 : Int) && true)))) else (bif Aac a (1 : Int) (16383 : Int) then ((Aac b c (500 : Int))) else (false)))
theorem evEm (o : Bool) (a b c : Int) : Aai Tryz.prog oB3 na 5 Tryz.f187 (Aad Tryz.f187) [.agg [.d (dB o), .d (dI a), .d (dI b)], vI c] [] = some (.leaf (vB (evEm_v o a b c), [])) := by
 rw [evEm_t]
 unfold evEm_v
 simp only [Aeh]
theorem ev88_t (r : SRel) : Aai Tryz.prog oB3 na 5 Tryz.f119 (Aad Tryz.f119) [aRel r] [] =
 (bif !r.kind == 1 then (bif !(r.zon0 == false && (r.zfw0 == false && (r.zx0 == 0 && (r.zr0 == 0 && (r.zl0 == 0 && (r.zd0 == 0 && true))))) && (r.zon1 == false && (r.zfw1 == false
 && (r.zx1 == 0 && (r.zr1 == 0 && (r.zl1 == 0 && (r.zd1 == 0 && true))))) && (r.zon2 == false && (r.zfw2 == false && (r.zx2 == 0 && (r.zr2 == 0 && (r.zl2 == 0 && (r.zd2 == 0 &&
 true))))) && true))) then leB true else (bif r.min != 0 then leB true else (bif r.kre != 0 then leB true else (bif r.kim != 0 then leB true else (bif r.scheme != 0 then leB true
 else (bif r.wait != 0 then leB true else (bif r.guard != 0 then leB true else (bif r.shots != 0 then leB true else (bif r.dead != 0 then leB true else (bif r.reclaim != 0 then leB
 true else (bif !r.kind == 2 then (bif !(r.uon == false && (r.upk == 0 && (r.udl == 0 && true))) then leB true else (bif !(r.oon == false && (r.opk == 0 && (r.odl == 0 && true)))
 then leB true else (bif r.kind == 4 then (bif !(r.don == false && (r.dpk == 0 && (r.ddl == 0 && true))) then leB true else (bif !(r.ion == false && (r.ipk == 0 && (r.idl == 0 &&
 true))) then leB true else (bif !(r.fon == false && (r.fpk == 0 && (r.fdl == 0 && true))) then leB true else (bif !r.kind == 4 then (bif r.diff != 0 then leB true else (bif r.num
 != 0 then leB true else (bif r.den != 0 then leB true else leB (r.harm != 0)))) else leB false)))) else (bif !r.kind == 4 then (bif r.diff != 0 then leB true else (bif r.num != 0
 then leB true else (bif r.den != 0 then leB true else leB (r.harm != 0)))) else leB false)))) else (bif r.kind == 4 then (bif !(r.don == false && (r.dpk == 0 && (r.ddl == 0 &&
 true))) then leB true else (bif !(r.ion == false && (r.ipk == 0 && (r.idl == 0 && true))) then leB true else (bif !(r.fon == false && (r.fpk == 0 && (r.fdl == 0 && true))) then leB
 true else (bif !r.kind == 4 then (bif r.diff != 0 then leB true else (bif r.num != 0 then leB true else (bif r.den != 0 then leB true else leB (r.harm != 0)))) else leB false))))
 else (bif !r.kind == 4 then (bif r.diff != 0 then leB true else (bif r.num != 0 then leB true else (bif r.den != 0 then leB true else leB (r.harm != 0)))) else leB
 false))))))))))))) else (bif !r.kind == 2 then (bif !(r.uon == false && (r.upk == 0 && (r.udl == 0 && true))) then leB true else (bif !(r.oon == false && (r.opk == 0 && (r.odl == 0
 && true))) then leB true else (bif r.kind == 4 then (bif !(r.don == false && (r.dpk == 0 && (r.ddl == 0 && true))) then leB true else (bif !(r.ion == false && (r.ipk == 0 && (r.idl
 == 0 && true))) then leB true else (bif !(r.fon == false && (r.fpk == 0 && (r.fdl == 0 && true))) then leB true else (bif !r.kind == 4 then (bif r.diff != 0 then leB true else (bif
 r.num != 0 then leB true else (bif r.den != 0 then leB true else leB (r.harm != 0)))) else leB false)))) else (bif !r.kind == 4 then (bif r.diff != 0 then leB true else (bif r.num
 != 0 then leB true else (bif r.den != 0 then leB true else leB (r.harm != 0)))) else leB false)))) else (bif r.kind == 4 then (bif !(r.don == false && (r.dpk == 0 && (r.ddl == 0 &&
 true))) then leB true else (bif !(r.ion == false && (r.ipk == 0 && (r.idl == 0 && true))) then leB true else (bif !(r.fon == false && (r.fpk == 0 && (r.fdl == 0 && true))) then leB
 true else (bif !r.kind == 4 then (bif r.diff != 0 then leB true else (bif r.num != 0 then leB true else (bif r.den != 0 then leB true else leB (r.harm != 0)))) else leB false))))
 else (bif !r.kind == 4 then (bif r.diff != 0 then leB true else (bif r.num != 0 then leB true else (bif r.den != 0 then leB true else leB (r.harm != 0)))) else leB false)))) := by kernel_rfl
noncomputable def ev88_v (r : SRel) : Bool :=
 (bif !SRel.kind r == (1 : Int) then (bif !(SRel.zon0 r == false && (SRel.zfw0 r == false && (SRel.zx0 r == (0 : Int) && (SRel.zr0 r == (0 : Int) && (SRel.zl0 r == (0 : Int) &&
 (SRel.zd0 r == (0 : Int) && true))))) && (SRel.zon1 r == false && (SRel.zfw1 r == false && (SRel.zx1 r == (0 : Int) && (SRel.zr1 r == (0 : Int) && (SRel.zl1 r == (0 : Int) &&
 (SRel.zd1 r == (0 : Int) && true))))) && (SRel.zon2 r == false && (SRel.zfw2 r == false && (SRel.zx2 r == (0 : Int) && (SRel.zr2 r == (0 : Int) && (SRel.zl2 r == (0 : Int) &&
 (SRel.zd2 r == (0 : Int) && true))))) && true))) then (true) else (bif SRel.min r != (0 : Int) then (true) else (bif SRel.kre r != (0 : Int) then (true) else (bif SRel.kim r != (0 :
 Int) then (true) else (bif SRel.scheme r != (0 : Int) then (true) else (bif SRel.wait r != (0 : Int) then (true) else (bif SRel.guard r != (0 : Int) then (true) else (bif SRel.shots
 r != (0 : Int) then (true) else (bif SRel.dead r != (0 : Int) then (true) else (bif SRel.reclaim r != (0 : Int) then (true) else (bif !SRel.kind r == (2 : Int) then (bif !(SRel.uon
 r == false && (SRel.upk r == (0 : Int) && (SRel.udl r == (0 : Int) && true))) then (true) else (bif !(SRel.oon r == false && (SRel.opk r == (0 : Int) && (SRel.odl r == (0 : Int) &&
 true))) then (true) else (bif SRel.kind r == (4 : Int) then (bif !(SRel.don r == false && (SRel.dpk r == (0 : Int) && (SRel.ddl r == (0 : Int) && true))) then (true) else (bif
 !(SRel.ion r == false && (SRel.ipk r == (0 : Int) && (SRel.idl r == (0 : Int) && true))) then (true) else (bif !(SRel.fon r == false && (SRel.fpk r == (0 : Int) && (SRel.fdl r == (0
 : Int) && true))) then (true) else (bif !SRel.kind r == (4 : Int) then (bif SRel.diff r != (0 : Int) then (true) else (bif SRel.num r != (0 : Int) then (true) else (bif SRel.den r
 != (0 : Int) then (true) else ((SRel.harm r != (0 : Int)))))) else (false))))) else (bif !SRel.kind r == (4 : Int) then (bif SRel.diff r != (0 : Int) then (true) else (bif SRel.num
 r != (0 : Int) then (true) else (bif SRel.den r != (0 : Int) then (true) else ((SRel.harm r != (0 : Int)))))) else (false))))) else (bif SRel.kind r == (4 : Int) then (bif
 !(SRel.don r == false && (SRel.dpk r == (0 : Int) && (SRel.ddl r == (0 : Int) && true))) then (true) else (bif !(SRel.ion r == false && (SRel.ipk r == (0 : Int) && (SRel.idl r == (0
 : Int) && true))) then (true) else (bif !(SRel.fon r == false && (SRel.fpk r == (0 : Int) && (SRel.fdl r == (0 : Int) && true))) then (true) else (bif !SRel.kind r == (4 : Int) then
 (bif SRel.diff r != (0 : Int) then (true) else (bif SRel.num r != (0 : Int) then (true) else (bif SRel.den r != (0 : Int) then (true) else ((SRel.harm r != (0 : Int)))))) else
 (false))))) else (bif !SRel.kind r == (4 : Int) then (bif SRel.diff r != (0 : Int) then (true) else (bif SRel.num r != (0 : Int) then (true) else (bif SRel.den r != (0 : Int) then
 (true) else ((SRel.harm r != (0 : Int)))))) else (false)))))))))))))) else (bif !SRel.kind r == (2 : Int) then (bif !(SRel.uon r == false && (SRel.upk r == (0 : Int) && (SRel.udl r
 == (0 : Int) && true))) then (true) else (bif !(SRel.oon r == false && (SRel.opk r == (0 : Int) && (SRel.odl r == (0 : Int) && true))) then (true) else (bif SRel.kind r == (4 : Int)
 then (bif !(SRel.don r == false && (SRel.dpk r == (0 : Int) && (SRel.ddl r == (0 : Int) && true))) then (true) else (bif !(SRel.ion r == false && (SRel.ipk r == (0 : Int) &&
 (SRel.idl r == (0 : Int) && true))) then (true) else (bif !(SRel.fon r == false && (SRel.fpk r == (0 : Int) && (SRel.fdl r == (0 : Int) && true))) then (true) else (bif !SRel.kind r
 == (4 : Int) then (bif SRel.diff r != (0 : Int) then (true) else (bif SRel.num r != (0 : Int) then (true) else (bif SRel.den r != (0 : Int) then (true) else ((SRel.harm r != (0 :
 Int)))))) else (false))))) else (bif !SRel.kind r == (4 : Int) then (bif SRel.diff r != (0 : Int) then (true) else (bif SRel.num r != (0 : Int) then (true) else (bif SRel.den r !=
 (0 : Int) then (true) else ((SRel.harm r != (0 : Int)))))) else (false))))) else (bif SRel.kind r == (4 : Int) then (bif !(SRel.don r == false && (SRel.dpk r == (0 : Int) &&
 (SRel.ddl r == (0 : Int) && true))) then (true) else (bif !(SRel.ion r == false && (SRel.ipk r == (0 : Int) && (SRel.idl r == (0 : Int) && true))) then (true) else (bif !(SRel.fon r
 == false && (SRel.fpk r == (0 : Int) && (SRel.fdl r == (0 : Int) && true))) then (true) else (bif !SRel.kind r == (4 : Int) then (bif SRel.diff r != (0 : Int) then (true) else (bif
 SRel.num r != (0 : Int) then (true) else (bif SRel.den r != (0 : Int) then (true) else ((SRel.harm r != (0 : Int)))))) else (false))))) else (bif !SRel.kind r == (4 : Int) then (bif
 SRel.diff r != (0 : Int) then (true) else (bif SRel.num r != (0 : Int) then (true) else (bif SRel.den r != (0 : Int) then (true) else ((SRel.harm r != (0 : Int)))))) else
 (false)))))
theorem ev88 (r : SRel) : Aai Tryz.prog oB3 na 5 Tryz.f119 (Aad Tryz.f119) [aRel r] [] = some (.leaf (vB (ev88_v r), [])) := by
 rw [ev88_t]
 unfold ev88_v
 simp only [Aeh]
theorem ev130_t (r : SRel) : Aai Tryz.prog oB3 na 5 Tryz.f185 (Aad Tryz.f185) [aRel r] [] =
 (bif !r.zon0 then (bif !(r.zon0 == false && (r.zfw0 == false && (r.zx0 == 0 && (r.zr0 == 0 && (r.zl0 == 0 && (r.zd0 == 0 && true)))))) then leB false else (bif !r.zon1 then (bif
 !(r.zon1 == false && (r.zfw1 == false && (r.zx1 == 0 && (r.zr1 == 0 && (r.zl1 == 0 && (r.zd1 == 0 && true)))))) then leB false else (bif !r.zon2 then (bif !(r.zon2 == false &&
 (r.zfw2 == false && (r.zx2 == 0 && (r.zr2 == 0 && (r.zl2 == 0 && (r.zd2 == 0 && true)))))) then leB false else (bif r.min == 0 then (bif r.kre == 0 then leB (r.kim == 0) else leB
 false) else leB false)) else (bif !Aac r.zx2 1 4000 then leB false else (bif !Aac r.zr2 0 4000 then leB false else (bif !Aac r.zl2 0 4000 then leB false else (bif !Aac r.zd2 0 500
 then leB false else (bif Aac r.min 1 16383 then (bif Aac r.kre (-200) 200 then leB (Aac r.kim (-200) 200) else leB false) else leB false))))))) else (bif !Aac r.zx1 1 4000 then leB
 false else (bif !Aac r.zr1 0 4000 then leB false else (bif !Aac r.zl1 0 4000 then leB false else (bif !Aac r.zd1 0 500 then leB false else (bif !r.zon2 then (bif !(r.zon2 == false
 && (r.zfw2 == false && (r.zx2 == 0 && (r.zr2 == 0 && (r.zl2 == 0 && (r.zd2 == 0 && true)))))) then leB false else (bif Aac r.min 1 16383 then (bif Aac r.kre (-200) 200 then leB
 (Aac r.kim (-200) 200) else leB false) else leB false)) else (bif !Aac r.zx2 1 4000 then leB false else (bif !Aac r.zr2 0 4000 then leB false else (bif !Aac r.zl2 0 4000 then leB
 false else (bif !Aac r.zd2 0 500 then leB false else (bif Aac r.min 1 16383 then (bif Aac r.kre (-200) 200 then leB (Aac r.kim (-200) 200) else leB false) else leB
 false)))))))))))) else (bif !Aac r.zx0 1 4000 then leB false else (bif !Aac r.zr0 0 4000 then leB false else (bif !Aac r.zl0 0 4000 then leB false else (bif !Aac r.zd0 0 500 then
 leB false else (bif !r.zon1 then (bif !(r.zon1 == false && (r.zfw1 == false && (r.zx1 == 0 && (r.zr1 == 0 && (r.zl1 == 0 && (r.zd1 == 0 && true)))))) then leB false else (bif
 !r.zon2 then (bif !(r.zon2 == false && (r.zfw2 == false && (r.zx2 == 0 && (r.zr2 == 0 && (r.zl2 == 0 && (r.zd2 == 0 && true)))))) then leB false else (bif Aac r.min 1 16383 then
 (bif Aac r.kre (-200) 200 then leB (Aac r.kim (-200) 200) else leB false) else leB false)) else (bif !Aac r.zx2 1 4000 then leB false else (bif !Aac r.zr2 0 4000 then leB false
 else (bif !Aac r.zl2 0 4000 then leB false else (bif !Aac r.zd2 0 500 then leB false else (bif Aac r.min 1 16383 then (bif Aac r.kre (-200) 200 then leB (Aac r.kim (-200) 200) else
 leB false) else leB false))))))) else (bif !Aac r.zx1 1 4000 then leB false else (bif !Aac r.zr1 0 4000 then leB false else (bif !Aac r.zl1 0 4000 then leB false else (bif !Aac
 r.zd1 0 500 then leB false else (bif !r.zon2 then (bif !(r.zon2 == false && (r.zfw2 == false && (r.zx2 == 0 && (r.zr2 == 0 && (r.zl2 == 0 && (r.zd2 == 0 && true)))))) then leB
 false else (bif Aac r.min 1 16383 then (bif Aac r.kre (-200) 200 then leB (Aac r.kim (-200) 200) else leB false) else leB false)) else (bif !Aac r.zx2 1 4000 then leB false else
 (bif !Aac r.zr2 0 4000 then leB false else (bif !Aac r.zl2 0 4000 then leB false else (bif !Aac r.zd2 0 500 then leB false else (bif Aac r.min 1 16383 then (bif Aac r.kre (-200)
 200 then leB (Aac r.kim (-200) 200) else leB false) else leB false)))))))))))))))) := by kernel_rfl
noncomputable def ev130_v (r : SRel) : Bool :=
 (bif !SRel.zon0 r then (bif !(SRel.zon0 r == false && (SRel.zfw0 r == false && (SRel.zx0 r == (0 : Int) && (SRel.zr0 r == (0 : Int) && (SRel.zl0 r == (0 : Int) && (SRel.zd0 r == (0
 : Int) && true)))))) then (false) else (bif !SRel.zon1 r then (bif !(SRel.zon1 r == false && (SRel.zfw1 r == false && (SRel.zx1 r == (0 : Int) && (SRel.zr1 r == (0 : Int) &&
 (SRel.zl1 r == (0 : Int) && (SRel.zd1 r == (0 : Int) && true)))))) then (false) else (bif !SRel.zon2 r then (bif !(SRel.zon2 r == false && (SRel.zfw2 r == false && (SRel.zx2 r == (0
 : Int) && (SRel.zr2 r == (0 : Int) && (SRel.zl2 r == (0 : Int) && (SRel.zd2 r == (0 : Int) && true)))))) then (false) else (bif SRel.min r == (0 : Int) then (bif SRel.kre r == (0 :
 Int) then ((SRel.kim r == (0 : Int))) else (false)) else (false))) else (bif !Aac (SRel.zx2 r) (1 : Int) (4000 : Int) then (false) else (bif !Aac (SRel.zr2 r) (0 : Int) (4000
 : Int) then (false) else (bif !Aac (SRel.zl2 r) (0 : Int) (4000 : Int) then (false) else (bif !Aac (SRel.zd2 r) (0 : Int) (500 : Int) then (false) else (bif Aac (SRel.min
 r) (1 : Int) (16383 : Int) then (bif Aac (SRel.kre r) (-200 : Int) (200 : Int) then ((Aac (SRel.kim r) (-200 : Int) (200 : Int))) else (false)) else (false)))))))) else (bif
 !Aac (SRel.zx1 r) (1 : Int) (4000 : Int) then (false) else (bif !Aac (SRel.zr1 r) (0 : Int) (4000 : Int) then (false) else (bif !Aac (SRel.zl1 r) (0 : Int) (4000 : Int)
 then (false) else (bif !Aac (SRel.zd1 r) (0 : Int) (500 : Int) then (false) else (bif !SRel.zon2 r then (bif !(SRel.zon2 r == false && (SRel.zfw2 r == false && (SRel.zx2 r == (0
 : Int) && (SRel.zr2 r == (0 : Int) && (SRel.zl2 r == (0 : Int) && (SRel.zd2 r == (0 : Int) && true)))))) then (false) else (bif Aac (SRel.min r) (1 : Int) (16383 : Int) then (bif
 Aac (SRel.kre r) (-200 : Int) (200 : Int) then ((Aac (SRel.kim r) (-200 : Int) (200 : Int))) else (false)) else (false))) else (bif !Aac (SRel.zx2 r) (1 : Int) (4000 : Int)
 then (false) else (bif !Aac (SRel.zr2 r) (0 : Int) (4000 : Int) then (false) else (bif !Aac (SRel.zl2 r) (0 : Int) (4000 : Int) then (false) else (bif !Aac (SRel.zd2 r) (0
 : Int) (500 : Int) then (false) else (bif Aac (SRel.min r) (1 : Int) (16383 : Int) then (bif Aac (SRel.kre r) (-200 : Int) (200 : Int) then ((Aac (SRel.kim r) (-200 : Int)
 (200 : Int))) else (false)) else (false))))))))))))) else (bif !Aac (SRel.zx0 r) (1 : Int) (4000 : Int) then (false) else (bif !Aac (SRel.zr0 r) (0 : Int) (4000 : Int) then
 (false) else (bif !Aac (SRel.zl0 r) (0 : Int) (4000 : Int) then (false) else (bif !Aac (SRel.zd0 r) (0 : Int) (500 : Int) then (false) else (bif !SRel.zon1 r then (bif
 !(SRel.zon1 r == false && (SRel.zfw1 r == false && (SRel.zx1 r == (0 : Int) && (SRel.zr1 r == (0 : Int) && (SRel.zl1 r == (0 : Int) && (SRel.zd1 r == (0 : Int) && true)))))) then
 (false) else (bif !SRel.zon2 r then (bif !(SRel.zon2 r == false && (SRel.zfw2 r == false && (SRel.zx2 r == (0 : Int) && (SRel.zr2 r == (0 : Int) && (SRel.zl2 r == (0 : Int) &&
 (SRel.zd2 r == (0 : Int) && true)))))) then (false) else (bif Aac (SRel.min r) (1 : Int) (16383 : Int) then (bif Aac (SRel.kre r) (-200 : Int) (200 : Int) then ((Aac
 (SRel.kim r) (-200 : Int) (200 : Int))) else (false)) else (false))) else (bif !Aac (SRel.zx2 r) (1 : Int) (4000 : Int) then (false) else (bif !Aac (SRel.zr2 r) (0 : Int)
 (4000 : Int) then (false) else (bif !Aac (SRel.zl2 r) (0 : Int) (4000 : Int) then (false) else (bif !Aac (SRel.zd2 r) (0 : Int) (500 : Int) then (false) else (bif Aac
 (SRel.min r) (1 : Int) (16383 : Int) then (bif Aac (SRel.kre r) (-200 : Int) (200 : Int) then ((Aac (SRel.kim r) (-200 : Int) (200 : Int))) else (false)) else (false))))))))
 else (bif !Aac (SRel.zx1 r) (1 : Int) (4000 : Int) then (false) else (bif !Aac (SRel.zr1 r) (0 : Int) (4000 : Int) then (false) else (bif !Aac (SRel.zl1 r) (0 : Int) (4000
 : Int) then (false) else (bif !Aac (SRel.zd1 r) (0 : Int) (500 : Int) then (false) else (bif !SRel.zon2 r then (bif !(SRel.zon2 r == false && (SRel.zfw2 r == false && (SRel.zx2 r
 == (0 : Int) && (SRel.zr2 r == (0 : Int) && (SRel.zl2 r == (0 : Int) && (SRel.zd2 r == (0 : Int) && true)))))) then (false) else (bif Aac (SRel.min r) (1 : Int) (16383 : Int)
 then (bif Aac (SRel.kre r) (-200 : Int) (200 : Int) then ((Aac (SRel.kim r) (-200 : Int) (200 : Int))) else (false)) else (false))) else (bif !Aac (SRel.zx2 r) (1 : Int)
 (4000 : Int) then (false) else (bif !Aac (SRel.zr2 r) (0 : Int) (4000 : Int) then (false) else (bif !Aac (SRel.zl2 r) (0 : Int) (4000 : Int) then (false) else (bif !Aac
 (SRel.zd2 r) (0 : Int) (500 : Int) then (false) else (bif Aac (SRel.min r) (1 : Int) (16383 : Int) then (bif Aac (SRel.kre r) (-200 : Int) (200 : Int) then ((Aac (SRel.kim
 r) (-200 : Int) (200 : Int))) else (false)) else (false)))))))))))))))))
theorem ev130 (r : SRel) : Aai Tryz.prog oB3 na 5 Tryz.f185 (Aad Tryz.f185) [aRel r] [] = some (.leaf (vB (ev130_v r), [])) := by
 rw [ev130_t]
 unfold ev130_v
 simp only [Aeh]
theorem ev90_t (r : SRel) : Aai Tryz.prog oB3 na 5 Tryz.f121 (Aad Tryz.f121) [aRel r] [] =
 (bif r.zon0 then (bif r.zon1 then (bif r.scheme == 1 then (bif !r.zfw0 then leB true else leB !r.zfw1) else (bif r.scheme == 2 then leB !r.zfw1 else (bif r.scheme == 3 then (bif
 !r.zfw1 then leB true else (bif !r.zon2 then leB true else leB r.zfw2)) else leB false))) else (bif r.scheme == 1 then (bif !r.zfw0 then leB true else leB true) else (bif r.scheme
 == 2 then leB true else (bif r.scheme == 3 then leB true else leB false)))) else (bif r.zon1 then (bif r.scheme == 1 then leB true else (bif r.scheme == 2 then leB !r.zfw1 else
 (bif r.scheme == 3 then (bif !r.zfw1 then leB true else (bif !r.zon2 then leB true else leB r.zfw2)) else leB false))) else (bif r.scheme == 1 then leB true else (bif r.scheme == 2
 then leB true else (bif r.scheme == 3 then leB true else leB false))))) := by kernel_rfl
noncomputable def ev90_v (r : SRel) : Bool :=
 (bif SRel.zon0 r then (bif SRel.zon1 r then (bif SRel.scheme r == (1 : Int) then (bif !SRel.zfw0 r then (true) else (!SRel.zfw1 r)) else (bif SRel.scheme r == (2 : Int) then
 (!SRel.zfw1 r) else (bif SRel.scheme r == (3 : Int) then (bif !SRel.zfw1 r then (true) else (bif !SRel.zon2 r then (true) else ((SRel.zfw2 r)))) else (false)))) else (bif
 SRel.scheme r == (1 : Int) then (bif !SRel.zfw0 r then (true) else (true)) else (bif SRel.scheme r == (2 : Int) then (true) else (bif SRel.scheme r == (3 : Int) then (true) else
 (false))))) else (bif SRel.zon1 r then (bif SRel.scheme r == (1 : Int) then (true) else (bif SRel.scheme r == (2 : Int) then (!SRel.zfw1 r) else (bif SRel.scheme r == (3 : Int) then
 (bif !SRel.zfw1 r then (true) else (bif !SRel.zon2 r then (true) else ((SRel.zfw2 r)))) else (false)))) else (bif SRel.scheme r == (1 : Int) then (true) else (bif SRel.scheme r ==
 (2 : Int) then (true) else (bif SRel.scheme r == (3 : Int) then (true) else (false))))))
theorem ev90 (r : SRel) : Aai Tryz.prog oB3 na 5 Tryz.f121 (Aad Tryz.f121) [aRel r] [] = some (.leaf (vB (ev90_v r), [])) := by
 rw [ev90_t]
 unfold ev90_v
 simp only [Aeh]
noncomputable def ann89 : Ann := AaE [(100003, ⟨[1], []⟩), (100005, ⟨[1], []⟩), (100007, ⟨[1], []⟩), (100009, ⟨[1], []⟩), (100011, ⟨[1], []⟩), (100013, ⟨[1], []⟩)]
noncomputable def L89_3 (okr zo : List AV → Bool) (r : SRel) (g m : Nat)  := GK Tryz.prog (oNu okr zo) ann89 0 g Tryz.f120 3 m ⟨frm [(1, .c (.ptr 0 0))] 0 Tryz.f120.ntmps, [(0, Blk.cells (List.map C.d (relC r)) 64)], 1⟩
noncomputable def L89_5 (okr zo : List AV → Bool) (r : SRel) (g m : Nat)  := GK Tryz.prog (oNu okr zo) ann89 0 g Tryz.f120 5 m ⟨frm [(1, .c (.ptr 0 0))] 0 Tryz.f120.ntmps, [(0, Blk.cells (List.map C.d (relC r)) 64)], 1⟩
noncomputable def L89_7 (okr zo : List AV → Bool) (r : SRel) (g m : Nat)  := GK Tryz.prog (oNu okr zo) ann89 0 g Tryz.f120 7 m ⟨frm [(1, .c (.ptr 0 0))] 0 Tryz.f120.ntmps, [(0, Blk.cells (List.map C.d (relC r)) 64)], 1⟩
noncomputable def L89_9 (okr zo : List AV → Bool) (r : SRel) (g m : Nat)  := GK Tryz.prog (oNu okr zo) ann89 0 g Tryz.f120 9 m ⟨frm [(1, .c (.ptr 0 0))] 0 Tryz.f120.ntmps, [(0, Blk.cells (List.map C.d (relC r)) 64)], 1⟩
noncomputable def L89_11 (okr zo : List AV → Bool) (r : SRel) (g m : Nat)  := GK Tryz.prog (oNu okr zo) ann89 0 g Tryz.f120 11 m ⟨frm [(1, .c (.ptr 0 0))] 0 Tryz.f120.ntmps, [(0, Blk.cells (List.map C.d (relC r)) 64)], 1⟩
noncomputable def L89_13 (okr zo : List AV → Bool) (r : SRel) (g m : Nat)  := GK Tryz.prog (oNu okr zo) ann89 0 g Tryz.f120 13 m ⟨frm [(1, .c (.ptr 0 0))] 0 Tryz.f120.ntmps, [(0, Blk.cells (List.map C.d (relC r)) 64)], 1⟩
theorem b89 : Tryz.f120.body = some (Aad Tryz.f120) := by kernel_rfl
theorem ev89 (okr zo : List AV → Bool) (r : SRel) (g : Nat) : Aai Tryz.prog (oNu okr zo) ann89 g Tryz.f120 (Aad Tryz.f120) [aRel r] [] =
 (bif okr [AV.agg (List.map C.d (relC r))] then (bif !zo [AV.agg (List.map C.d (relC r))] then leB false else (bif !Aac r.scheme 0 3 then leB false else (bif !Aac r.guard 0 50 then
 leB false else (bif r.scheme == 0 then (bif r.guard != 0 then leB false else L89_3 okr zo r g g) else L89_3 okr zo r g g)))) else none) := by kernel_rfl
theorem st89_3 (okr zo : List AV → Bool) (r : SRel) (g m : Nat) : L89_3 okr zo r g (m + 1) =
 (bif r.scheme == 3 then (bif !Aac r.wait 1 50 then leB false else (bif r.scheme != 3 then (bif r.wait != 0 then leB false else L89_5 okr zo r g g) else L89_5 okr zo r g g)) else
 (bif r.scheme != 3 then (bif r.wait != 0 then leB false else L89_5 okr zo r g g) else L89_5 okr zo r g g)) := by kernel_rfl
theorem st89_5 (okr zo : List AV → Bool) (r : SRel) (g m : Nat) : L89_5 okr zo r g (m + 1) =
 (bif !elOk r.don r.dpk r.ddl 0 then leB false else (bif !elOk r.uon r.upk r.udl 0 then leB false else (bif !elOk r.oon r.opk r.odl 0 then leB false else (bif !elOk r.fon r.fpk
 r.fdl 1 then leB false else L89_7 okr zo r g g)))) := by kernel_rfl
theorem st89_7 (okr zo : List AV → Bool) (r : SRel) (g m : Nat) : L89_7 okr zo r g (m + 1) =
 (bif r.ion then (bif !Aac r.ipk 1 16383 then leB false else (bif !Aac r.idl 1 1000 then leB false else (bif !r.ion then (bif !(r.ion == false && (r.ipk == 0 && (r.idl == 0 &&
 true))) then leB false else L89_9 okr zo r g g) else L89_9 okr zo r g g))) else (bif !r.ion then (bif !(r.ion == false && (r.ipk == 0 && (r.idl == 0 && true))) then leB false else
 L89_9 okr zo r g g) else L89_9 okr zo r g g)) := by kernel_rfl
theorem st89_9 (okr zo : List AV → Bool) (r : SRel) (g m : Nat) : L89_9 okr zo r g (m + 1) =
 (bif !Aac r.shots 0 3 then leB false else (bif r.shots == 0 then (bif r.dead != 0 then leB false else (bif r.reclaim != 0 then leB false else (bif decide (r.shots > 0) then (bif
 !Aac r.dead 1 100 then leB false else (bif !Aac r.reclaim 1 1000 then leB false else L89_11 okr zo r g g)) else L89_11 okr zo r g g))) else (bif decide (r.shots > 0) then (bif !Aac
 r.dead 1 100 then leB false else (bif !Aac r.reclaim 1 1000 then leB false else L89_11 okr zo r g g)) else L89_11 okr zo r g g))) := by kernel_rfl
theorem st89_11 (okr zo : List AV → Bool) (r : SRel) (g m : Nat) : L89_11 okr zo r g (m + 1) =
 (bif !Aac r.diff 0 16383 then leB false else (bif r.diff == 0 then (bif r.num != 0 then leB false else (bif r.den != 0 then leB false else (bif r.harm != 0 then leB false else
 L89_13 okr zo r g g))) else L89_13 okr zo r g g)) := by kernel_rfl
theorem st89_13 (okr zo : List AV → Bool) (r : SRel) (g m : Nat) : L89_13 okr zo r g (m + 1) =
 (bif r.diff == 0 then leB true else (bif Aac r.den 1 100 then (bif Aac r.num 0 r.den then leB (Aac r.harm 0 100) else leB false) else leB false)) := by kernel_rfl
end Go.Proofs.YtbpndheehcbldaaGreatDoor.se
namespace Go.Proofs.YtbpndheehcbldaaGreatDoor.se
open Go.RowKit Go.Eb Go.Proofs.YtbpndheehcbldaaGreatDoor.st
theorem bIx : Tryz.f52.body = some (Aad Tryz.f52) := by kernel_rfl
theorem sIx {r : Orc} (h : OrcS Tryz.prog r) : OrcS Tryz.prog (oIx (okG eIx cIx) (fun x => idxF (theT eIx x).2 0 (theT eIx x).1) r) :=
 .cons (.lt (r := fun (a : List ByteArray × ByteArray) => vI (idxF a.2 0 a.1)) Tryz.func52 bIx (fun _ => rfl) fun a h => c46 a.1 a.2 (AaF h)) h
theorem cSelf (a b : Bool) : (bif a then (bif a then true else false) else b) = bif a then true else b := by cases a <;> rfl
theorem res_eq (s : ByteArray) : ev133_v s = AbJ s := by
 have h : ∀ a : ByteArray, (a.toList == s.toList) = (s.toList == a.toList) := fun a => Bool.beq_comm ..
 unfold ev133_v AbJ
 simp only [h, cSelf]
theorem c133 (s : ByteArray) : CX Tryz.prog 188 [vS s] [] (vB (AbJ s)) [] := by
 have hs : OrcS Tryz.prog (Orc.cons 52 (inl Tryz.prog Orc.nil na 20 Tryz.f52) Orc.nil) := .cons (.inl .nil Tryz.func52 bIx) .nil
 have := Aau hs.ok Tryz.func188 (by kernel_rfl) rfl (ev133 s)
 rw [res_eq] at this
 exact this
theorem c91 (r : SRel) (hr : Abk r = true) : CX Tryz.prog 122 [aRel r] [] (vB (!AaQ r)) [] := by
 obtain ⟨h1, h2, h3, h4, h5⟩ := AdR hr
 obtain ⟨g, hg⟩ : ∃ g, r.sets.length < g := ⟨r.sets.length + 1, by omega⟩
 refine Aau (Orc.nil_ok _) Tryz.func122 b91 rfl ((ev91 r g).trans ?_)
 have l1 := Adk (p := AdM) (l := r.sets) (d0 := set0) (L := fun m i => L91_4 r g m i) (A := lB true) (B := lB false) (fun m k hk => by
  rw [st91_4, lt1 hk, ge0, tn, nx hk h2]
  unfold AdM
  have e1 : decide (((r.sets.getD k set0).sigs.length : Int) < 1) = !decide (1 ≤ (r.sets.getD k set0).sigs.length) := by
   rw [Bool.eq_iff_iff, decide_eq_true_eq, Bool.not_eq_true', decide_eq_false_iff_not]; omega
  have e2 : decide (((r.sets.getD k set0).sigs.length : Int) > 24) = !decide ((r.sets.getD k set0).sigs.length ≤ 24) := by
   rw [Bool.eq_iff_iff, decide_eq_true_eq, Bool.not_eq_true', decide_eq_false_iff_not]; omega
  rw [e1, e2]
  cases decide (1 ≤ (r.sets.getD k set0).sigs.length) <;> cases decide ((r.sets.getD k set0).sigs.length ≤ 24) <;> rfl) (fun m => by rw [st91_4, lt0 (Nat.lt_irrefl _)]; rfl) g 0 (by omega) (by omega)
 have e1 : L91_4 r g g 0 = _ := l1
 have g1 : ∀ n k : Nat, decide ((n : Int) > (k : Int)) = !decide (n ≤ k) := fun n k => by
  rw [Bool.eq_iff_iff, decide_eq_true_eq, Bool.not_eq_true', decide_eq_false_iff_not]; omega
 have g16 := g1 r.rules.length 16
 have g4 := g1 r.sets.length 4
 have g4' := g1 r.pubs.length 4
 have g24 := g1 r.subs.length 24
 have f16 : decide ((r.rules.length : Int) > 16) = !decide (r.rules.length ≤ 16) := g16
 have f4 : decide ((r.sets.length : Int) > 4) = !decide (r.sets.length ≤ 4) := g4
 have f4' : decide ((r.pubs.length : Int) > 4) = !decide (r.pubs.length ≤ 4) := g4'
 have f24 : decide ((r.subs.length : Int) > 24) = !decide (r.subs.length ≤ 24) := g24
 rw [e1, f16, f4, f4', f24]
 simp only [List.drop_zero]
 unfold AaQ
 cases decide (r.rules.length ≤ 16) <;> cases decide (r.sets.length ≤ 4) <;> cases decide (r.pubs.length ≤ 4) <;> cases decide (r.subs.length ≤ 24) <;> cases r.sets.any AdM <;> rfl
theorem lp87 (s : SSta) (b : List SRel) (r : SRel) (g : Nat) (hb : b.length ≤ 9223372036854775807) (hg : b.length < g) : AfF s b r g g 0 = lN (seenB (b.map SRel.bay) r.bay) := by
 have l1 := Adk (p := fun x : SRel => x.bay == r.bay) (l := b) (d0 := rel0) (L := fun m i => AfF s b r g m i) (A := lN 12) (B := lN 0) (fun m k hk => by
  rw [st87_16, lt1 hk, ge0, tn, nx hk hb]; rfl) (fun m => by rw [st87_16, lt0 (Nat.lt_irrefl _)]; rfl) g 0 (by omega) (by omega)
 have e1 : AfF s b r g g 0 = _ := l1
 rw [e1]
 simp only [List.drop_zero]
 unfold seenB
 rw [List.any_map]
 have e2 : (b.any fun x => x.bay == r.bay) = b.any ((fun m => r.bay == m) ∘ SRel.bay) := by
  congr 1; funext x; exact Bool.beq_comm ..
 rw [e2]
 cases b.any ((fun m => r.bay == m) ∘ SRel.bay) <;> rfl
theorem c87 (s : SSta) (b : List SRel) (r : SRel) (hs : s.bays.length ≤ 9223372036854775807) (hb : Aaq b = true) : CX Tryz.prog 118 [aSta s, .c (.d (AbF b)), aRel r] [] (vI (AaK s.bays (b.map SRel.bay) r)) [] := by
 obtain ⟨g, hg⟩ : ∃ g, b.length < g := ⟨b.length + 1, by omega⟩
 refine Aau (Orc.nil_ok _) Tryz.func118 b87 rfl ((ev87 s b r g).trans ?_)
 rw [lp87 s b r g (AaF hb) hg]
 have w : Aac r.bay 0 ((s.bays.length : Int) - 1) = (!decide (r.bay < 0) && !decide (r.bay ≥ (s.bays.length : Int))) := by
  unfold Aac
  by_cases h1 : r.bay < 0
  ·rw [decide_eq_true h1, decide_eq_false (by omega)]; rfl
  ·by_cases h2 : r.bay ≥ (s.bays.length : Int)
   ·rw [decide_eq_false h1, decide_eq_true h2, decide_eq_false (show ¬ r.bay ≤ (s.bays.length : Int) - 1 by omega)]; simp
   ·rw [decide_eq_false h1, decide_eq_false h2, decide_eq_true (show r.bay ≤ (s.bays.length : Int) - 1 by omega), decide_eq_true (show r.bay ≥ 0 by omega)]; rfl
 have i : r.bay < (0 : Int) ∨ r.bay ≥ (s.bays.length : Int) ∨ (decide ((0 : Int) ≤ r.bay) && decide (r.bay < (s.bays.length : Int))) = true := by
  by_cases h1 : r.bay < 0
  ·exact .inl h1
  ·by_cases h2 : r.bay ≥ (s.bays.length : Int)
   ·exact .inr (.inl h2)
   ·refine .inr (.inr ?_); rw [decide_eq_true (by omega), decide_eq_true (by omega)]; rfl
 unfold AaK placeK
 rw [w]
 generalize seenB (b.map SRel.bay) r.bay = sb
 generalize (s.bays.getD r.bay.toNat bay0).kind = kd
 rcases i with h | h | h
 ·rw [decide_eq_true h]
  cases (r.kind == 1) <;> cases (r.kind == 2) <;> cases (r.kind == 3) <;> cases (r.kind == 4) <;> cases (r.bay != -1) <;> rfl
 ·rw [decide_eq_true h]
  cases decide (r.bay < 0) <;> cases (r.kind == 1) <;> cases (r.kind == 2) <;> cases (r.kind == 3) <;> cases (r.kind == 4) <;> cases (r.bay != -1) <;> rfl
 ·rw [h]
  cases decide (r.bay < 0) <;> cases decide (r.bay ≥ (s.bays.length : Int)) <;> cases (r.kind == 1) <;> cases (r.kind == 2) <;> cases (r.kind == 3) <;> cases (r.kind == 4) <;> cases (r.bay != -1) <;> cases (kd != 1) <;> cases (kd != 2) <;> cases (kd != 3) <;> rfl
noncomputable abbrev ix2 : List AV → Int := fun x => idxF (theT eIx x).2 0 (theT eIx x).1
noncomputable abbrev ok2 : List AV → Bool := okG eIx cIx
theorem ix_ge {n : Nat} {f : Nat → List D} {l : List ByteArray} (hr : RL busC e0 n f l) (hn : n ≤ 9000) (s : ByteArray) : ok2 [.c (.d (.sl 1 n f)), vS s] = true ∧ decide (ix2 [.c (.d (.sl 1 n f)), vS s] ≥ 0) = inB l s := by
 obtain ⟨h1, h2⟩ := ix_okr hr hn s
 refine ⟨h1, ?_⟩
 unfold ix2
 rw [h2, idxF_ge]
theorem s92 : OrcS Tryz.prog (o92 Aae AbJ ok2 ix2) := sIx (.cons (.p AcU c16) (.cons (.p AcU c133) .nil))
theorem lp92i (r : SRel) (g mo n : Nat) (f : Nat → List D) (k : Nat) (hs : (r.rules.getD k AaI).text.size ≤ 120) (hk : k < r.rules.length) (hl : r.rules.length ≤ 9000) (hn : n ≤ 9000) : ∀ (m j : Nat), j ≤ (r.rules.getD k AaI).text.size → (r.rules.getD k AaI).text.size - j < m →
  L92_13 Aae AbJ ok2 ix2 r g mo m n f k j = bif ((r.rules.getD k AaI).text.data.toList.drop j).any AfY then lN 5 else L92_3 Aae AbJ ok2 ix2 r g mo (n + 1) (appF n f (Aat (busC (r.rules.getD k AaI).name) 1)) ((k + 1 : Nat) : Int)
 | 0, j, _, h => by omega
 | m + 1, j, hj, h => by
  rw [st92_13, tn]
  have ih := lp92i r g mo n f k hs hk hl hn m (j + 1)
  generalize hx : r.rules.getD k AaI = x at ih hs hj h ⊢
  by_cases hlt : j < x.text.size
  ·have hlt' : j < x.text.data.toList.length := by simpa using hlt
   rw [Aar (d := 0) hlt', lt1 hlt, ge0, tn, nx hlt (by omega), ih (by omega) (by omega)]
   simp only [tt, cond_true, List.any_cons, AfY]
   generalize decide (((x.text.data.toList.getD j 0).toNat : Int) < 32) = a1
   generalize decide (((x.text.data.toList.getD j 0).toNat : Int) > 126) = a2
   generalize (((x.text.data.toList.getD j 0).toNat : Int) == 34) = a3
   cases a1 <;> cases a2 <;> cases a3 <;> rfl
  ·rw [lt0 hlt, List.drop_of_length_le (by simp; omega), AdE hn, nx hk (by omega)]
   rfl
theorem c92 (r : SRel) (h1 : r.rules.length ≤ 9000) : CX Tryz.prog 123 [aRel r] [] (vI (Acr r.rules)) [] := by
 obtain ⟨g, g1, g2⟩ : ∃ g, r.rules.length < g ∧ 120 < g := ⟨r.rules.length + 121, by omega, by omega⟩
 refine Aau s92.ok Tryz.func123 b92 rfl ((ev92 _ _ _ _ r g).trans ?_)
 have key := AcY (valid := AeC) (key := SRule.name) (rest := fun x => AcR x.text) (l := r.rules) (d0 := AaI) (L := fun m n f i => L92_3 Aae AbJ ok2 ix2 r g m n f i) (NX := lN 0) h1 (fun m k n f seen hk hr hn => by
  obtain ⟨q1, q2⟩ := ix_ge hr hn (r.rules.getD k AaI).name
  show L92_3 Aae AbJ ok2 ix2 r g (m + 1) n f k = _
  rw [st92_3, lt1 hk, ge0, tn]
  have q1' : ok2 [AV.c (C.d (D.sl 1 n f)), AV.c (C.d (D.v (Value.string (r.rules.getD k AaI).name)))] = true := q1
  have q2' : decide (ix2 [AV.c (C.d (D.sl 1 n f)), AV.c (C.d (D.v (Value.string (r.rules.getD k AaI).name)))] ≥ 0) = inB seen (r.rules.getD k AaI).name := q2
  rw [q1', q2']
  have hi := fun hs => lp92i r g m n f k hs hk h1 hn g 0 (by omega) (by omega)
  unfold AeC AcR
  simp only [tt, cond_true]
  have e120 : decide (((r.rules.getD k AaI).text.size : Int) > 120) = decide (120 < (r.rules.getD k AaI).text.size) := by
   rw [Bool.eq_iff_iff, decide_eq_true_eq, decide_eq_true_eq]; omega
  rw [e120]
  cases Aae (r.rules.getD k AaI).name with
  | false => rfl
  | true =>
   cases AbJ (r.rules.getD k AaI).name with
   | true => rfl
   | false =>
    cases inB seen (r.rules.getD k AaI).name with
    | true => rfl
    | false =>
     by_cases hs : 120 < (r.rules.getD k AaI).text.size
     ·rw [decide_eq_true hs]; rfl
     ·have hi' : L92_13 Aae AbJ ok2 ix2 r g m g n f k 0 = _ := hi (by omega)
      rw [decide_eq_false hs]
      simp only [Bool.not_true, Bool.not_false, Bool.and_self, cond_true, cond_false]
      refine Eq.trans hi' ?_
      simp only [List.drop_zero]
      cases ((r.rules.getD k AaI).text.data.toList.any AfY) <;> rfl) (fun m n f => by show L92_3 Aae AbJ ok2 ix2 r g (m + 1) n f (r.rules.length : Nat) = _; rw [st92_3, lt0 (Nat.lt_irrefl _)]; rfl) g 0 0 (fun _ => []) [] (.nil _) rfl (by omega) (by omega)
 refine Eq.trans (b := bif Acr r.rules != 0 then lN (Acr r.rules) else lN 0) key ?_
 cases hz : (Acr r.rules != 0) with
 | true => rfl
 | false =>
  have : Acr r.rules = 0 := by simpa using hz
  rw [this]; rfl
theorem cBt (a : Int × Int × Int) : CX Tryz.prog 186 [vI a.1, vI a.2.1, vI a.2.2] [] (vB (Aac a.1 a.2.1 a.2.2)) [] := by
 refine Aau (Orc.nil_ok _) Tryz.func186 (by kernel_rfl) rfl ((evBt a.1 a.2.1 a.2.2).trans ?_)
 unfold evBt_v Aac
 cases decide (a.1 ≥ a.2.1) <;> rfl
theorem s93 : OrcS Tryz.prog (o93 Aae ok2 ix2) := sIx (.cons (.p AcU c16) (.cons (.p dec3_ok cBt) .nil))
theorem lp93i (r : SRel) (g mo n : Nat) (f : Nat → List D) (k : Nat) (seen : List ByteArray) (hr : RL busC e0 n f seen) (hk : k < r.sets.length) (hl : r.sets.length ≤ 9000) (hn : n ≤ 9000) (hs : Afg (r.sets.getD k set0) = true) (hg : (r.sets.getD k set0).sigs.length < g) :
  L93_9 Aae ok2 ix2 r g mo g n f k 0 = bif !(r.sets.getD k set0).sigs.all Aae then lN 7 else bif inB seen (r.sets.getD k set0).name then lN 8 else L93_3 Aae ok2 ix2 r g mo (n + 1) (appF n f (Aat (busC (r.sets.getD k set0).name) 1)) ((k + 1 : Nat) : Int) := by
 have hS := AaF hs
 obtain ⟨q1, q2⟩ := ix_ge hr hn (r.sets.getD k set0).name
 have q1' : ok2 [AV.c (C.d (D.sl 1 n f)), AV.c (C.d (D.v (Value.string (r.sets.getD k set0).name)))] = true := q1
 have q2' : decide (ix2 [AV.c (C.d (D.sl 1 n f)), AV.c (C.d (D.v (Value.string (r.sets.getD k set0).name)))] ≥ 0) = inB seen (r.sets.getD k set0).name := q2
 have l1 := Adk (p := fun s => !Aae s) (l := (r.sets.getD k set0).sigs) (d0 := e0) (L := fun m i => L93_9 Aae ok2 ix2 r g mo m n f k i) (A := lN 7) (B := bif inB seen (r.sets.getD k set0).name then lN 8 else L93_3 Aae ok2 ix2 r g mo (n + 1) (appF n f (Aat (busC (r.sets.getD k set0).name) 1)) ((k + 1 : Nat) : Int)) (fun m j hj => by
  show L93_9 Aae ok2 ix2 r g mo (m + 1) n f k j = _
  rw [st93_9, tn, lt1 hj, ge0, tn, nx hj hS]; rfl) (fun m => by
  show L93_9 Aae ok2 ix2 r g mo (m + 1) n f k ((r.sets.getD k set0).sigs.length : Nat) = _
  rw [st93_9, tn, lt0 (Nat.lt_irrefl _), q1', q2', AdE hn, nx hk (by omega)]; rfl) g 0 (by omega) (by omega)
 have e1 : L93_9 Aae ok2 ix2 r g mo g n f k 0 = _ := l1
 rw [e1]
 simp only [List.drop_zero]
 rw [← anyAll, Bool.not_not]
theorem int_eq (x : SPub) : Acp x = bif !Aac x.fst 1 100 then 2 else bif !Aac x.max x.fst 1000 then 2 else 0 := by
 unfold Acp Aac
 cases decide (x.fst ≥ 1) <;> cases decide (x.fst ≤ 100) <;> cases decide (x.max ≥ x.fst) <;> cases decide (x.max ≤ 1000) <;> rfl
noncomputable def Adq (r : SRel) : Int := bif Ahs r.sets != 0 then Ahs r.sets else bif Ahu r.pubs != 0 then Ahu r.pubs else eSubs r.subs
theorem k93c (r : SRel) (g : Nat) (h3 : r.subs.length ≤ 9000) (g3 : r.subs.length < g) : AfD Aae ok2 ix2 r g g 0 (fun _ => []) 0 = bif eSubs r.subs != 0 then lN (eSubs r.subs) else lN 0 := by
 have kc := AcY (valid := subOk) (key := SSub.loc) (rest := rest0) (l := r.subs) (d0 := sub0) (L := fun m n f i => AfD Aae ok2 ix2 r g m n f i) (NX := lN 0) h3 (fun m k n f seen hk hr hn => by
  obtain ⟨q1, q2⟩ := ix_ge hr hn (r.subs.getD k sub0).loc
  have q1' : ok2 [AV.c (C.d (D.sl 1 n f)), AV.c (C.d (D.v (Value.string (r.subs.getD k sub0).loc)))] = true := q1
  have q2' : decide (ix2 [AV.c (C.d (D.sl 1 n f)), AV.c (C.d (D.v (Value.string (r.subs.getD k sub0).loc)))] ≥ 0) = inB seen (r.subs.getD k sub0).loc := q2
  have st := st93_30 Aae ok2 ix2 r g m n f k
  rw [lt1 hk, ge0, tn, q1', q2', AdE hn, nx hk (by omega)] at st
  refine Eq.trans st ?_
  unfold subOk
  simp only [tt, cond_true]
  generalize AfD Aae ok2 ix2 r g m = LL
  cases Aae (r.subs.getD k sub0).loc <;> cases Aae (r.subs.getD k sub0).dev <;> cases Aae (r.subs.getD k sub0).set <;> cases Aae (r.subs.getD k sub0).sig <;> rfl) (fun m n f => by
  have st := st93_30 Aae ok2 ix2 r g m n f (r.subs.length : Nat)
  rw [lt0 (Nat.lt_irrefl _)] at st
  rw [cond_false] at st
  exact st) g 0 0 (fun _ => []) [] (.nil _) rfl (by omega) (by omega)
 exact kc
theorem k93b (r : SRel) (g : Nat) (h2 : r.pubs.length ≤ 9000) (g2 : r.pubs.length < g) : AfE Aae ok2 ix2 r g g 0 (fun _ => []) 0 = bif Ahu r.pubs != 0 then lN (Ahu r.pubs) else AfD Aae ok2 ix2 r g g 0 (fun _ => []) 0 := by
 have kb := AcY (valid := pubOk) (key := SPub.set) (rest := Acp) (l := r.pubs) (d0 := pub0) (L := fun m n f i => AfE Aae ok2 ix2 r g m n f i) (NX := AfD Aae ok2 ix2 r g g 0 (fun _ => []) 0) h2 (fun m k n f seen hk hr hn => by
  obtain ⟨q1, q2⟩ := ix_ge hr hn (r.pubs.getD k pub0).set
  have q1' : ok2 [AV.c (C.d (D.sl 1 n f)), AV.c (C.d (D.v (Value.string (r.pubs.getD k pub0).set)))] = true := q1
  have q2' : decide (ix2 [AV.c (C.d (D.sl 1 n f)), AV.c (C.d (D.v (Value.string (r.pubs.getD k pub0).set)))] ≥ 0) = inB seen (r.pubs.getD k pub0).set := q2
  have st := st93_18 Aae ok2 ix2 r g m n f k
  rw [lt1 hk, ge0, tn, q1', q2', AdE hn, nx hk (by omega)] at st
  refine Eq.trans st ?_
  rw [int_eq]
  unfold pubOk
  simp only [tt, cond_true]
  generalize AfE Aae ok2 ix2 r g m = LL
  generalize AfD Aae ok2 ix2 r g g 0 (fun x => []) 0 = MM
  cases Aae (r.pubs.getD k pub0).set <;> cases Aac (r.pubs.getD k pub0).fst 1 100 <;> cases Aac (r.pubs.getD k pub0).max (r.pubs.getD k pub0).fst 1000 <;> rfl) (fun m n f => by
  have st := st93_18 Aae ok2 ix2 r g m n f (r.pubs.length : Nat)
  rw [lt0 (Nat.lt_irrefl _)] at st
  rw [cond_false] at st
  exact st) g 0 0 (fun _ => []) [] (.nil _) rfl (by omega) (by omega)
 exact kb
theorem k93a (r : SRel) (g : Nat) (h1 : r.sets.length ≤ 9000) (g1 : r.sets.length < g) (g4 : ∀ k, (r.sets.getD k set0).sigs.length < g) (hs : r.sets.all Afg = true) : L93_3 Aae ok2 ix2 r g g 0 (fun _ => []) 0 = bif Ahs r.sets != 0 then lN (Ahs r.sets) else AfE Aae ok2 ix2 r g g 0 (fun _ => []) 0 := by
 have ka := AcY (valid := setOk) (key := SSet.name) (rest := rest0) (l := r.sets) (d0 := set0) (L := fun m n f i => L93_3 Aae ok2 ix2 r g m n f i) (NX := AfE Aae ok2 ix2 r g g 0 (fun _ => []) 0) h1 (fun m k n f seen hk hr hn => by
  have hi : L93_9 Aae ok2 ix2 r g m g n f k 0 = _ := lp93i r g m n f k seen hr hk h1 hn (Acu hs rfl k) (g4 k)
  have st := st93_3 Aae ok2 ix2 r g m n f k
  rw [lt1 hk, ge0, tn, hi] at st
  refine Eq.trans st ?_
  unfold setOk
  simp only [tt, cond_true]
  generalize L93_3 Aae ok2 ix2 r g m = LL
  generalize AfE Aae ok2 ix2 r g g 0 (fun x => []) 0 = MM
  cases Aae (r.sets.getD k set0).name <;> cases (r.sets.getD k set0).sigs.all Aae <;> rfl) (fun m n f => by
  have st := st93_3 Aae ok2 ix2 r g m n f (r.sets.length : Nat)
  rw [lt0 (Nat.lt_irrefl _)] at st
  rw [cond_false] at st
  exact st) g 0 0 (fun _ => []) [] (.nil _) rfl (by omega) (by omega)
 exact ka
theorem c93 (r : SRel) (h1 : r.sets.length ≤ 9000) (h2 : r.pubs.length ≤ 9000) (h3 : r.subs.length ≤ 9000) (hs : r.sets.all Afg = true) : CX Tryz.prog 124 [aRel r] [] (vI (Adq r)) [] := by
 obtain ⟨g, g1, g2, g3, g4⟩ : ∃ g, r.sets.length < g ∧ r.pubs.length < g ∧ r.subs.length < g ∧ ∀ k, (r.sets.getD k set0).sigs.length < g := by
  have key : ∀ l : List SSet, ∃ g, ∀ k, (l.getD k set0).sigs.length < g := by
   intro l
   induction l with
   | nil => exact ⟨1, fun k => by simp [set0]⟩
   | cons x t ih =>
    obtain ⟨g, hg⟩ := ih
    refine ⟨g + x.sigs.length + 1, fun k => ?_⟩
    cases k with
    | zero => simp only [List.getD_cons_zero]; omega
    | succ k => have := hg k; simp only [List.getD_cons_succ]; omega
  obtain ⟨g, hg⟩ := key r.sets
  exact ⟨g + r.sets.length + r.pubs.length + r.subs.length + 1, by omega, by omega, by omega, fun k => by have := hg k; omega⟩
 refine Aau s93.ok Tryz.func124 b93 rfl ((ev93 _ _ _ r g).trans ?_)
 have ec := k93c r g h3 g3
 have eb := k93b r g h2 g2
 have ea := k93a r g h1 g1 g4 hs
 refine Eq.trans ea ?_
 rw [eb, ec]
 unfold Adq
 have z : ∀ n : Int, (bif n != 0 then lN n else lN 0) = lN n := fun n => by
  cases h : (n != 0) with
  | true => rfl
  | false => have : n = 0 := by simpa using h
             rw [this]; rfl
 rw [z]
 cases (Ahs r.sets != 0) <;> cases (Ahu r.pubs != 0) <;> rfl
end Go.Proofs.YtbpndheehcbldaaGreatDoor.se
namespace Go.Proofs.YtbpndheehcbldaaGreatDoor.se
open Go.RowKit Go.Eb
theorem tAnd (a b : Bool) : (bif a then b else false) = (a && b) := by cases a <;> rfl
theorem tNand (a b : Bool) : (bif !a then true else b) = !(a && !b) := by cases a <;> cases b <;> rfl
theorem neI (a b : Int) : (a != b) = !(a == b) := rfl
def zLine (r : SRel) : Bool :=
 ((r.zon0 == false && (r.zfw0 == false && (r.zx0 == 0 && (r.zr0 == 0 && (r.zl0 == 0 && (r.zd0 == 0 && true)))))) &&
   ((r.zon1 == false && (r.zfw1 == false && (r.zx1 == 0 && (r.zr1 == 0 && (r.zl1 == 0 && (r.zd1 == 0 && true)))))) &&
     ((r.zon2 == false && (r.zfw2 == false && (r.zx2 == 0 && (r.zr2 == 0 && (r.zl2 == 0 && (r.zd2 == 0 && true)))))) && true))) &&
 (r.min == 0 && (r.kre == 0 && (r.kim == 0 && (r.scheme == 0 && (r.wait == 0 && (r.guard == 0 && (r.shots == 0 && (r.dead == 0 && r.reclaim == 0))))))))
def zSrc (r : SRel) : Bool := (r.uon == false && (r.upk == 0 && (r.udl == 0 && true))) && (r.oon == false && (r.opk == 0 && (r.odl == 0 && true)))
def zBus (r : SRel) : Bool := (r.don == false && (r.dpk == 0 && (r.ddl == 0 && true))) && ((r.ion == false && (r.ipk == 0 && (r.idl == 0 && true))) && (r.fon == false && (r.fpk == 0 && (r.fdl == 0 && true))))
def zDif (r : SRel) : Bool := r.diff == 0 && (r.num == 0 && (r.den == 0 && r.harm == 0))
def AeA (r : SRel) : Bool := (r.kind == 1 || zLine r) && ((r.kind == 2 || zSrc r) && (bif r.kind == 4 then zBus r else zDif r))
theorem used_eq (r : SRel) : AdX r = AeA r := by
 unfold AdX AeA zLine zSrc zBus zDif
 simp only [neI]
 generalize (r.kind == 1) = k1
 generalize (r.kind == 2) = k2
 generalize (r.kind == 4) = k4
 cases k1 <;> cases k2 <;> cases k4 <;> simp only [cond_true, cond_false, Bool.not_true, Bool.not_false, tAnd, Bool.and_assoc, Bool.true_and, Bool.and_true, Bool.false_and, Bool.and_false, Bool.true_or, Bool.false_or, Bool.cond_self]
theorem foreign_eq (r : SRel) : ev88_v r = !AeA r := by
 unfold ev88_v AeA zLine zSrc zBus zDif
 simp only [neI]
 generalize (r.kind == 1) = k1
 generalize (r.kind == 2) = k2
 generalize (r.kind == 4) = k4
 cases k1 <;> cases k2 <;> cases k4 <;> simp only [cond_true, cond_false, Bool.not_true, Bool.not_false, tNand, Bool.not_not, Bool.and_assoc, Bool.true_and, Bool.and_true, Bool.false_and, Bool.and_false, Bool.true_or, Bool.false_or, Bool.cond_self]
theorem zones_eq (r : SRel) : ev130_v r = AbC r := rfl
theorem missing_eq (r : SRel) : ev90_v r = !Ack r := by
 unfold ev90_v Ack
 generalize (r.scheme == 1) = k1
 generalize (r.scheme == 2) = k2
 generalize (r.scheme == 3) = k3
 generalize r.zon0 = a
 generalize r.zfw0 = b
 generalize r.zon1 = c
 generalize r.zfw1 = d
 generalize r.zon2 = e
 generalize r.zfw2 = f
 cases k1 <;> cases k2 <;> cases k3 <;> cases a <;> cases b <;> cases c <;> cases d <;> cases e <;> cases f <;> rfl
def nSch (r : SRel) : Bool := Aac r.scheme 0 3 && (Aac r.guard 0 50 && !(r.scheme == 0 && r.guard != 0))
def nWait (r : SRel) : Bool := bif r.scheme == 3 then Aac r.wait 1 50 else r.wait == 0
def nEl (r : SRel) : Bool := elOk r.don r.dpk r.ddl 0 && (elOk r.uon r.upk r.udl 0 && (elOk r.oon r.opk r.odl 0 && elOk r.fon r.fpk r.fdl 1))
def nInv (r : SRel) : Bool := bif r.ion then Aac r.ipk 1 16383 && Aac r.idl 1 1000 else r.ipk == 0 && r.idl == 0
def nRec (r : SRel) : Bool := Aac r.shots 0 3 && (bif r.shots == 0 then r.dead == 0 && r.reclaim == 0 else Aac r.dead 1 100 && Aac r.reclaim 1 1000)
def nDif (r : SRel) : Bool := bif r.diff == 0 then r.num == 0 && (r.den == 0 && r.harm == 0) else Aac r.diff 0 16383 && (Aac r.den 1 100 && (Aac r.num 0 r.den && Aac r.harm 0 100))
theorem g13 (okr zo : List AV → Bool) (r : SRel) : L89_13 okr zo r 1 1 = lB (bif r.diff == 0 then true else Aac r.den 1 100 && (Aac r.num 0 r.den && Aac r.harm 0 100)) := by
 rw [st89_13]
 cases (r.diff == 0) <;> cases Aac r.den 1 100 <;> cases Aac r.num 0 r.den <;> rfl
theorem g11 (okr zo : List AV → Bool) (r : SRel) : L89_11 okr zo r 1 1 = lB (nDif r) := by
 rw [st89_11, g13]
 unfold nDif
 by_cases h : r.diff = 0
 ·rw [h]
  simp only [neI]
  have w : Aac 0 0 16383 = true := rfl
  rw [w]
  cases (r.num == 0) <;> cases (r.den == 0) <;> cases (r.harm == 0) <;> rfl
 ·have h' : (r.diff == 0) = false := by simpa using h
  rw [h']
  cases Aac r.diff 0 16383 <;> rfl
theorem g9 (okr zo : List AV → Bool) (r : SRel) : L89_9 okr zo r 1 1 = lB (nRec r && nDif r) := by
 rw [st89_9, g11]
 unfold nRec
 by_cases h : r.shots = 0
 ·rw [h]
  simp only [neI]
  have w : Aac 0 0 3 = true := rfl
  have w2 : decide ((0 : Int) > 0) = false := rfl
  rw [w, w2]
  cases (r.dead == 0) <;> cases (r.reclaim == 0) <;> rfl
 ·have h' : (r.shots == 0) = false := by simpa using h
  rw [h']
  by_cases h2 : r.shots > 0
  ·rw [decide_eq_true h2]
   cases Aac r.shots 0 3 <;> cases Aac r.dead 1 100 <;> cases Aac r.reclaim 1 1000 <;> rfl
  ·have w : Aac r.shots 0 3 = false := by unfold Aac; rw [decide_eq_false (by omega)]; rfl
   rw [w]
   rfl
theorem g7 (okr zo : List AV → Bool) (r : SRel) : L89_7 okr zo r 1 1 = lB (nInv r && (nRec r && nDif r)) := by
 rw [st89_7, g9]
 unfold nInv
 generalize (nRec r && nDif r) = q
 cases r.ion <;> cases Aac r.ipk 1 16383 <;> cases Aac r.idl 1 1000 <;> cases (r.ipk == 0) <;> cases (r.idl == 0) <;> rfl
theorem g5 (okr zo : List AV → Bool) (r : SRel) : L89_5 okr zo r 1 1 = lB (nEl r && (nInv r && (nRec r && nDif r))) := by
 rw [st89_5, g7]
 unfold nEl
 generalize (nInv r && (nRec r && nDif r)) = q
 cases elOk r.don r.dpk r.ddl 0 <;> cases elOk r.uon r.upk r.udl 0 <;> cases elOk r.oon r.opk r.odl 0 <;> cases elOk r.fon r.fpk r.fdl 1 <;> rfl
theorem g3 (okr zo : List AV → Bool) (r : SRel) : L89_3 okr zo r 1 1 = lB (nWait r && (nEl r && (nInv r && (nRec r && nDif r)))) := by
 rw [st89_3, g5]
 unfold nWait
 generalize (nEl r && (nInv r && (nRec r && nDif r))) = q
 simp only [neI]
 cases (r.scheme == 3) <;> cases Aac r.wait 1 50 <;> cases (r.wait == 0) <;> rfl
def nums (r : SRel) : Bool := nSch r && (nWait r && (nEl r && (nInv r && (nRec r && nDif r))))
theorem g1 (okr zo : List AV → Bool) (r : SRel) (h1 : okr [aRel r] = true) : Aai Tryz.prog (oNu okr zo) ann89 1 Tryz.f120 (Aad Tryz.f120) [aRel r] [] = lB (zo [aRel r] && nums r) := by
 refine (ev89 okr zo r 1).trans ?_
 rw [h1, g3]
 unfold nums nSch
 generalize (nWait r && (nEl r && (nInv r && (nRec r && nDif r)))) = q
 simp only [neI]
 cases zo [aRel r] <;> cases Aac r.scheme 0 3 <;> cases Aac r.guard 0 50 <;> cases (r.scheme == 0) <;> cases (r.guard == 0) <;> rfl
theorem e80 (r : SRel) : Aca r = (nSch r && nWait r) := by
 unfold Aca nSch nWait
 simp only [neI]
 by_cases h : r.guard = 0
 ·rw [h]
  have w : Aac 0 0 50 = true := rfl
  rw [w]
  cases Aac r.scheme 0 3 <;> cases (r.scheme == 3) <;> cases Aac r.wait 1 50 <;> cases (r.scheme == 0) <;> cases (r.wait == 0) <;> rfl
 ·have h' : (r.guard == 0) = false := by simpa using h
  rw [h']
  cases Aac r.scheme 0 3 <;> cases (r.scheme == 3) <;> cases Aac r.wait 1 50 <;> cases (r.scheme == 0) <;> cases (r.wait == 0) <;> cases Aac r.guard 0 50 <;> rfl
theorem e81 (r : SRel) : AbZ r = (nInv r && nEl r) := by
 unfold AbZ nInv nEl
 cases r.ion <;> cases Aac r.ipk 1 16383 <;> cases Aac r.idl 1 1000 <;> cases (r.ipk == 0) <;> cases (r.idl == 0) <;> cases elOk r.don r.dpk r.ddl 0 <;> cases elOk r.uon r.upk r.udl 0 <;> cases elOk r.oon r.opk r.odl 0 <;> rfl
theorem within_pos (n k : Int) (h : (n == 0) = false) : Aac n 1 k = Aac n 0 k := by
 have h' : n ≠ 0 := by simpa using h
 unfold Aac
 by_cases h1 : n ≥ 1
 ·rw [decide_eq_true h1, decide_eq_true (show n ≥ 0 by omega)]
 ·rw [decide_eq_false h1, decide_eq_false (show ¬ n ≥ 0 by omega)]
theorem e82 (r : SRel) : AbY r = (nRec r && nDif r) := by
 unfold AbY nRec nDif
 simp only [neI]
 have hs : (r.shots == 0) = true → Aac r.shots 0 3 = true := fun h => by
  have : r.shots = 0 := by simpa using h
  rw [this]; rfl
 have hs2 := within_pos r.shots 3
 have hd2 := within_pos r.diff 16383
 cases a : (r.shots == 0) with
 | true =>
  rw [hs a]
  cases b : (r.diff == 0) with
  | true => cases (r.dead == 0) <;> cases (r.reclaim == 0) <;> cases (r.num == 0) <;> cases (r.den == 0) <;> rfl
  | false =>
   rw [hd2 b]
   cases (r.dead == 0) <;> cases (r.reclaim == 0) <;> cases Aac r.diff 0 16383 <;> cases Aac r.den 1 100 <;> cases Aac r.num 0 r.den <;> rfl
 | false =>
  rw [hs2 a]
  cases b : (r.diff == 0) with
  | true => cases Aac r.shots 0 3 <;> cases Aac r.dead 1 100 <;> cases Aac r.reclaim 1 1000 <;> cases (r.num == 0) <;> cases (r.den == 0) <;> rfl
  | false =>
   rw [hd2 b]
   cases Aac r.shots 0 3 <;> cases Aac r.dead 1 100 <;> cases Aac r.reclaim 1 1000 <;> cases Aac r.diff 0 16383 <;> cases Aac r.den 1 100 <;> cases Aac r.num 0 r.den <;> rfl
theorem nums_eq (r : SRel) : nums r = (Aca r && (AbZ r && AbY r)) := by
 rw [e80, e81, e82]
 unfold nums
 cases nSch r <;> cases nWait r <;> cases nEl r <;> cases nInv r <;> rfl
end Go.Proofs.YtbpndheehcbldaaGreatDoor.se
namespace Go.Proofs.YtbpndheehcbldaaGreatDoor.se
open Go.RowKit Go.Eb
structure KOn where
 okn : List AV → Bool
 nm : List AV → List ByteArray
 oki : List AV → Bool
 ix : List AV → Int
 okp : List AV → Bool
 pl : List AV → Int
 okr : List AV → Bool
 fo : List AV → Bool
 nu : List AV → Bool
 mi : List AV → Bool
 ma : List AV → Bool
 oku : List AV → Bool
 ru : List AV → Int
 li : List AV → Int
noncomputable def oOn (Z : KOn) (nk : ByteArray → Bool) : Orc := Orc.cons 57 (ansP decS fun s => vB (nk s)) (Orc.cons 117 (ansG Z.okn fun x => .c (.d (Aaa (Z.nm x)))) (Orc.cons 52 (ansL Z.oki fun x => vI (Z.ix x)) (Orc.cons 118 (ansG Z.okp fun x => vI (Z.pl x))
 (Orc.cons 119 (ansG Z.okr fun x => vB (Z.fo x)) (Orc.cons 120 (ansG Z.okr fun x => vB (Z.nu x)) (Orc.cons 121 (ansG Z.okr fun x => vB (Z.mi x)) (Orc.cons 122 (ansG Z.okr fun x => vB (Z.ma x))
 (Orc.cons 123 (ansG Z.oku fun x => vI (Z.ru x)) (Orc.cons 124 (ansG Z.oku fun x => vI (Z.li x)) Orc.nil)))))))))
noncomputable def annon7 : Ann := AaE [(6, ⟨[5, 1, 3, 7], []⟩)]
noncomputable def Lon7_6 (Z : KOn) (nk : ByteArray → Bool) (s : SSta) (b : List SRel) (r : SRel) (g m : Nat) (i7 : Int) := LK Tryz.prog (oOn Z nk) annon7 0 g Tryz.f63 6 m ⟨frm [(1, .c (.d (Aab 53 relC rel0 b))), (3, .c (.ptr 0 0)), (5, .c (.ptr 1 0)), (7, .c (.d (.v (.int .i64 i7))))] 0 Tryz.f63.ntmps, [(0, Blk.cells (List.map C.d (staC s)) 27), (1, Blk.cells (List.map C.d (relC r)) 64)], 2⟩
theorem bon7 : Tryz.f63.body = some (Aad Tryz.f63) := by kernel_rfl
theorem evon7 (Z : KOn) (nk : ByteArray → Bool) (s : SSta) (b : List SRel) (r : SRel) (g : Nat) : Aai Tryz.prog (oOn Z nk) annon7 g Tryz.f63 (Aad Tryz.f63) [aSta s, .c (.d (AbF b)), aRel r] [] =
 (bif !nk r.name then leI 7 else (bif KOn.okn Z [AV.agg (List.map C.d (staC s))] then (bif KOn.oki Z [AV.c (C.d (Aab (1) busC e0 (KOn.nm Z [AV.agg (List.map C.d (staC s))]))), AV.c
 (.d (.v (.string r.name)))] then (bif decide (KOn.ix Z [AV.c (C.d (Aab ((1 : Nat)) busC e0 (KOn.nm Z [AV.agg (List.map C.d (staC s))]))), AV.c (.d (.v (.string r.name)))] ≥ 0) then
 leI 8 else Lon7_6 Z nk s b r g g 0) else none) else none)) := by kernel_rfl
theorem ston7_6 (Z : KOn) (nk : ByteArray → Bool) (s : SSta) (b : List SRel) (r : SRel) (g m : Nat) (i7 : Int) : Lon7_6 Z nk s b r g (m + 1) i7 =
 (bif decide (i7 < (↑b.length : Int)) then (bif decide (0 ≤ i7) && decide (i7 < (↑b.length : Int)) then (bif (SRel.name (b.getD i7.toNat rel0)).toList == r.name.toList then leI 8
 else Lon7_6 Z nk s b r g m (IntKind.wrap .i64 (i7 + 1))) else none) else (bif KOn.okp Z [AV.agg (List.map C.d (staC s)), AV.c (C.d (Aab (53) relC rel0 b)), AV.agg (List.map C.d
 (relC r))] then (bif KOn.pl Z [AV.agg (List.map C.d (staC s)), AV.c (C.d (Aab (53) relC rel0 b)), AV.agg (List.map C.d (relC r))] != 0 then leI (KOn.pl Z [AV.agg (List.map C.d
 (staC s)), AV.c (C.d (Aab (53) relC rel0 b)), AV.agg (List.map C.d (relC r))]) else (bif KOn.okr Z [AV.agg (List.map C.d (relC r))] then (bif KOn.fo Z [AV.agg (List.map C.d (relC
 r))] then leI 12 else (bif KOn.okr Z [AV.agg (List.map C.d (relC r))] then (bif !KOn.nu Z [AV.agg (List.map C.d (relC r))] then leI 2 else (bif KOn.okr Z [AV.agg (List.map C.d
 (relC r))] then (bif KOn.mi Z [AV.agg (List.map C.d (relC r))] then leI 11 else (bif KOn.okr Z [AV.agg (List.map C.d (relC r))] then (bif KOn.ma Z [AV.agg (List.map C.d (relC r))]
 then leI 3 else (bif KOn.oku Z [AV.agg (List.map C.d (relC r))] then (bif KOn.ru Z [AV.agg (List.map C.d (relC r))] != 0 then leI (KOn.ru Z [AV.agg (List.map C.d (relC r))]) else
 (bif KOn.oku Z [AV.agg (List.map C.d (relC r))] then leI (KOn.li Z [AV.agg (List.map C.d (relC r))]) else none)) else none)) else none)) else none)) else none)) else none)) else
 none)) := by kernel_rfl
noncomputable def oCk (oko : List AV → Bool) (on : List AV → Int) : Orc := Orc.cons 63 (ansG oko fun x => vI (on x)) Orc.nil
noncomputable def annck7 : Ann := AaE [(2, ⟨[6, 1, 2], []⟩)]
noncomputable def Lck7_2 (oko : List AV → Bool) (on : List AV → Int) (s : SSta) (l : List SRel) (g m : Nat) (i6 : Int) := LK Tryz.prog (oCk oko on) annck7 0 g Tryz.f29 2 m ⟨frm [(1, .c (.d (Aab 53 relC rel0 l))), (2, .c (.ptr 0 0)), (6, .c (.d (.v (.int .i64 i6))))] 0 Tryz.f29.ntmps, [(0, Blk.cells (List.map C.d (staC s)) 27)], 1⟩
theorem bck7 : Tryz.f29.body = some (Aad Tryz.f29) := by kernel_rfl
theorem evck7 (oko : List AV → Bool) (on : List AV → Int) (s : SSta) (l : List SRel) (g : Nat) : Aai Tryz.prog (oCk oko on) annck7 g Tryz.f29 (Aad Tryz.f29) [aSta s, .c (.d (AbF l))] [] =
 Lck7_2 oko on s l g g 0 := by kernel_rfl
theorem stck7_2 (oko : List AV → Bool) (on : List AV → Int) (s : SSta) (l : List SRel) (g m : Nat) (i6 : Int) : Lck7_2 oko on s l g (m + 1) i6 =
 (bif decide (i6 < (↑l.length : Int)) then (bif decide (0 ≤ (↑(0 : Nat) : Int)) && decide ((↑(0 : Nat) : Int) ≤ i6) && decide (i6 ≤ (↑l.length : Int)) then (bif decide (0 ≤ i6) &&
 decide (i6 < (↑l.length : Int)) then (bif oko [AV.agg (List.map C.d (staC s)), AV.c (C.d (D.sl (53) (i6.toNat - Int.toNat (↑(0 : Nat) : Int)) fun i => relC (l.getD (Int.toNat (↑(0
 : Nat) : Int) + i) rel0))), AV.agg (List.map C.d (relC (l.getD i6.toNat rel0)))] then (bif on [AV.agg (List.map C.d (staC s)), AV.c (C.d (D.sl (53) (i6.toNat - Int.toNat (↑(0 :
 Nat) : Int)) fun i => relC (l.getD (Int.toNat (↑(0 : Nat) : Int) + i) rel0))), AV.agg (List.map C.d (relC (l.getD i6.toNat rel0)))] != 0 then some (T.leaf (AV.tup [(false, [C.d (.v
 (.int .i64 i6))]), (false, [C.d (.v (.int .i64 (on [AV.agg (List.map C.d (staC s)), AV.c (C.d (D.sl (53) (i6.toNat - Int.toNat (↑(0 : Nat) : Int)) fun i => relC (l.getD (Int.toNat
 (↑(0 : Nat) : Int) + i) rel0))), AV.agg (List.map C.d (relC (l.getD i6.toNat rel0)))])))])], [])) else Lck7_2 oko on s l g m (IntKind.wrap .i64 (i6 + 1))) else none) else none)
 else none) else some (T.leaf (AV.tup [(false, [C.d (.v (.int .i64 0))]), (false, [C.d (.v (.int .i64 0))])], []))) := by kernel_rfl
end Go.Proofs.YtbpndheehcbldaaGreatDoor.se
namespace Go.Proofs.YtbpndheehcbldaaGreatDoor.st
open Go.RowKit Go.Eb
noncomputable def o9n (okn : List AV → Bool) (nm : List AV → List ByteArray) : Orc := Orc.cons 59 (ansG okn fun x => .c (.d (Aaa (nm x)))) Orc.nil
noncomputable def ann9n : Ann := AaE []
theorem b9n : Tryz.f117.body = some (Aad Tryz.f117) := by kernel_rfl
theorem ev9n (okn : List AV → Bool) (nm : List AV → List ByteArray) (s : SSta) (g : Nat) : Aai Tryz.prog (o9n okn nm) ann9n g Tryz.f117 (Aad Tryz.f117) [aSta s] [] =
 (bif okn [AV.agg (List.map C.d (staC s)), AV.c (.d (.v (.int .i64 (↑s.buses.length : Int)))), AV.c (.d (.v (.int .i64 (↑s.lines.length : Int)))), AV.c (.d (.v (.int .i64
 (↑s.srcs.length : Int)))), AV.c (.d (.v (.int .i64 (↑s.bays.length : Int))))] then some (T.leaf (AV.c (C.d (Aab (1) busC e0 (nm [AV.agg (List.map C.d (staC s)), AV.c (.d (.v (.int
 .i64 (↑s.buses.length : Int)))), AV.c (.d (.v (.int .i64 (↑s.lines.length : Int)))), AV.c (.d (.v (.int .i64 (↑s.srcs.length : Int)))), AV.c (C.d (D.v (Value.int IntKind.i64
 (↑s.bays.length : Int))))]))), [])) else none) := by kernel_rfl
end Go.Proofs.YtbpndheehcbldaaGreatDoor.st
namespace Go.Proofs.YtbpndheehcbldaaGreatDoor.st
open Go.RowKit Go.Eb
abbrev eN5 := en5 aSta vN vN vN vN
theorem eN5_inj : InjT eN5 := en5_inj AgH vN_inj vN_inj vN_inj vN_inj
def c5 (a : SSta × Nat × Nat × Nat × Nat) : Bool := (decide (a.2.1 ≤ a.1.buses.length) && (decide (a.2.2.1 ≤ a.1.lines.length) && (decide (a.2.2.2.1 ≤ a.1.srcs.length) && decide (a.2.2.2.2 ≤ a.1.bays.length)))) && (decide (a.2.1 ≤ 900) && (decide (a.2.2.1 ≤ 900) && (decide (a.2.2.2.1 ≤ 900) && decide (a.2.2.2.2 ≤ 900))))
def nm5 (a : SSta × Nat × Nat × Nat × Nat) : List ByteArray := AaY a.1 a.2.1 a.2.2.1 a.2.2.2.1 a.2.2.2.2
theorem s9n : OrcS Tryz.prog (o9n (okG eN5 c5) fun x => nm5 (theT eN5 x)) := by
 refine .cons (.t' (r := fun a => .c (.d (Aaa (nm5 a)))) fun a h => ?_) .nil
 unfold c5 at h
 simp only [Bool.and_eq_true, decide_eq_true_eq] at h
 exact c21 a.1 a.2.1 a.2.2.1 a.2.2.2.1 a.2.2.2.2 h.1.1 h.1.2.1 h.1.2.2.1 h.1.2.2.2 h.2.1 h.2.2.1 h.2.2.2.1 h.2.2.2.2
theorem cNm (s : SSta) (h1 : s.buses.length ≤ 900) (h2 : s.lines.length ≤ 900) (h3 : s.srcs.length ≤ 900) (h4 : s.bays.length ≤ 900) : CX Tryz.prog 117 [aSta s] [] (.c (.d (Aaa (AaG s)))) [] := by
 refine Aau s9n.ok Tryz.func117 b9n rfl ((ev9n _ _ s 1).trans ?_)
 have k := Aam eN5_inj (c := c5) (s, s.buses.length, s.lines.length, s.srcs.length, s.bays.length) (by unfold c5; simp only [h1, h2, h3, h4, Nat.le_refl, decide_true, tt])
 have t := Aah eN5_inj (s, s.buses.length, s.lines.length, s.srcs.length, s.bays.length)
 have e : nm5 (s, s.buses.length, s.lines.length, s.srcs.length, s.bays.length) = AaG s := by unfold nm5 AaY AaG; simp
 simp only [en5, vN] at k t
 rw [k, t, e]
 rfl
end Go.Proofs.YtbpndheehcbldaaGreatDoor.st
namespace Go.Proofs.YtbpndheehcbldaaGreatDoor.se
open Go.RowKit Go.Eb Go.Proofs.YtbpndheehcbldaaGreatDoor.st
theorem cEm (a : Bool × Int × Int × Int) : CX Tryz.prog 187 [.agg [.d (dB a.1), .d (dI a.2.1), .d (dI a.2.2.1)], vI a.2.2.2] [] (vB (elOk a.1 a.2.1 a.2.2.1 a.2.2.2)) [] := by
 have hs : OrcS Tryz.prog oB3 := .cons (.p dec3_ok cBt) .nil
 refine Aau hs.ok Tryz.func187 (by kernel_rfl) rfl ((evEm a.1 a.2.1 a.2.2.1 a.2.2.2).trans ?_)
 unfold evEm_v elOk
 cases a.1 <;> cases (a.2.1 == 0) <;> cases (a.2.2.1 == 0) <;> cases Aac a.2.1 1 16383 <;> rfl
theorem sB3 : OrcS Tryz.prog oB3 := .cons (.p dec3_ok cBt) .nil
theorem c88 (r : SRel) : CX Tryz.prog 119 [aRel r] [] (vB (!AeA r)) [] := by
 have := Aau sB3.ok Tryz.func119 (by kernel_rfl) rfl (ev88 r)
 rw [foreign_eq] at this
 exact this
theorem c130 (r : SRel) : CX Tryz.prog 185 [aRel r] [] (vB (AbC r)) [] := by
 have := Aau sB3.ok Tryz.func185 (by kernel_rfl) rfl (ev130 r)
 rw [zones_eq] at this
 exact this
theorem c90 (r : SRel) : CX Tryz.prog 121 [aRel r] [] (vB (!Ack r)) [] := by
 have := Aau sB3.ok Tryz.func121 (by kernel_rfl) rfl (ev90 r)
 rw [missing_eq] at this
 exact this
theorem c89 (r : SRel) : CX Tryz.prog 120 [aRel r] [] (vB (AbC r && (Aca r && (AbZ r && AbY r)))) [] := by
 have hs : OrcS Tryz.prog (oNu (okG eR fun _ => true) fun x => AbC (theT eR x)) := .cons (.t' (r := fun a => vB (AbC a)) fun a _ => c130 a) (.cons (.p decE_ok cEm) sB3)
 have k := Aam Aht (c := fun _ => true) r rfl
 have t := Aah Aht r
 have := Aau hs.ok Tryz.func120 b89 rfl (g1 _ _ r k)
 have e : AbC (theT eR [aRel r]) = AbC r := congrArg AbC t
 rw [e, nums_eq] at this
 exact this
abbrev ePl := en3 aSta (aD AbF) aRel
theorem relsD_inj (a b : List SRel) (h : DE (AbF a) (AbF b)) : a = b := Aax Afd a b h
theorem ePl_inj : InjT ePl := en3_inj AgH (aD_inj relsD_inj) Aew
def cPl (a : SSta × List SRel × SRel) : Bool := Aaq a.1.bays && Aaq a.2.1
def cOu (r : SRel) : Bool := AaQ r && Abk r
def cSz (s : SSta) : Bool := decide (s.buses.length ≤ 900) && (decide (s.lines.length ≤ 900) && (decide (s.srcs.length ≤ 900) && decide (s.bays.length ≤ 900)))
noncomputable def ZOn : KOn where
 okn := okG eSt cSz
 nm x := AaG (theT eSt x)
 oki := ok2
 ix := ix2
 okp := okG ePl cPl
 pl x := AaK (theT ePl x).1.bays ((theT ePl x).2.1.map SRel.bay) (theT ePl x).2.2
 okr := okG eR Abk
 fo x := !AeA (theT eR x)
 nu x := AbC (theT eR x) && (Aca (theT eR x) && (AbZ (theT eR x) && AbY (theT eR x)))
 mi x := !Ack (theT eR x)
 ma x := !AaQ (theT eR x)
 oku := okG eR cOu
 ru x := Acr (theT eR x).rules
 li x := Adq (theT eR x)
theorem Ahy {r : SRel} (h : AaQ r = true) : r.rules.length ≤ 16 ∧ r.sets.length ≤ 4 ∧ r.pubs.length ≤ 4 ∧ r.subs.length ≤ 24 := by
 unfold AaQ at h
 simp only [Bool.and_eq_true, decide_eq_true_eq] at h
 exact ⟨h.1, h.2.1, h.2.2.1, h.2.2.2.1⟩
theorem sOn : OrcS Tryz.prog (oOn ZOn Aae) := by
 refine .cons (.p AcU c16) (.cons (.t' (r := fun a => .c (.d (Aaa (AaG a)))) fun a h => ?_) (.cons (.lt (r := fun (a : List ByteArray × ByteArray) => vI (idxF a.2 0 a.1)) Tryz.func52 bIx (fun _ => rfl) fun a h => c46 a.1 a.2 (AaF h))
  (.cons (.t' (r := fun (a : SSta × List SRel × SRel) => vI (AaK a.1.bays (a.2.1.map SRel.bay) a.2.2)) fun a h => ?_) (.cons (.t' (r := fun a => vB (!AeA a)) fun a _ => c88 a) (.cons (.t' (r := fun a => vB (AbC a && (Aca a && (AbZ a && AbY a)))) fun a _ => c89 a)
  (.cons (.t' (r := fun a => vB (!Ack a)) fun a _ => c90 a) (.cons (.t' (r := fun a => vB (!AaQ a)) fun a h => c91 a h) (.cons (.t' (r := fun (a : SRel) => vI (Acr a.rules)) fun a h => ?_) (.cons (.t' (r := fun a => vI (Adq a)) fun a h => ?_) .nil)))))))))
 ·unfold cSz at h
  simp only [Bool.and_eq_true, decide_eq_true_eq] at h
  exact cNm a h.1 h.2.1 h.2.2.1 h.2.2.2
 ·unfold cPl at h
  simp only [Bool.and_eq_true] at h
  exact c87 a.1 a.2.1 a.2.2 (AaF h.1) h.2
 ·unfold cOu at h
  simp only [Bool.and_eq_true] at h
  have := Ahy h.1
  exact c92 a (by omega)
 ·unfold cOu at h
  simp only [Bool.and_eq_true] at h
  have := Ahy h.1
  exact c93 a (by omega) (by omega) (by omega) (AdR h.2).2.2.2.2
theorem inB_app (a b : List ByteArray) (s : ByteArray) : inB (a ++ b) s = (inB a s || inB b s) := by unfold inB; rw [List.any_append]
theorem cOn (s : SSta) (b : List SRel) (r : SRel) (hs : cSz s = true) (hb : Aaq b = true) (hr : Abk r = true) :
  CX Tryz.prog 63 [aSta s, .c (.d (AbF b)), aRel r] [] (vI (Abz s.bays (AaG s ++ b.map SRel.name) (b.map SRel.bay) r)) [] := by
 obtain ⟨g, hg⟩ : ∃ g, b.length < g := ⟨b.length + 1, by omega⟩
 have hs' := hs
 unfold cSz at hs'
 simp only [Bool.and_eq_true, decide_eq_true_eq] at hs'
 refine Aau sOn.ok Tryz.func63 bon7 rfl ((evon7 ZOn Aae s b r g).trans ?_)
 have k1 : ZOn.okn [aSta s] = true := Aam AcJ (c := cSz) s hs
 have k2 : ZOn.nm [aSta s] = AaG s := congrArg AaG (Aah AcJ s)
 have hN : (AaG s).length ≤ 9000 := by unfold AaG; simp; omega
 have k3 : ZOn.oki [.c (.d (Aaa (AaG s))), vS r.name] = true := Aam AbU (c := cIx) (AaG s, r.name) (by unfold cIx Aaq; rw [decide_eq_true (by simp only; omega)])
 have k4 : ZOn.ix [.c (.d (Aaa (AaG s))), vS r.name] = idxF r.name 0 (AaG s) := by
  show idxF (theT eIx _).2 0 (theT eIx _).1 = _
  have t : theT eIx [.c (.d (Aaa (AaG s))), vS r.name] = (AaG s, r.name) := Aah AbU (AaG s, r.name)
  rw [t]
 have k5 : ZOn.okp [aSta s, .c (.d (AbF b)), aRel r] = true := Aam ePl_inj (c := cPl) (s, b, r) (by unfold cPl; rw [hb]; unfold Aaq; rw [decide_eq_true (by simp only; omega)]; rfl)
 have t5 : theT ePl [aSta s, .c (.d (AbF b)), aRel r] = (s, b, r) := Aah ePl_inj (s, b, r)
 have k6 : ZOn.pl [aSta s, .c (.d (AbF b)), aRel r] = AaK s.bays (b.map SRel.bay) r := by dsimp only [ZOn]; rw [t5]
 have k7 : ZOn.okr [aRel r] = true := Aam Aht (c := Abk) r hr
 have t := Aah Aht r
 have k8 : ZOn.fo [aRel r] = !AeA r := congrArg (fun a => !AeA a) t
 have k9 : ZOn.nu [aRel r] = (AbC r && (Aca r && (AbZ r && AbY r))) := congrArg (fun a => AbC a && (Aca a && (AbZ a && AbY a))) t
 have k10 : ZOn.mi [aRel r] = !Ack r := congrArg (fun a => !Ack a) t
 have k11 : ZOn.ma [aRel r] = !AaQ r := congrArg (fun a => !AaQ a) t
 have k12 : AaQ r = true → ZOn.oku [aRel r] = true := fun h => Aam Aht (c := cOu) r (by unfold cOu; rw [h, hr]; rfl)
 have k13 : ZOn.ru [aRel r] = Acr r.rules := congrArg (fun a : SRel => Acr a.rules) t
 have k14 : ZOn.li [aRel r] = Adq r := congrArg Adq t
 have fin : Lon7_6 ZOn Aae s b r g g 0 = bif b.any (fun x => x.name.toList == r.name.toList) then lN 8 else lN (bif AaK s.bays (b.map SRel.bay) r != 0 then AaK s.bays (b.map SRel.bay) r else AeM r) := by
  have l1 := Adk (p := fun x : SRel => x.name.toList == r.name.toList) (l := b) (d0 := rel0) (L := fun m i => Lon7_6 ZOn Aae s b r g m i) (A := lN 8) (B := lN (bif AaK s.bays (b.map SRel.bay) r != 0 then AaK s.bays (b.map SRel.bay) r else AeM r)) (fun m k hk => by
   rw [ston7_6, lt1 hk, ge0, tn, nx hk (AaF hb)]; rfl) (fun m => by
   rw [ston7_6, lt0 (Nat.lt_irrefl _), k5, k6, k7, k8, k9, k10, k11, k13, k14]
   unfold AeM
   rw [used_eq]
   cases hp : (AaK s.bays (b.map SRel.bay) r != 0) with
   | true => rfl
   | false =>
    cases AeA r with
    | false => rfl
    | true =>
     cases AbC r with
     | false => rfl
     | true =>
      cases Aca r with
      | false => rfl
      | true =>
       cases AbZ r with
       | false => rfl
       | true =>
        cases AbY r with
        | false => rfl
        | true =>
         cases Ack r with
         | false => rfl
         | true =>
          cases hc : AaQ r with
          | false => rfl
          | true =>
           rw [k12 hc]
           unfold AdB Adq
           cases (Acr r.rules != 0) <;> rfl) g 0 (by omega) (by omega)
  have e1 : Lon7_6 ZOn Aae s b r g g 0 = _ := l1
  rw [e1]
  simp only [List.drop_zero]
 rw [k1, k2, k3, k4, fin, idxF_ge]
 unfold Abz
 rw [inB_app]
 have hb2 : inB (b.map SRel.name) r.name = b.any (fun x => x.name.toList == r.name.toList) := by
  unfold inB
  rw [List.any_map]
  congr 1
  funext x
  rw [strEq']
  rfl
 rw [hb2]
 cases Aae r.name <;> cases inB (AaG s) r.name <;> cases b.any (fun x => x.name.toList == r.name.toList) <;> rfl
theorem ref_chk (s : SSta) : ∀ (l : List SRel) (i : Nat), i ≤ l.length → Abi s.bays (AaG s ++ (l.take i).map SRel.name) ((l.take i).map SRel.bay) i (l.drop i) =
  if h : i < l.length then (bif Abz s.bays (AaG s ++ (l.take i).map SRel.name) ((l.take i).map SRel.bay) (l.getD i rel0) != 0 then ((i : Int), Abz s.bays (AaG s ++ (l.take i).map SRel.name) ((l.take i).map SRel.bay) (l.getD i rel0))
   else Abi s.bays (AaG s ++ (l.take (i + 1)).map SRel.name) ((l.take (i + 1)).map SRel.bay) (i + 1) (l.drop (i + 1))) else (0, 0) := fun l i hi => by
 by_cases h : i < l.length
 ·rw [dif_pos h, Aar (d := rel0) h]
  simp only [Abi]
  have e : l.take (i + 1) = l.take i ++ [l.getD i rel0] := by
   rw [List.take_succ_eq_append_getElem h]
   simp [List.getD, h]
  rw [e]
  simp only [List.map_append, List.map_cons, List.map_nil, List.append_assoc]
 ·rw [dif_neg h, List.drop_of_length_le (by omega)]
  rfl
abbrev tk (l : List SRel) (i : Int) : D := .sl 53 (i.toNat - ((0 : Nat) : Int).toNat) fun j => relC (l.getD (((0 : Nat) : Int).toNat + j) rel0)
theorem tk_take (l : List SRel) (k : Nat) (hk : k ≤ l.length) : DE (tk l k) (AbF (l.take k)) ∧ DE (AbF (l.take k)) (tk l k) := by
 have e : (k : Int).toNat - ((0 : Nat) : Int).toNat = (l.take k).length := by simp; omega
 have f : ∀ i, i < (l.take k).length → relC (l.getD (((0 : Nat) : Int).toNat + i) rel0) = relC ((l.take k).getD i rel0) := fun i hi => by
  have hi' : i < k := by simp at hi; omega
  have e0 : ((0 : Nat) : Int).toNat + i = i := by simp
  rw [e0]
  congr 1
  simp only [List.getD_eq_getElem?_getD, List.getElem?_take, hi', if_true]
 unfold tk
 rw [e]
 exact ⟨.sl_eq f, .sl_eq fun i hi => (f i hi).symm⟩
def cOe (a : SSta × List SRel × SRel) : Bool := cSz a.1 && (Aaq a.2.1 && Abk a.2.2)
theorem cCk (s : SSta) (l : List SRel) (hs : cSz s = true) (hl : Aaq l = true) (ha : l.all Abk = true) : CX Tryz.prog 29 [aSta s, .c (.d (AbF l))] [] (vP (Abi s.bays (AaG s) [] 0 l)) [] := by
 have hS : OrcS Tryz.prog (oCk (okG ePl cOe) fun x => Abz (theT ePl x).1.bays (AaG (theT ePl x).1 ++ (theT ePl x).2.1.map SRel.name) ((theT ePl x).2.1.map SRel.bay) (theT ePl x).2.2) :=
  .cons (.t' (r := fun (a : SSta × List SRel × SRel) => vI (Abz a.1.bays (AaG a.1 ++ a.2.1.map SRel.name) (a.2.1.map SRel.bay) a.2.2)) fun a h => by
   unfold cOe at h
   simp only [Bool.and_eq_true] at h
   exact cOn a.1 a.2.1 a.2.2 h.1 h.2.1 h.2.2) .nil
 obtain ⟨g, hg⟩ : ∃ g, l.length < g := ⟨l.length + 1, by omega⟩
 refine Aau hS.ok Tryz.func29 bck7 rfl ((evck7 _ _ s l g).trans ?_)
 have hl' := AaF hl
 have lp : ∀ (m k : Nat), k ≤ l.length → l.length - k < m → Lck7_2 (okG ePl cOe) (fun x => Abz (theT ePl x).1.bays (AaG (theT ePl x).1 ++ (theT ePl x).2.1.map SRel.name) ((theT ePl x).2.1.map SRel.bay) (theT ePl x).2.2) s l g m k =
  some (.leaf (vP (Abi s.bays (AaG s ++ (l.take k).map SRel.name) ((l.take k).map SRel.bay) k (l.drop k)), [])) := by
  intro m
  induction m with
  | zero => intro k _ h; omega
  | succ m ih =>
   intro k hk h
   rw [stck7_2, ref_chk s l k hk]
   by_cases hlt : k < l.length
   ·rw [dif_pos hlt, lt1 hlt, ge0 k, tn, nx hlt hl', ih (k + 1) (by omega) (by omega)]
    have b1 : decide (((0 : Nat) : Int) ≤ (k : Int)) = true := decide_eq_true (by omega)
    have b2 : decide ((k : Int) ≤ (l.length : Int)) = true := decide_eq_true (by omega)
    have b3 : decide ((0 : Int) ≤ ((0 : Nat) : Int)) = true := rfl
    rw [b1, b2, b3]
    obtain ⟨d1, d2⟩ := tk_take l k hk
    have hr : Abk (l.getD k rel0) = true := Acu ha rfl k
    have a1 : Asle [aSta s, .c (.d (tk l k)), aRel (l.getD k rel0)] (ePl (s, l.take k, l.getD k rel0)) := .cons (.refl _) (.cons d1 (.cons (.refl _) .nil))
    have a2 : Asle (ePl (s, l.take k, l.getD k rel0)) [aSta s, .c (.d (tk l k)), aRel (l.getD k rel0)] := .cons (.refl _) (.cons d2 (.cons (.refl _) .nil))
    have q1 : okG ePl cOe [aSta s, .c (.d (tk l k)), aRel (l.getD k rel0)] = true := okG_of ePl_inj a1 a2 (by
     unfold cOe Aaq
     rw [hs, hr, decide_eq_true (by simp; omega)]; rfl)
    have q2 : theT ePl [aSta s, .c (.d (tk l k)), aRel (l.getD k rel0)] = (s, l.take k, l.getD k rel0) := AfG ePl_inj a1 a2
    unfold tk at q1 q2
    rw [tn] at q1 q2
    rw [q1, q2]
    simp only [tt, cond_true]
    generalize Abz s.bays (AaG s ++ (l.take k).map SRel.name) ((l.take k).map SRel.bay) (l.getD k rel0) = e
    cases (e != 0) <;> rfl
   ·rw [dif_neg hlt, lt0 hlt]
    rfl
 have e := lp g 0 (by omega) (by omega)
 simp only [List.take_zero, List.map_nil, List.append_nil, List.drop_zero] at e
 exact e
end Go.Proofs.YtbpndheehcbldaaGreatDoor.se
namespace Go.Proofs.YtbpndheehcbldaaGreatDoor.st
open Go.RowKit Go.Eb
def large (s : SSta) : Bool := decide (8 < s.buses.length) || (decide (10 < s.lines.length) || (decide (8 < s.srcs.length) || (decide (20 < s.bays.length) || s.bays.any fun b => decide (6 < b.links.length))))
theorem b7 : Tryz.f19.body = some (Aad Tryz.f19) := by kernel_rfl
theorem gtD (n k : Nat) : decide ((n : Int) > (k : Int)) = decide (k < n) := by
 by_cases h : k < n
 ·rw [decide_eq_true h, decide_eq_true (by omega)]
 ·rw [decide_eq_false h, decide_eq_false (by omega)]
theorem lp7 (s : SSta) (g : Nat) (hb : s.bays.length ≤ 9223372036854775807) : ∀ (m k : Nat), k ≤ s.bays.length → s.bays.length - k < m → L7 s g m k = lB ((s.bays.drop k).any fun b => decide (6 < b.links.length))
 | 0, k, _, h => by omega
 | m + 1, k, hk, h => by
  rw [st7]
  by_cases hlt : k < s.bays.length
  ·have ih := lp7 s g hb m (k + 1) (by omega) (by omega)
   rw [Aar (d := bay0) hlt]
   have e6 : decide (((s.bays.getD k bay0).links.length : Int) > (6 : Int)) = decide (6 < (s.bays.getD k bay0).links.length) := gtD _ 6
   simp only [lt1 hlt, ge0, tn, tt, cond_true, nx hlt hb, ih, List.any_cons, e6]
   cases decide (6 < (s.bays.getD k bay0).links.length) <;> rfl
  ·rw [lt0 hlt, List.drop_of_length_le (by omega)]
   rfl
theorem c7 (s : SSta) (hs : AcF s = true) : CX Tryz.prog 19 [aSta s] [] (vB (large s)) [] := by
 obtain ⟨a1, a2, a3, a4, a5⟩ := Ada hs
 obtain ⟨g, hg⟩ : ∃ g, s.bays.length < g := ⟨s.bays.length + 1, by omega⟩
 refine Aau (Orc.nil_ok _) Tryz.func19 b7 rfl ((ev7 s g).trans ?_)
 have hl : L7 s g g 0 = lB (s.bays.any fun b => decide (6 < b.links.length)) := lp7 s g a4 g 0 (by omega) (by omega)
 have t8 : ∀ n : Nat, decide ((n : Int) > 8) = decide (8 < n) := fun n => gtD n 8
 have t10 : ∀ n : Nat, decide ((n : Int) > 10) = decide (10 < n) := fun n => gtD n 10
 have t20 : ∀ n : Nat, decide ((n : Int) > 20) = decide (20 < n) := fun n => gtD n 20
 rw [hl]
 simp only [t8, t10, t20]
 unfold large
 cases decide (8 < s.buses.length) <;> cases decide (10 < s.lines.length) <;> cases decide (8 < s.srcs.length) <;> cases decide (20 < s.bays.length) <;> rfl
end Go.Proofs.YtbpndheehcbldaaGreatDoor.st
namespace Go.Proofs.YtbpndheehcbldaaGreatDoor.st
open Go.RowKit Go.Eb
noncomputable def rsta (x : RSta) : SSta := ⟨x.1, theE Aaa x.2.1, theE Aal x.2.2.1, theE Abn x.2.2.2.1, theE Abj x.2.2.2.2.1⟩
noncomputable def okRS (x : RSta) : Bool := okE Aaa x.2.1 && (okE Aal x.2.2.1 && (okE Abn x.2.2.2.1 && okE Abj x.2.2.2.2.1))
def staR (s : SSta) : RSta := (s.name, Aaa s.buses, Aal s.lines, Abn s.srcs, Abj s.bays, ())
theorem Aha (s : SSta) : okRS (staR s) = true := by
 unfold okRS staR
 rw [(AaO Abu s.buses).1, (AaO Afn s.lines).1, (AaO Agx s.srcs).1, (AaO AfB s.bays).1]; rfl
theorem AdO (s : SSta) : rsta (staR s) = s := by
 unfold rsta staR
 simp only [(AaO Abu s.buses).2, (AaO Afn s.lines).2, (AaO Agx s.srcs).2, (AaO AfB s.bays).2]
theorem sta_le (x : RSta) (h : okRS x = true) : Ale (.agg (staD.enc x)) (aSta (rsta x)) := by
 unfold okRS at h
 simp only [Bool.and_eq_true] at h
 exact .cons (.refl _) (.cons (Acb h.1) (.cons (Acb h.2.1) (.cons (Acb h.2.2.1) (.cons (Acb h.2.2.2) .nil))))
noncomputable def ok24 (x : RSta) (b : RBay) : Bool := okRS x && okRB b
noncomputable def lk24 (x : RSta) (b : RBay) : Int := Abg (rsta x).buses.length (rbay b)
theorem s24 : OrcS Tryz.prog (o24 (fun a => Acd (rbay a)) okRB ok24 lk24) := by
 refine .cons (.inl .nil Tryz.func114 (by kernel_rfl)) (.cons (.d fun a ha => ?_) (.cons (.d fun a ha => ?_) .nil))
 ·exact (c49 (rbay a.1.1)).ge (.cons (bay_le _ ha) .nil) (.refl _)
 ·unfold ok24 at ha
  simp only [Bool.and_eq_true] at ha
  exact (c50 (rsta a.1.1) (rbay a.1.2.1) (okRB_len ha.2)).ge (.cons (sta_le _ ha.1) (.cons (bay_le _ ha.2) .nil)) (.refl _)
def Aef (nb nl ns : Nat) (before : List SBay) (b : SBay) : Int := match cntOf nl ns b.kind with
 | none => 10
 | some c => bif !Aac b.off 0 (c - 1) then 9 else bif !Acd b then 2 else bif before.any (AcN b) then 12 else Abg nb b
theorem bayErr_rest (nb nl ns : Nat) (N : List ByteArray) (before : List SBay) (b : SBay) : Ags nb nl ns N before b = bif Abb N b.name != 0 then Abb N b.name else Aef nb nl ns before b := by
 unfold Ags AeW Abb Aef
 cases Aae b.name with
 | false => rfl
 | true => cases inB N b.name <;> rfl
section
variable (s : SSta) (i : Nat) (hi : i < s.bays.length)
abbrev bI (s : SSta) (i : Nat) : SBay := s.bays.getD i bay0
include hi
theorem lp24 (hb : s.bays.length ≤ 9223372036854775807) (hl : (bI s i).links.length ≤ 9223372036854775807) (g : Nat) : ∀ (m k : Nat), k ≤ i → i - k < m →
  L24_8 (fun a => Acd (rbay a)) okRB ok24 lk24 s i g m k = bif ((s.bays.take i).drop k).any (AcN (bI s i)) then lI 12 [] else lI (Abg s.buses.length (bI s i)) []
 | 0, k, _, h => by omega
 | m + 1, k, hk, h => by
  rw [st24_8]
  have hok : ok24 (staR s) (bayR (bI s i)) = true := by
   unfold ok24
   have e1 : okRB (bayR (bI s i)) = true := Adb hl
   rw [Aha, e1]; rfl
  have hlk : lk24 (staR s) (bayR (bI s i)) = Abg s.buses.length (bI s i) := by unfold lk24; rw [AdO, AdQ]
  have haft : ∀ A B : RSta, ∀ C' D' : RBay, A = staR s → B = staR s → C' = bayR (bI s i) → D' = bayR (bI s i) → (bif ok24 A C' then some (T.leaf (vI (lk24 B D'), ([] : Hp))) else none) = lI (Abg s.buses.length (bI s i)) [] := by
   intro A B C' D' hA hB hC hD
   subst hA hB hC hD
   rw [hok, hlk]; rfl
  by_cases hlt : k < i
  ·have ih := lp24 hb hl g m (k + 1) (by omega) (by omega)
   have ht : k < (s.bays.take i).length := by simp; omega
   have hg : (s.bays.take i).getD k bay0 = s.bays.getD k bay0 := by simp [List.getD, hlt]
   rw [Aar (d := bay0) ht, hg]
   simp only [lt1 hlt, lt1 (show k < s.bays.length by omega), ge0, tn, Bool.and_self, cond_true, nx hlt (by omega), ih, List.any_cons]
   cases h3 : ((s.bays.getD i bay0).kind != 3) with
   | false =>
    have hn : ∀ l : List SBay, l.any (AcN (bI s i)) = false := fun l => by
     rw [List.any_eq_false]
     intro y _
     unfold AcN
     rw [h3]; simp
    have hc : AcN (bI s i) (s.bays.getD k bay0) = false := by unfold AcN; rw [h3]; rfl
    rw [hn, hc]
    simp only [cond_false, Bool.or_self]
    exact haft _ _ _ _ rfl rfl rfl rfl
   | true =>
    have hc : AcN (bI s i) (s.bays.getD k bay0) = ((s.bays.getD k bay0).kind == (bI s i).kind && ((s.bays.getD k bay0).off == (bI s i).off && (s.bays.getD k bay0).fin == (bI s i).fin)) := by
     unfold AcN
     rw [h3]
     simp only [Bool.true_and]
     rw [Bool.beq_comm (a := (bI s i).kind), Bool.beq_comm (a := (bI s i).off), Bool.beq_comm (a := (bI s i).fin)]
    rw [hc]
    simp only [cond_true]
    generalize ((s.bays.getD k bay0).kind == (s.bays.getD i bay0).kind) = b1
    generalize ((s.bays.getD k bay0).off == (s.bays.getD i bay0).off) = b2
    generalize ((s.bays.getD k bay0).fin == (s.bays.getD i bay0).fin) = b3
    cases b1 <;> cases b2 <;> cases b3 <;> rfl
  ·obtain rfl : k = i := by omega
   rw [lt0 (Nat.lt_irrefl _), List.drop_of_length_le (by simp; omega)]
   simp only [cond_false, List.any_nil]
   exact haft _ _ _ _ rfl rfl rfl rfl
omit hi in
theorem wge (b : Int) (n : Nat) : (decide (b < 0) || decide (b ≥ (n : Int))) = !Aac b 0 ((n : Int) - 1) := bge b n
omit hi in
theorem w00 (b : Int) : (b != 0) = !Aac b 0 ((1 : Int) - 1) := by
 unfold Aac
 rw [Bool.eq_iff_iff]
 simp only [bne_iff_ne, ne_eq, Bool.not_eq_true', Bool.and_eq_false_iff, decide_eq_false_iff_not]
 omega
theorem c24 (hb : s.bays.length ≤ 9223372036854775807) (hl : (bI s i).links.length ≤ 9223372036854775807) : CX Tryz.prog 62 [aSta s, vI i] [] (vI (Aef s.buses.length s.lines.length s.srcs.length (s.bays.take i) (bI s i))) [] := by
 obtain ⟨g, hg⟩ : ∃ g, i < g := ⟨i + 1, by omega⟩
 refine Aau s24.ok Tryz.func62 b24 rfl ((ev24 (fun a => Acd (rbay a)) okRB ok24 lk24 s i g).trans ?_)
 have hL : L24_8 (fun a => Acd (rbay a)) okRB ok24 lk24 s i g g 0 = bif (s.bays.take i).any (AcN (bI s i)) then lI 12 [] else lI (Abg s.buses.length (bI s i)) [] := lp24 s i hi hb hl g g 0 (by omega) (by omega)
 have e1 : okRB (bayR (s.bays.getD i bay0)) = true := Adb hl
 have e2 : Acd (rbay (bayR (s.bays.getD i bay0))) = Acd (s.bays.getD i bay0) := by rw [AdQ]
 unfold bayR at e1 e2
 rw [hL]
 simp only [lt1 hi, ge0, tn, Bool.and_self, cond_true, e1, e2, fOr, wge, w00]
 unfold Aef cntOf
 cases ((s.bays.getD i bay0).kind == 1) with
 | true =>
  simp only [cond_true]
  cases Aac (s.bays.getD i bay0).off 0 ((s.lines.length : Int) - 1) <;> first | rfl | (cases Acd (s.bays.getD i bay0) <;> first | rfl | (cases (s.bays.take i).any (AcN (s.bays.getD i bay0)) <;> rfl))
 | false =>
  cases ((s.bays.getD i bay0).kind == 2) with
  | true =>
   simp only [cond_true, cond_false]
   cases Aac (s.bays.getD i bay0).off 0 ((s.srcs.length : Int) - 1) <;> first | rfl | (cases Acd (s.bays.getD i bay0) <;> first | rfl | (cases (s.bays.take i).any (AcN (s.bays.getD i bay0)) <;> rfl))
  | false =>
   cases ((s.bays.getD i bay0).kind == 3) with
   | true =>
    simp only [cond_true, cond_false]
    cases Aac (s.bays.getD i bay0).off 0 ((1 : Int) - 1) <;> first | rfl | (cases Acd (s.bays.getD i bay0) <;> first | rfl | (cases (s.bays.take i).any (AcN (s.bays.getD i bay0)) <;> rfl))
   | false => rfl
end
end Go.Proofs.YtbpndheehcbldaaGreatDoor.st
namespace Go.Proofs.YtbpndheehcbldaaGreatDoor.st
open Go.RowKit Go.Eb
noncomputable def Z8 : K8 where
 nk := Aae
 okn a := okRS a.1 && (decide (0 ≤ a.2.1) && (decide (0 ≤ a.2.2.1) && (decide (0 ≤ a.2.2.2.1) && (decide (0 ≤ a.2.2.2.2.1) && (decide (a.2.1.toNat ≤ (rsta a.1).buses.length) && (decide (a.2.2.1.toNat ≤ (rsta a.1).lines.length) && (decide (a.2.2.2.1.toNat ≤ (rsta a.1).srcs.length) && (decide (a.2.2.2.2.1.toNat ≤ (rsta a.1).bays.length) &&
  (decide (a.2.1.toNat ≤ 900) && (decide (a.2.2.1.toNat ≤ 900) && (decide (a.2.2.2.1.toNat ≤ 900) && decide (a.2.2.2.2.1.toNat ≤ 900))))))))))))
 nm a := Aaa (AaY (rsta a.1) a.2.1.toNat a.2.2.1.toNat a.2.2.2.1.toNat a.2.2.2.2.1.toNat)
 okd x s := okDS x s
 nd x s := Abb (theE Aaa x) s
 okb a n := okRS a && (decide (0 ≤ n) && (decide (n.toNat < (rsta a).bays.length) && (decide ((rsta a).bays.length ≤ 900) && AfO (rsta a).bays)))
 be a n := Aef (rsta a).buses.length (rsta a).lines.length (rsta a).srcs.length ((rsta a).bays.take n.toNat) ((rsta a).bays.getD n.toNat bay0)
theorem s8 : OrcS Tryz.prog (o8 Z8) := by
 refine .cons (.p AcU c16) (.cons (.d fun a ha => ?_) (.cons (.d fun a ha => ?_) (.cons (.inl sOh Tryz.func61 (by kernel_rfl)) (.cons (.d fun a ha => ?_) sOh))))
 ·have ha' : (okRS a.1.1 && (decide (0 ≤ a.1.2.1) && (decide (0 ≤ a.1.2.2.1) && (decide (0 ≤ a.1.2.2.2.1) && (decide (0 ≤ a.1.2.2.2.2.1) && (decide (a.1.2.1.toNat ≤ (rsta a.1.1).buses.length) && (decide (a.1.2.2.1.toNat ≤ (rsta a.1.1).lines.length) && (decide (a.1.2.2.2.1.toNat ≤ (rsta a.1.1).srcs.length) && (decide (a.1.2.2.2.2.1.toNat ≤ (rsta a.1.1).bays.length) &&
   (decide (a.1.2.1.toNat ≤ 900) && (decide (a.1.2.2.1.toNat ≤ 900) && (decide (a.1.2.2.2.1.toNat ≤ 900) && decide (a.1.2.2.2.2.1.toNat ≤ 900))))))))))))) = true := ha
  simp only [Bool.and_eq_true, decide_eq_true_eq] at ha'
  obtain ⟨h0, p1, p2, p3, p4, q1, q2, q3, q4, r1, r2, r3, r4⟩ := ha'
  have hc := c21 (rsta a.1.1) a.1.2.1.toNat a.1.2.2.1.toNat a.1.2.2.2.1.toNat a.1.2.2.2.2.1.toNat q1 q2 q3 q4 r1 r2 r3 r4
  rw [Int.toNat_of_nonneg p1, Int.toNat_of_nonneg p2, Int.toNat_of_nonneg p3, Int.toNat_of_nonneg p4] at hc
  exact hc.ge (.cons (sta_le _ h0) (.refl _)) (.refl _)
 ·have ha' : okDS a.1.1 a.1.2.1 = true := ha
  unfold okDS at ha'
  simp only [Bool.and_eq_true, decide_eq_true_eq] at ha'
  exact (c20 (theE Aaa a.1.1) a.1.2.1 ha'.2).ge (.cons (Acb ha'.1) (.refl _)) (.refl _)
 ·have ha' : (okRS a.1.1 && (decide (0 ≤ a.1.2.1) && (decide (a.1.2.1.toNat < (rsta a.1.1).bays.length) && (decide ((rsta a.1.1).bays.length ≤ 900) && AfO (rsta a.1.1).bays)))) = true := ha
  simp only [Bool.and_eq_true, decide_eq_true_eq] at ha'
  obtain ⟨h0, p1, p2, p3, p4⟩ := ha'
  have hc := c24 (rsta a.1.1) a.1.2.1.toNat p2 (by omega) (lksOk_get p4 _ p2)
  rw [Int.toNat_of_nonneg p1] at hc
  exact hc.ge (.cons (sta_le _ h0) (.refl _)) (.refl _)
theorem Afy {α : Type} {nm : α → ByteArray} {F : List ByteArray → List α → α → Int} {N : List ByteArray} {d0 : α} {l : List α} {L : Nat → Int → Option (T (AV × Hp))} {NX : Option (T (AV × Hp))}
  (hst : ∀ (m k : Nat), k < l.length → L (m + 1) k = bif F (N ++ (l.take k).map nm) (l.take k) (l.getD k d0) != 0 then lI (F (N ++ (l.take k).map nm) (l.take k) (l.getD k d0)) [] else L m ((k + 1 : Nat) : Int))
  (hend : ∀ m, L (m + 1) l.length = NX) : ∀ (m k : Nat), k ≤ l.length → l.length - k < m → L m k = bif (Acm nm F N (l.take k) (l.drop k)).1 != 0 then lI (Acm nm F N (l.take k) (l.drop k)).1 [] else NX
 | 0, k, _, h => by omega
 | m + 1, k, hk, h => by
  by_cases e : k = l.length
  ·subst e
   rw [hend, List.drop_of_length_le (Nat.le_refl _)]
   rfl
  ·have hlt : k < l.length := by omega
   have ih := Afy hst hend m (k + 1) (by omega) (by omega)
   have et : l.take (k + 1) = l.take k ++ [l.getD k d0] := by
    rw [List.take_succ_eq_append_getElem hlt]
    congr 2
    simp [List.getD, hlt]
   rw [hst m k hlt, ih, et, Aar (d := d0) hlt]
   simp only [Acm]
   cases hF : (F (N ++ (l.take k).map nm) (l.take k) (l.getD k d0) != 0) with
   | true => simp only [cond_true, hF]
   | false => simp only [cond_false]
section
variable (s : SSta) (h1 : s.buses.length ≤ 900) (h2 : s.lines.length ≤ 900) (h3 : s.srcs.length ≤ 900) (h4 : s.bays.length ≤ 900) (hlk : AfO s.bays = true)
include h1 h2 h3 h4
theorem okn8 (a b c d : Nat) (q1 : a ≤ s.buses.length) (q2 : b ≤ s.lines.length) (q3 : c ≤ s.srcs.length) (q4 : d ≤ s.bays.length) : Z8.okn (staR s, (a : Int), (b : Int), (c : Int), (d : Int), ()) = true := by
 show (okRS (staR s) && (decide (0 ≤ (a : Int)) && (decide (0 ≤ (b : Int)) && (decide (0 ≤ (c : Int)) && (decide (0 ≤ (d : Int)) && (decide ((a : Int).toNat ≤ (rsta (staR s)).buses.length) && (decide ((b : Int).toNat ≤ (rsta (staR s)).lines.length) && (decide ((c : Int).toNat ≤ (rsta (staR s)).srcs.length) && (decide ((d : Int).toNat ≤ (rsta (staR s)).bays.length) &&
  (decide ((a : Int).toNat ≤ 900) && (decide ((b : Int).toNat ≤ 900) && (decide ((c : Int).toNat ≤ 900) && decide ((d : Int).toNat ≤ 900))))))))))))) = true
 rw [Aha, AdO, Bool.true_and]
 simp only [Bool.and_eq_true, decide_eq_true_eq, Int.toNat_natCast]
 omega
omit h1 h2 h3 h4 in
theorem nm8 (a b c d : Nat) : Z8.nm (staR s, (a : Int), (b : Int), (c : Int), (d : Int), ()) = Aaa (AaY s a b c d) := by
 show Aaa (AaY (rsta (staR s)) _ _ _ _) = _
 rw [AdO]; rfl
theorem okd8 (a b c d : Nat) (q1 : a ≤ s.buses.length) (q2 : b ≤ s.lines.length) (q3 : c ≤ s.srcs.length) (q4 : d ≤ s.bays.length) (x : ByteArray) : Z8.okd (Aaa (AaY s a b c d)) x = true := by
 show okDS _ x = true
 unfold okDS
 rw [(AaO Abu _).1, (AaO Abu _).2]
 have : (AaY s a b c d).length ≤ 9223372036854775807 := by unfold AaY; simp; omega
 simp [this]
omit h1 h2 h3 h4 in
theorem nd8 (l : List ByteArray) (x : ByteArray) : Z8.nd (Aaa l) x = Abb l x := by
 show Abb (theE Aaa (Aaa l)) x = _
 rw [(AaO Abu l).2]
include hlk
omit h1 h2 h3 in
theorem okb8 (k : Nat) (hk : k < s.bays.length) : Z8.okb (staR s) (k : Int) = true := by
 show (okRS (staR s) && (decide (0 ≤ (k : Int)) && (decide ((k : Int).toNat < (rsta (staR s)).bays.length) && (decide ((rsta (staR s)).bays.length ≤ 900) && AfO (rsta (staR s)).bays)))) = true
 rw [Aha, AdO, hlk, Bool.true_and, Bool.and_true]
 simp only [Bool.and_eq_true, decide_eq_true_eq, Int.toNat_natCast]
 omega
omit h1 h2 h3 h4 hlk in
theorem be8 (k : Nat) : Z8.be (staR s) (k : Int) = Aef s.buses.length s.lines.length s.srcs.length (s.bays.take k) (s.bays.getD k bay0) := by
 show Aef (rsta (staR s)).buses.length _ _ _ _ = _
 rw [AdO]; rfl
abbrev Nb (s : SSta) : List ByteArray := s.buses
abbrev Nl (s : SSta) : List ByteArray := s.buses ++ s.lines.map SLine.name
abbrev Ns (s : SSta) : List ByteArray := s.buses ++ s.lines.map SLine.name ++ s.srcs.map SSrc.name
theorem lp8_29 (g : Nat) (hg : 900 < g) : L8_29 Z8 s g g 0 = lI (tBay s.buses.length s.lines.length s.srcs.length (Ns s) s.bays).1 [] := by
 have := Afy (nm := SBay.name) (F := fun N before x => Ags s.buses.length s.lines.length s.srcs.length N before x) (N := Ns s) (d0 := bay0) (l := s.bays) (L := fun m i => L8_29 Z8 s g m i) (NX := lI 0 [])
  (fun m k hk => by
    have e1 := okn8 s h1 h2 h3 h4 s.buses.length s.lines.length s.srcs.length k (by omega) (by omega) (by omega) (by omega)
    have e2 := nm8 s s.buses.length s.lines.length s.srcs.length k
    have e3 := okd8 s h1 h2 h3 h4 s.buses.length s.lines.length s.srcs.length k (by omega) (by omega) (by omega) (by omega) (s.bays.getD k bay0).name
    have e5 := okb8 s h4 hlk k hk
    have e6 := be8 s k
    have en : AaY s s.buses.length s.lines.length s.srcs.length k = Ns s ++ (s.bays.take k).map SBay.name := by unfold AaY; simp
    simp only [staR, Aaa, Aal, Abn, Abj, Aab] at e1 e2 e5 e6
    simp only [Aaa, Aab] at e3
    rw [st8_29]
    simp only [lt1 hk, ge0, tn, Bool.and_self, cond_true, nx hk (by omega), e1, e2, e3, e5, e6]
    have e4 := nd8 (AaY s s.buses.length s.lines.length s.srcs.length k) (s.bays.getD k bay0).name
    simp only [Aaa, Aab] at e4
    simp only [e4]
    simp only [en, bayErr_rest]
    generalize Abb (Ns s ++ (s.bays.take k).map SBay.name) (s.bays.getD k bay0).name = a
    generalize Aef s.buses.length s.lines.length s.srcs.length (s.bays.take k) (s.bays.getD k bay0) = b
    unfold bne
    cases ha : (a == 0) <;> cases hb : (b == 0) <;> simp only [ha, hb, cond_true, cond_false, Bool.not_true, Bool.not_false])
  (fun m => by rw [st8_29, lt0 (Nat.lt_irrefl _)]; rfl) g 0 (by omega) (by omega)
 have e : L8_29 Z8 s g g 0 = _ := this
 rw [e]
 show (bif (tBay s.buses.length s.lines.length s.srcs.length (Ns s) s.bays).1 != 0 then lI (tBay s.buses.length s.lines.length s.srcs.length (Ns s) s.bays).1 [] else lI 0 []) = _
 unfold bne
 cases hz : ((tBay s.buses.length s.lines.length s.srcs.length (Ns s) s.bays).1 == 0) with
 | false => rfl
 | true =>
  have : (tBay s.buses.length s.lines.length s.srcs.length (Ns s) s.bays).1 = 0 := by simpa using hz
  rw [this]; rfl
end
end Go.Proofs.YtbpndheehcbldaaGreatDoor.st
namespace Go.Proofs.YtbpndheehcbldaaGreatDoor.st
open Go.RowKit Go.Eb
section
variable (s : SSta) (h1 : s.buses.length ≤ 900) (h2 : s.lines.length ≤ 900) (h3 : s.srcs.length ≤ 900) (h4 : s.bays.length ≤ 900) (hlk : AfO s.bays = true)
include h1 h2 h3 h4
theorem lp8_21 (g : Nat) (hg : 900 < g) : L8_21 Z8 s g g 0 = bif (tSrc (Nl s) s.srcs).1 != 0 then lI (tSrc (Nl s) s.srcs).1 [] else L8_29 Z8 s g g 0 := by
 have hh := Afy (nm := SSrc.name) (F := fun N _ x => srcErr N x) (N := Nl s) (d0 := src0) (l := s.srcs) (L := fun m i => L8_21 Z8 s g m i) (NX := L8_29 Z8 s g g 0)
  (fun m k hk => by
    have e1 := okn8 s h1 h2 h3 h4 s.buses.length s.lines.length k 0 (by omega) (by omega) (by omega) (by omega)
    have e2 := nm8 s s.buses.length s.lines.length k 0
    have e3 := okd8 s h1 h2 h3 h4 s.buses.length s.lines.length k 0 (by omega) (by omega) (by omega) (by omega) (s.srcs.getD k src0).name
    have en : AaY s s.buses.length s.lines.length k 0 = Nl s ++ (s.srcs.take k).map SSrc.name := by unfold AaY; simp
    simp only [staR, Aaa, Aal, Abn, Abj, Aab, Int.natCast_zero] at e1 e2
    simp only [Aaa, Aab] at e3
    rw [st8_21]
    simp only [lt1 hk, ge0, tn, Bool.and_self, cond_true, nx hk (by omega), e1, e2, e3]
    have e4 := nd8 (AaY s s.buses.length s.lines.length k 0) (s.srcs.getD k src0).name
    simp only [Aaa, Aab] at e4
    simp only [e4]
    simp only [en, srcErr, Ahj, Aac, fNot, fAnd]
    generalize Abb (Nl s ++ (s.srcs.take k).map SSrc.name) (s.srcs.getD k src0).name = a
    generalize decide ((s.srcs.getD k src0).emf ≥ 1) = a1
    generalize decide ((s.srcs.getD k src0).emf ≤ 1000000) = a2
    generalize decide ((s.srcs.getD k src0).r1 ≥ 0) = b1
    generalize decide ((s.srcs.getD k src0).r1 ≤ 1000) = b2
    generalize decide ((s.srcs.getD k src0).x1 ≥ 1) = b3
    generalize decide ((s.srcs.getD k src0).x1 ≤ 1000) = b4
    generalize decide ((s.srcs.getD k src0).r0 ≥ 0) = b5
    generalize decide ((s.srcs.getD k src0).r0 ≤ 1000) = b6
    generalize decide ((s.srcs.getD k src0).x0 ≥ 1) = b7
    generalize decide ((s.srcs.getD k src0).x0 ≤ 1000) = b8
    unfold bne
    cases ha : (a == 0) with
    | false => simp only [ha, cond_true, cond_false, Bool.not_true, Bool.not_false]
    | true =>
     simp only [ha, cond_true, cond_false, Bool.not_true, Bool.not_false]
     cases a1 <;> cases a2 <;> first | rfl | (cases b1 <;> cases b2 <;> cases b3 <;> cases b4 <;> first | rfl | (cases b5 <;> cases b6 <;> cases b7 <;> cases b8 <;> rfl)))
  (fun m => by rw [st8_21, lt0 (Nat.lt_irrefl _)]; rfl) g 0 (by omega) (by omega)
 simp only [List.take_zero, List.drop_zero] at hh
 exact hh
theorem lp8_13 (g : Nat) (hg : 900 < g) : L8_13 Z8 s g g 0 = bif (AdL (Nb s) s.lines).1 != 0 then lI (AdL (Nb s) s.lines).1 [] else L8_21 Z8 s g g 0 := by
 have hh := Afy (nm := SLine.name) (F := fun N _ x => AfP N x) (N := Nb s) (d0 := Aaf) (l := s.lines) (L := fun m i => L8_13 Z8 s g m i) (NX := L8_21 Z8 s g g 0)
  (fun m k hk => by
    have e1 := okn8 s h1 h2 h3 h4 s.buses.length k 0 0 (by omega) (by omega) (by omega) (by omega)
    have e2 := nm8 s s.buses.length k 0 0
    have e3 := okd8 s h1 h2 h3 h4 s.buses.length k 0 0 (by omega) (by omega) (by omega) (by omega) (s.lines.getD k Aaf).name
    have en : AaY s s.buses.length k 0 0 = Nb s ++ (s.lines.take k).map SLine.name := by unfold AaY; simp
    simp only [staR, Aaa, Aal, Abn, Abj, Aab, Int.natCast_zero] at e1 e2
    simp only [Aaa, Aab] at e3
    rw [st8_13]
    simp only [lt1 hk, ge0, tn, Bool.and_self, cond_true, nx hk (by omega), e1, e2, e3]
    have e4 := nd8 (AaY s s.buses.length k 0 0) (s.lines.getD k Aaf).name
    simp only [Aaa, Aab] at e4
    simp only [e4]
    simp only [en, AfP, Ahj, Aac, fNot, fAnd]
    generalize Abb (Nb s ++ (s.lines.take k).map SLine.name) (s.lines.getD k Aaf).name = a
    generalize decide ((s.lines.getD k Aaf).r1 ≥ 0) = b1
    generalize decide ((s.lines.getD k Aaf).r1 ≤ 1000) = b2
    generalize decide ((s.lines.getD k Aaf).x1 ≥ 1) = b3
    generalize decide ((s.lines.getD k Aaf).x1 ≤ 1000) = b4
    generalize decide ((s.lines.getD k Aaf).r0 ≥ 0) = b5
    generalize decide ((s.lines.getD k Aaf).r0 ≤ 1000) = b6
    generalize decide ((s.lines.getD k Aaf).x0 ≥ 1) = b7
    generalize decide ((s.lines.getD k Aaf).x0 ≤ 1000) = b8
    unfold bne
    cases ha : (a == 0) with
    | false => simp only [ha, cond_true, cond_false, Bool.not_true, Bool.not_false]
    | true =>
     simp only [ha, cond_true, cond_false, Bool.not_true, Bool.not_false]
     cases b1 <;> cases b2 <;> cases b3 <;> cases b4 <;> first | rfl | (cases b5 <;> cases b6 <;> cases b7 <;> cases b8 <;> rfl))
  (fun m => by rw [st8_13, lt0 (Nat.lt_irrefl _)]; rfl) g 0 (by omega) (by omega)
 simp only [List.take_zero, List.drop_zero] at hh
 exact hh
theorem st7' (g m k : Nat) (hk : k < s.buses.length) : L8_7 Z8 s g (m + 1) k = bif Abb (s.buses.take k) (s.buses.getD k e0) != 0 then lI (Abb (s.buses.take k) (s.buses.getD k e0)) [] else L8_7 Z8 s g m ((k + 1 : Nat) : Int) := by
 have e1 := okn8 s h1 h2 h3 h4 k 0 0 0 (by omega) (by omega) (by omega) (by omega)
 have e2 := nm8 s k 0 0 0
 have e3 := okd8 s h1 h2 h3 h4 k 0 0 0 (by omega) (by omega) (by omega) (by omega) (s.buses.getD k e0)
 have en : AaY s k 0 0 0 = s.buses.take k := by unfold AaY; simp
 simp only [staR, Aaa, Aal, Abn, Abj, Aab, Int.natCast_zero] at e1 e2
 simp only [Aaa, Aab] at e3
 rw [st8_7]
 simp only [lt1 hk, ge0, tn, Bool.and_self, cond_true, e1, e2]
 rw [nx hk (by omega), e3]
 have e4 := nd8 (AaY s k 0 0 0) (s.buses.getD k e0)
 simp only [Aaa, Aab] at e4
 simp only [e4, cond_true]
 simp only [en]
theorem lp8_7 (g : Nat) (hg : 900 < g) : L8_7 Z8 s g g 0 = bif (tBus s.buses).1 != 0 then lI (tBus s.buses).1 [] else L8_13 Z8 s g g 0 := by
 have hh := Afy (nm := id) (F := fun N _ x => Abb N x) (N := []) (d0 := e0) (l := s.buses) (L := fun m i => L8_7 Z8 s g m i) (NX := L8_13 Z8 s g g 0)
  (fun m k hk => by
    have := st7' s h1 h2 h3 h4 g m k hk
    simp only [List.nil_append, List.map_id]
    exact this)
  (fun m => by rw [st8_7, lt0 (Nat.lt_irrefl _)]; simp only [cond_false]) g 0 (by omega) (by omega)
 simp only [List.take_zero, List.drop_zero] at hh
 exact hh
end
theorem c8 (s : SSta) (hlk : AfO s.bays = true) : CX Tryz.prog 28 [aSta s] [] (vI (AbQ s)) [] := by
 obtain ⟨g, hg⟩ : ∃ g, 900 < g := ⟨901, by omega⟩
 refine Aau s8.ok Tryz.func28 b8 rfl ((ev8 Z8 s g).trans ?_)
 have t4 : ∀ n : Nat, decide ((n : Int) > 4) = decide (4 < n) := fun n => len_gt n 4
 have t6 : ∀ n : Nat, decide ((n : Int) > 6) = decide (6 < n) := fun n => len_gt n 6
 have t16 : ∀ n : Nat, decide ((n : Int) > 16) = decide (16 < n) := fun n => len_gt n 16
 have t1 : ∀ n : Nat, decide ((n : Int) < 1) = (n == 0) := fun n => by
  rw [Bool.eq_iff_iff, decide_eq_true_eq, beq_iff_eq]; omega
 simp only [t1, t4, t6, t16, fOr]
 unfold AbQ
 show (bif !Aae s.name then _ else _) = _
 cases Aae s.name with
 | false => rfl
 | true =>
  simp only [Bool.not_true, cond_false]
  have hcb : (s.buses.length == 0 || (decide (4 < s.buses.length) || (decide (6 < s.lines.length) || (decide (4 < s.srcs.length) || decide (16 < s.bays.length))))) = Ahz s := rfl
  rw [hcb]
  cases hc : Ahz s with
  | true => rfl
  | false =>
   simp only [cond_false]
   unfold Ahz at hc
   simp only [Bool.or_eq_false_iff, decide_eq_false_iff_not] at hc
   obtain ⟨_, h4, h6, h4', h16⟩ := hc
   rw [lp8_7 s (by omega) (by omega) (by omega) (by omega) g hg, lp8_13 s (by omega) (by omega) (by omega) (by omega) g hg, lp8_21 s (by omega) (by omega) (by omega) (by omega) g hg, lp8_29 s (by omega) (by omega) (by omega) (by omega) hlk g hg]
   cases ((tBus s.buses).1 != 0) with
   | true => rfl
   | false =>
    cases ((AdL s.buses s.lines).1 != 0) with
    | true => rfl
    | false =>
     cases ((tSrc (s.buses ++ s.lines.map SLine.name) s.srcs).1 != 0) <;> rfl
end Go.Proofs.YtbpndheehcbldaaGreatDoor.st
namespace Go.Proofs.YtbpndheehcbldaaGreatDoor.tb
open Go.RowKit Go.Eb Go.Proofs.YtbpndheehcbldaaGreatDoor.st
set_option maxRecDepth 100000
open Go.Proofs.YtbpndheehcbldaaGreatDoor.se (Abi Abz AaK placeK AeM AaQ AdM AdB Acr Ahs Ahu eSubs AhA c13c cCk cSz vP eSt AcJ)
open Go.Proofs.YtbpndheehcbldaaGreatDoor.sg (fitR FitR AaC fitC AbB eR1 AbK cSck cRck eCf AbV)
def Ahg (r : SRel) : Bool := decide (20 < r.rules.length) || (decide (8 < r.sets.length) || (decide (8 < r.pubs.length) || (decide (30 < r.subs.length) || ((r.sets.any fun x => decide (30 < x.sigs.length)) || r.rules.any fun x => decide (200 < x.text.size)))))
theorem AgF {α : Type} {p : α → Bool} {l : List α} {d0 : α} {L : Nat → Int → Option (T (AV × Hp))} {A B : Option (T (AV × Hp))}
  (hst : ∀ (m k : Nat), k < l.length → L (m + 1) k = bif p (l.getD k d0) then A else L m ((k + 1 : Nat) : Int)) (hend : ∀ m, L (m + 1) l.length = B) :
  ∀ (m k : Nat), k ≤ l.length → l.length - k < m → L m k = bif (l.drop k).any p then A else B
 | 0, k, _, h => by omega
 | m + 1, k, hk, h => by
  by_cases e : k = l.length
  ·subst e
   rw [hend, List.drop_of_length_le (Nat.le_refl _)]
   rfl
  ·have hlt : k < l.length := by omega
   rw [hst m k hlt, AgF hst hend m (k + 1) (by omega) (by omega), Aar (d := d0) hlt]
   simp only [List.any_cons]
   cases p (l.getD k d0) <;> rfl
theorem lg7b (r : SRel) (g : Nat) (h1 : r.rules.length ≤ 9223372036854775807) (g2 : r.rules.length < g) : AhM r g g 0 = bif (r.rules.any fun x => decide (200 < x.text.size)) then lB true else lB false := by
 have t200 : ∀ n : Nat, decide ((n : Int) > 200) = decide (200 < n) := fun n => gtD n 200
 have l2 := AgF (p := fun x : SRule => decide (200 < x.text.size)) (l := r.rules) (d0 := AaI) (L := fun m i => AhM r g m i) (A := lB true) (B := lB false) (fun m k hk => by
  have st := stlg7_9 r g m k
  rw [lt1 hk, ge0, tn, nx hk h1, t200] at st
  rw [tt, cond_true] at st
  exact st) (fun m => by
  have st := stlg7_9 r g m (r.rules.length : Nat)
  rw [lt0 (Nat.lt_irrefl _)] at st
  rw [cond_false] at st
  exact st) g 0 (by omega) (by omega)
 exact l2
theorem lg7a (r : SRel) (g : Nat) (h2 : r.sets.length ≤ 9223372036854775807) (g1 : r.sets.length < g) : Llg7_4 r g g 0 = bif (r.sets.any fun x => decide (30 < x.sigs.length)) then lB true else AhM r g g 0 := by
 have t30 : ∀ n : Nat, decide ((n : Int) > 30) = decide (30 < n) := fun n => gtD n 30
 have l1 := AgF (p := fun x : SSet => decide (30 < x.sigs.length)) (l := r.sets) (d0 := set0) (L := fun m i => Llg7_4 r g m i) (A := lB true) (B := AhM r g g 0) (fun m k hk => by
  have st := stlg7_4 r g m k
  rw [lt1 hk, ge0, tn, nx hk h2, t30] at st
  rw [tt, cond_true] at st
  exact st) (fun m => by
  have st := stlg7_4 r g m (r.sets.length : Nat)
  rw [lt0 (Nat.lt_irrefl _)] at st
  rw [cond_false] at st
  exact st) g 0 (by omega) (by omega)
 exact l1
theorem clg7t (a b c d e f : Bool) : (bif a then lB true else bif b then lB true else bif c then lB true else bif d then lB true else bif e then lB true else bif f then lB true else lB false) = lB (a || (b || (c || (d || (e || f))))) := by
 cases a <;> cases b <;> cases c <;> cases d <;> cases e <;> cases f <;> rfl
theorem clg7 (r : SRel) (hr : Abk r = true) : CX Tryz.prog 44 [aRel r] [] (vB (Ahg r)) [] := by
 obtain ⟨h1, h2, h3, h4, h5⟩ := AdR hr
 obtain ⟨g, g1, g2⟩ : ∃ g, r.sets.length < g ∧ r.rules.length < g := ⟨r.sets.length + r.rules.length + 1, by omega⟩
 refine Aau (Orc.nil_ok _) Tryz.func44 blg7 rfl ((evlg7 r g).trans ?_)
 have t30 : ∀ n : Nat, decide ((n : Int) > 30) = decide (30 < n) := fun n => gtD n 30
 have t20 : ∀ n : Nat, decide ((n : Int) > 20) = decide (20 < n) := fun n => gtD n 20
 have t8 : ∀ n : Nat, decide ((n : Int) > 8) = decide (8 < n) := fun n => gtD n 8
 rw [lg7a r g h2 g1, lg7b r g h1 g2, t20, t8, t8, t30]
 exact clg7t _ _ _ _ _ _
def large8 (l : List SRel) : Bool := decide (20 < l.length) || l.any Ahg
def AbX (c : SCfg) : Bool := large c.sta || large8 c.rels
def okCf (c : SCfg) : Bool := AcF c.sta && (Aaq c.rels && c.rels.all Abk)
theorem Afh {c : SCfg} (h : okCf c = true) : AcF c.sta = true ∧ Aaq c.rels = true ∧ c.rels.all Abk = true := by
 unfold okCf at h
 simp only [Bool.and_eq_true] at h
 exact ⟨h.1, h.2.1, h.2.2⟩
theorem clg8 (c : SCfg) (h : okCf c = true) : CX Tryz.prog 20 [aCfg c] [] (vB (large8 c.rels)) [] := by
 obtain ⟨_, hl, ha⟩ := Afh h
 have hs : OrcS Tryz.prog (oLg8 (okG eR1 Abk) fun x => Ahg (theT eR1 x)) := .cons (.t' (enc := eR1) (c := Abk) (r := fun r => vB (Ahg r)) fun r hr => clg7 r hr) .nil
 have e := AgF (p := Ahg) (l := c.rels) (d0 := rel0) (L := fun m i => Llg8_4 (okG eR1 Abk) (fun x => Ahg (theT eR1 x)) c (c.rels.length + 1) m i) (A := lB true) (B := lB false) (fun m k hk => by
  have k1 : okG eR1 Abk [AV.agg (List.map C.d (relC (c.rels.getD k rel0)))] = true := Aam AbK (c := Abk) (c.rels.getD k rel0) (Acu ha rfl k)
  have k2 : theT eR1 [AV.agg (List.map C.d (relC (c.rels.getD k rel0)))] = c.rels.getD k rel0 := Aah AbK (c.rels.getD k rel0)
  rw [stlg8_4, lt1 hk, ge0, tn, k1, k2, nx hk (AaF hl), tt, cond_true, cond_true, cond_true]) (fun m => by
  rw [stlg8_4, lt0 (Nat.lt_irrefl _)]
  rfl) (c.rels.length + 1) 0 (by omega) (by omega)
 refine Aau hs.ok Tryz.func20 blg8 rfl ((evlg8 _ _ c (c.rels.length + 1)).trans ?_)
 have t20 : decide ((c.rels.length : Int) > 20) = decide (20 < c.rels.length) := gtD c.rels.length 20
 rw [t20]
 unfold large8
 cases decide (20 < c.rels.length) with
 | true => rfl
 | false =>
  rw [cond_false]
  refine Eq.trans e ?_
  rw [List.drop_zero]
  cases c.rels.any Ahg <;> rfl
theorem clg9 (c : SCfg) (h : okCf c = true) : CX Tryz.prog 8 [aCfg c] [] (vB (AbX c)) [] := by
 have hs : OrcS Tryz.prog (oLg9 (okG eSt AcF) (fun x => large (theT eSt x)) (okG eCf okCf) fun x => large8 (theT eCf x).rels) :=
  .cons (.t' (enc := eSt) (c := AcF) (r := fun s => vB (large s)) fun s hs => c7 s hs) (.cons (.t' (enc := eCf) (c := okCf) (r := fun c => vB (large8 c.rels)) fun c hc => clg8 c hc) .nil)
 refine Aau hs.ok Tryz.func8 (by kernel_rfl) rfl ((evLg9 _ _ _ _ c).trans ?_)
 have k1 : okG eSt AcF [AV.agg (List.map C.d (staC c.sta))] = true := Aam AcJ (c := AcF) c.sta (Afh h).1
 have k2 : theT eSt [AV.agg (List.map C.d (staC c.sta))] = c.sta := Aah AcJ c.sta
 have k3 : okG eCf okCf [AV.agg (List.map C.d (cfgC c))] = true := Aam AbV (c := okCf) c h
 have k4 : theT eCf [AV.agg (List.map C.d (cfgC c))] = c := Aah AbV c
 rw [k1, k2, k3, k4]
 unfold AbX
 cases large c.sta <;> rfl
theorem bz {a : Bool} {k x : Int} (h : (bif !a then k else x) = 0) (hk : k ≠ 0) : a = true ∧ x = 0 := by
 cases a
 ·exact absurd h hk
 ·exact ⟨rfl, h⟩
theorem bz' {k x : Int} (h : (bif k != 0 then k else x) = 0) : k = 0 ∧ x = 0 := by
 cases e : (k != 0) with
 | true => rw [e] at h; have h : k = 0 := h; rw [h] at e; cases e
 | false => rw [e] at h; exact ⟨by simpa using e, h⟩
theorem chk_all (bays : List SBay) : ∀ (l : List SRel) (N : List ByteArray) (B : List Int) (i : Nat), (Abi bays N B i l).2 = 0 → ∀ k, k < l.length → ∃ N B, Abz bays N B (l.getD k rel0) = 0
 | [], _, _, _, _, k, hk => by simp at hk
 | r :: t, N, B, i, h, k, hk => by
  simp only [Abi] at h
  cases e : (Abz bays N B r != 0) with
  | true =>
   rw [e] at h
   simp only [cond_true] at h
   rw [h] at e
   cases e
  | false =>
   rw [e] at h
   simp only [cond_false] at h
   cases k with
   | zero => exact ⟨N, B, by simpa using e⟩
   | succ k => exact chk_all bays t _ _ _ h k (by simpa using hk)
theorem kind_of {bays : List SBay} {B : List Int} {r : SRel} (h : AaK bays B r = 0) : 1 ≤ r.kind ∧ r.kind ≤ 4 := by
 unfold AaK at h
 cases e1 : (r.kind == 1) with
 | true => have := eq_of_beq e1; omega
 | false =>
  cases e2 : (r.kind == 2) with
  | true => have := eq_of_beq e2; omega
  | false =>
   cases e3 : (r.kind == 3) with
   | true => have := eq_of_beq e3; omega
   | false =>
    cases e4 : (r.kind == 4) with
    | true => have := eq_of_beq e4; omega
    | false => rw [e1, e2, e3, e4] at h; exact absurd h (show ¬ (10 : Int) = 0 by decide)
theorem rel_fit {bays : List SBay} {N : List ByteArray} {B : List Int} {r : SRel} (h : Abz bays N B r = 0) : fitR r = true ∧ Uq r ∧ r.pubs.length ≤ 8 := by
 unfold Abz at h
 obtain ⟨_, h⟩ := bz h (by decide)
 cases e : inB N r.name with
 | true => rw [e] at h; exact absurd h (show ¬ (8 : Int) = 0 by decide)
 | false =>
  rw [e, cond_false] at h
  obtain ⟨hp, h⟩ := bz' h
  obtain ⟨k1, k4⟩ := kind_of hp
  unfold AeM at h
  obtain ⟨_, h⟩ := bz h (by decide)
  obtain ⟨_, h⟩ := bz h (by decide)
  obtain ⟨_, h⟩ := bz h (by decide)
  obtain ⟨_, h⟩ := bz h (by decide)
  obtain ⟨_, h⟩ := bz h (by decide)
  obtain ⟨_, h⟩ := bz h (by decide)
  obtain ⟨hc, h⟩ := bz h (by decide)
  unfold AdB at h
  obtain ⟨_, h⟩ := bz' h
  obtain ⟨hs, h⟩ := bz' h
  obtain ⟨hpu, _⟩ := bz' h
  unfold AaQ at hc
  simp only [Bool.and_eq_true, decide_eq_true_eq, Bool.not_eq_true'] at hc
  obtain ⟨c1, c2, c3, c4, c5⟩ := hc
  refine ⟨?_, ⟨(Adt hs).1, (Adt hpu).1⟩, by omega⟩
  unfold fitR
  have hsg : (r.sets.all fun x => decide (x.sigs.length ≤ 1000)) = true := by
   rw [List.all_eq_true]
   intro x hx
   rw [List.any_eq_false] at c5
   have := c5 x hx
   unfold AdM at this
   simp only [Bool.not_eq_true', Bool.not_eq_false, Bool.and_eq_true, decide_eq_true_eq] at this
   exact decide_eq_true (by omega)
  rw [decide_eq_true k1, decide_eq_true k4, decide_eq_true (show r.rules.length ≤ 1000 by omega), decide_eq_true (show r.sets.length ≤ 1000 by omega), decide_eq_true (show r.pubs.length ≤ 1000 by omega), decide_eq_true (show r.subs.length ≤ 1000 by omega), hsg]
  rfl
noncomputable def AcP (c : SCfg) : Int := bif AbQ c.sta != 0 then AbQ c.sta else bif (Abi c.sta.bays (AaG c.sta) [] 0 c.rels).2 != 0 then (Abi c.sta.bays (AaG c.sta) [] 0 c.rels).2 else (AbR c.rels 0 c.rels).2
theorem fit_all {c : SCfg} (h : okCf c = true) (hL : AbX c = false) (h0 : (Abi c.sta.bays (AaG c.sta) [] 0 c.rels).2 = 0) : fitC c.rels = true ∧ (∀ r ∈ c.rels, Uq r) ∧ c.rels.length ≤ 20 ∧ ∀ r ∈ c.rels, r.pubs.length ≤ 8 := by
 unfold AbX large8 at hL
 simp only [Bool.or_eq_false_iff, decide_eq_false_iff_not] at hL
 have hl : c.rels.length ≤ 20 := by have := hL.2.1; omega
 have key : ∀ r ∈ c.rels, fitR r = true ∧ Uq r ∧ r.pubs.length ≤ 8 := fun r hr => by
  obtain ⟨k, hk, rfl⟩ := List.getElem_of_mem hr
  obtain ⟨N, B, e⟩ := chk_all _ _ _ _ _ h0 k hk
  have e1 : c.rels.getD k rel0 = c.rels[k] := by simp [List.getD, hk]
  rw [e1] at e
  exact rel_fit e
 refine ⟨?_, fun r hr => (key r hr).2.1, hl, fun r hr => (key r hr).2.2⟩
 unfold fitC
 rw [decide_eq_true (show c.rels.length ≤ 1000 by omega), (Afh h).2.2, List.all_eq_true.2 fun r hr => (key r hr).1]
 rfl
theorem tab_ok {c : SCfg} (h : okCf c = true) (hL : AbX c = false) (h0 : AcP c = 0) : OkC c := by
 unfold AcP at h0
 obtain ⟨_, h0⟩ := bz' h0
 obtain ⟨h1, h2⟩ := bz' h0
 obtain ⟨a, b, d, e⟩ := fit_all h hL h1
 exact ⟨a, h2, b, d, e⟩
def eSR (a : SSta × List SRel) : List AV := [aSta a.1, .c (.d (AbF a.2))]
theorem eSR_inj : InjT eSR := fun a b h => Prod.ext (AgH _ _ (Aaj h).1) (Aax (sz := 53) (d0 := rel0) Afd _ _ (AfC (Aaj (Aaj h).2).1))
def cSR (a : SSta × List SRel) : Bool := AcF a.1 && (Aaq a.2 && a.2.all Abk)
noncomputable def ZTc : KTc where
 okS := okG eSt AcF
 chk x := AbQ (theT eSt x)
 okT := okG eSR cSR
 se x := AhA (theT eSR x).1 (theT eSR x).2
 okg := okG eCf fun c => fitC c.rels
 sg x := AbR (theT eCf x).rels 0 (theT eCf x).rels
theorem zTc {c : SCfg} (h : okCf c = true) : ZTc.okS [AV.agg (List.map C.d (staC c.sta))] = true ∧ ZTc.chk [AV.agg (List.map C.d (staC c.sta))] = AbQ c.sta ∧ ZTc.okT [AV.agg (List.map C.d (staC c.sta)), AV.c (C.d (Aab 53 relC rel0 c.rels))] = true ∧
  ZTc.se [AV.agg (List.map C.d (staC c.sta)), AV.c (C.d (Aab 53 relC rel0 c.rels))] = AhA c.sta c.rels ∧ (fitC c.rels = true → ZTc.okg [AV.agg (List.map C.d (cfgC c))] = true) ∧ ZTc.sg [AV.agg (List.map C.d (cfgC c))] = AbR c.rels 0 c.rels := by
 obtain ⟨h1, h2, h3⟩ := Afh h
 have t1 : theT eSt [AV.agg (List.map C.d (staC c.sta))] = c.sta := Aah AcJ c.sta
 have t2 : theT eSR [AV.agg (List.map C.d (staC c.sta)), AV.c (C.d (Aab 53 relC rel0 c.rels))] = (c.sta, c.rels) := Aah eSR_inj (c.sta, c.rels)
 have t3 : theT eCf [AV.agg (List.map C.d (cfgC c))] = c := Aah AbV c
 refine ⟨Aam AcJ (c := AcF) c.sta h1, ?_, Aam eSR_inj (c := cSR) (c.sta, c.rels) (by unfold cSR; simp only [Bool.and_eq_true]; exact ⟨h1, h2, h3⟩), ?_, fun hf => Aam AbV (c := fun c => fitC c.rels) c hf, ?_⟩
 ·dsimp only [ZTc]; rw [t1]
 ·dsimp only [ZTc]; rw [t2]
 ·dsimp only [ZTc]; rw [t3]
theorem sTc : OrcS Tryz.prog (oTc ZTc) :=
 .cons (.t' (enc := eSt) (c := AcF) (r := fun s => vI (AbQ s)) fun s hs => c12 s (Ada hs).2.2.2.2) (.cons (.t' (enc := eSR) (c := cSR) (r := fun a => vQ (AhA a.1 a.2)) fun a ha => by
  unfold cSR at ha
  simp only [Bool.and_eq_true] at ha
  exact c13c a.1 a.2 ha.1 ha.2.1 ha.2.2) (.cons (.t' (enc := eCf) (c := fun c => fitC c.rels) (r := fun c => vQ (AbR c.rels 0 c.rels)) fun c hc => cSck c hc) .nil))
theorem tab_fin (Z : KTc) (c : SCfg) {R : Option (T (AV × Hp))} (h1 : Z.okS [AV.agg (List.map C.d (staC c.sta))] = true) (h2 : Z.chk [AV.agg (List.map C.d (staC c.sta))] = AbQ c.sta) (h3 : Z.okT [AV.agg (List.map C.d (staC c.sta)), AV.c (C.d (Aab 53 relC rel0 c.rels))] = true)
  (h4 : AbQ c.sta = 0 → Z.se [AV.agg (List.map C.d (staC c.sta)), AV.c (C.d (Aab 53 relC rel0 c.rels))] = Abi c.sta.bays (AaG c.sta) [] 0 c.rels) (h5 : (Abi c.sta.bays (AaG c.sta) [] 0 c.rels).2 = 0 → Z.okg [AV.agg (List.map C.d (cfgC c))] = true) (h6 : Z.sg [AV.agg (List.map C.d (cfgC c))] = AbR c.rels 0 c.rels)
  (hR : R = (bif Z.okS [AV.agg (List.map C.d (staC c.sta))] then (bif Z.chk [AV.agg (List.map C.d (staC c.sta))] != 0 then some (T.leaf (AV.c (C.d (D.v (Value.int IntKind.i64 (Z.chk [AV.agg (List.map C.d (staC c.sta))])))), [])) else (bif Z.okT [AV.agg (List.map C.d (staC c.sta)), AV.c (C.d (Aab 53 relC rel0 c.rels))] then
    (bif (Z.se [AV.agg (List.map C.d (staC c.sta)), AV.c (C.d (Aab 53 relC rel0 c.rels))]).2 != 0 then some (T.leaf (AV.c (C.d (D.v (Value.int IntKind.i64 (Z.se [AV.agg (List.map C.d (staC c.sta)), AV.c (C.d (Aab 53 relC rel0 c.rels))]).2))), [])) else
      (bif Z.okg [AV.agg (List.map C.d (cfgC c))] then some (T.leaf (AV.c (C.d (D.v (Value.int IntKind.i64 (Z.sg [AV.agg (List.map C.d (cfgC c))]).2))), [])) else none)) else none)) else none)) : R = some (.leaf (vI (AcP c), [])) := by
 rw [hR, h1, h2, h3, h6]
 unfold AcP
 cases hz : (AbQ c.sta != 0) with
 | true => rfl
 | false =>
  rw [h4 (by simpa using hz)]
  cases hy : ((Abi c.sta.bays (AaG c.sta) [] 0 c.rels).2 != 0) with
  | true => rfl
  | false =>
   rw [h5 (by simpa using hy)]
   rfl
theorem cTab (c : SCfg) (h : okCf c = true) (hL : AbX c = false) : CX Tryz.prog 13 [aCfg c] [] (vI (AcP c)) [] := by
 obtain ⟨z1, z2, z3, z4, z5, z6⟩ := zTc h
 refine Aau sTc.ok Tryz.func13 (by kernel_rfl) rfl (tab_fin ZTc c z1 z2 z3 (fun h0 => ?_) (fun h0 => z5 (fit_all h hL h0).1) z6 (evTc ZTc c))
 rw [z4]
 unfold AhA
 rw [h0]
 rfl
def cSR' (a : SSta × List SRel) : Bool := cSz a.1 && (Aaq a.2 && a.2.all Abk)
noncomputable def ZRt : KTc where
 okS := okG eSt AcF
 chk x := AbQ (theT eSt x)
 okT := okG eSR cSR'
 se x := Abi (theT eSR x).1.bays (AaG (theT eSR x).1) [] 0 (theT eSR x).2
 okg := okG eCf fun c => fitC c.rels
 sg x := AbR (theT eCf x).rels 0 (theT eCf x).rels
theorem sRt : OrcS Tryz.prog (oRt ZRt) :=
 .cons (.t' (enc := eSt) (c := AcF) (r := fun s => vI (AbQ s)) fun s hs => c8 s (Ada hs).2.2.2.2) (.cons (.t' (enc := eSR) (c := cSR') (r := fun a => vQ (Abi a.1.bays (AaG a.1) [] 0 a.2)) fun a ha => by
  unfold cSR' at ha
  simp only [Bool.and_eq_true] at ha
  exact cCk a.1 a.2 ha.1 ha.2.1 ha.2.2) (.cons (.t' (enc := eCf) (c := fun c => fitC c.rels) (r := fun c => vQ (AbR c.rels 0 c.rels)) fun c hc => cRck c hc) .nil))
theorem cRtb (c : SCfg) (h : okCf c = true) (hL : AbX c = false) : CX Tryz.prog 12 [aCfg c] [] (vI (AcP c)) [] := by
 obtain ⟨h1, h2, h3⟩ := Afh h
 have t1 : theT eSt [AV.agg (List.map C.d (staC c.sta))] = c.sta := Aah AcJ c.sta
 have t2 : theT eSR [AV.agg (List.map C.d (staC c.sta)), AV.c (C.d (Aab 53 relC rel0 c.rels))] = (c.sta, c.rels) := Aah eSR_inj (c.sta, c.rels)
 have t3 : theT eCf [AV.agg (List.map C.d (cfgC c))] = c := Aah AbV c
 have hz : cSz c.sta = true := by
  unfold AbX large at hL
  simp only [Bool.or_eq_false_iff, decide_eq_false_iff_not] at hL
  unfold cSz
  simp only [Bool.and_eq_true, decide_eq_true_eq]
  omega
 refine Aau sRt.ok Tryz.func12 (by kernel_rfl) rfl (tab_fin ZRt c (Aam AcJ (c := AcF) c.sta h1) ?_ (Aam eSR_inj (c := cSR') (c.sta, c.rels) (by unfold cSR'; simp only [Bool.and_eq_true]; exact ⟨hz, h2, h3⟩)) (fun _ => ?_) (fun h0 => Aam AbV (c := fun c => fitC c.rels) c (fit_all h hL h0).1) ?_ (evRt ZRt c))
 ·dsimp only [ZRt]; rw [t1]
 ·dsimp only [ZRt]; rw [t2]
 ·dsimp only [ZRt]; rw [t3]
end Go.Proofs.YtbpndheehcbldaaGreatDoor.tb
namespace Go.Eb
open Go.RowKit
section
variable {β β' : Bt} {w : World} {I : Im} {H : Hp}
end
end Go.Eb
namespace Go.Eb
open Go.RowKit
def ansId : (R : Type) → List AV → Hp → (AV → Hp → Option (T R)) → Option (T R) := fun _ args H k => match args with
 | [x] => k x H
 | _ => none
theorem ansId_ok {P : Program} {f0 : FuncId} {fn : Func} (hf : P.funcs[f0]? = some fn) (hname : (fn.name == "runtime.NumGoroutine") = false) (hb : fn.body.isNone = true) (hn : Extern.findNext fn = none) (he : Extern.find fn = some Extern.AbiNoEscape.same) :
  ∀ (R : Type) args H (k : AV → Hp → Option (T R)) t, ansId R args H k = some t → ∃ x H', k x H' = some t ∧ CX P f0 args H x H' := fun R args H k t h => by
 unfold ansId at h
 split at h
 ·rename_i x
  refine ⟨_, _, h, ?_⟩
  unfold CX
  rw [hf]
  simp only [hb, if_true]
  intro β I w vs hr ha
  obtain ⟨v, rfl⟩ : ∃ v, vs = #[v] := by
   have := ha.1
   simp at this
   match vs, this with
   | ⟨[v]⟩, _ => exact ⟨v, rfl⟩
  refine ⟨v, w, β, I, ?_, hr, ha.2 0 x v rfl rfl, .refl _ _ _, .refl _⟩
  rw [run_callFunc_extern hf hname hb hn he, Lib.run_noEscape]
  rfl
 ·simp at h
end Go.Eb
namespace Go.Eb
open Go.RowKit
noncomputable def AdZ (P : Program) (ann : FuncId → Ann) (sel fz : FuncId → Bool) (pre : Orc) (fuel : Nat) : Nat → Orc
 | 0 => pre
 | n + 1 => fun _ f args H k => bif sel f then pre _ f args H k else (match P.funcs[f]? with
  | some fn => (match fn.body with
   | some c => bif seqN 0 H then (match AcO P (AdZ P ann sel fz pre fuel n) (ann f) fuel fn c args H (fun x H' => some (.leaf (x, H'))) with
    | some t => (match join 40 t with
     | some (x, H') => bif fz f && H.isEmpty then (match frzA H' x with
      | some y => k y []
      | none => none) else k x H'
     | none => none)
    | none => none) else none
   | none => pre _ f args H k)
  | none => none)
theorem Abm (P : Program) (ann : FuncId → Ann) (sel fz : FuncId → Bool) {pre : Orc} (ht : Acg P pre) (fuel : Nat) : ∀ n, Acg P (AdZ P ann sel fz pre fuel n)
 | 0 => ht
 | n + 1 => fun R f args H k t h => by
  simp only [AdZ] at h
  cases hsel : sel f with
  | true => rw [hsel] at h; exact ht R f args H k t h
  | false =>
   rw [hsel] at h
   simp only [cond_false] at h
   split at h
   ·rename_i fn hf
    split at h
    ·rename_i c hb
     cases hs : seqN 0 H with
     | false => rw [hs] at h; cases h
     | true =>
      rw [hs] at h
      simp only [cond_true] at h
      split at h
      ·rename_i t' ht'
       rw [callQ_eq] at ht'
       split at h
       ·rename_i x H' hj
        have hcr := callE_ok (Abm P ann sel fz ht fuel n) hf hb hs ht' (join_ok hj)
        cases hz : (fz f && H.isEmpty) with
        | false => rw [hz] at h; exact ⟨x, H', h, .of_cr hf hb hcr⟩
        | true =>
         rw [hz] at h
         simp only [cond_true] at h
         simp only [Bool.and_eq_true, List.isEmpty_iff] at hz
         obtain ⟨_, rfl⟩ := hz
         split at h
         ·rename_i y hy
          exact ⟨y, [], h, .of_cr hf hb (hcr.data hy)⟩
         ·cases h
       ·simp at h
      ·simp at h
    ·exact ht R f args H k t h
   ·simp at h
def frzQ (t : Option (T (AV × Hp))) : Option AV := match t with
 | some (.leaf p) => frzA p.2 p.1
 | _ => none
theorem cxD_of {P : Program} {orc : Orc} (ho : Acg P orc) {ann : Ann} {n : Nat} {f : FuncId} {fn : Func} {c : Code} {args : List AV} {y : AV} (hf : P.funcs[f]? = some fn) (hb : fn.body = some c)
  (h : frzQ (AcO P orc ann n fn c args [] (fun x H' => some (.leaf (x, H')))) = some y) : CX P f args [] y [] := by
 cases ht : AcO P orc ann n fn c args [] (fun x H' => some (T.leaf (x, H'))) with
 | none => rw [ht] at h; cases h
 | some t =>
  rw [ht] at h
  cases t with
  | node a b => cases h
  | leaf p =>
   obtain ⟨x, H'⟩ := p
   have h : frzA H' x = some y := h
   exact .of_cr hf hb (((cxQ_of ho hf hb rfl ht).cr hf hb).data h)
mutual
def eqDt : Nat → D → D → Bool
 | 0, _, _ => false
 | _ + 1, .v a, .v b => beqV a b
 | _ + 1, .v a, .sl _ n _ => isNil a && Nat.beq n 0
 | k + 1, .sl sz n f, .sl sz' m g => Nat.beq sz sz' && Nat.beq n m && Aev (fun i => eqDs k (f i) (g i)) n
 | _ + 1, .sl _ _ _, .v _ => false
def eqDs : Nat → List D → List D → Bool
 | 0, _, _ => false
 | _ + 1, [], [] => true
 | k + 1, x :: a, y :: b => eqDt k x y && eqDs k a b
 | _ + 1, _, _ => false
end
mutual
theorem eqDt_ok : ∀ (k : Nat) (x y : D), eqDt k x y = true → DE x y
 | 0, x, y, h => by simp [eqDt] at h
 | k + 1, .v a, .v b, h => by simp only [eqDt] at h; rw [AhG h]; exact .v b
 | k + 1, .v a, .sl sz n f, h => by
  simp only [eqDt, Bool.and_eq_true] at h
  have e := Nat.eq_of_beq_eq_true h.2
  subst e
  rw [isNil_ok h.1]
  exact .nil _ _
 | k + 1, .sl sz n f, .sl sz' m g, h => by
  simp only [eqDt, Bool.and_eq_true] at h
  have e1 := Nat.eq_of_beq_eq_true h.1.1
  have e2 := Nat.eq_of_beq_eq_true h.1.2
  subst e1 e2
  exact .sls fun i hi => eqDs_ok k _ _ (Adz h.2 i hi)
 | k + 1, .sl _ _ _, .v _, h => by simp [eqDt] at h
theorem eqDs_ok : ∀ (k : Nat) (a b : List D), eqDs k a b = true → DEs a b
 | 0, a, b, h => by simp [eqDs] at h
 | _ + 1, [], [], _ => ⟨rfl, fun j d e h => by simp at h⟩
 | k + 1, x :: a, y :: b, h => by
  simp only [eqDs, Bool.and_eq_true] at h
  have h1 := eqDt_ok k x y h.1
  have h2 := eqDs_ok k a b h.2
  refine ⟨by simp [h2.1], fun j d e hd he => ?_⟩
  cases j with
  | zero => simp at hd he; subst hd he; exact h1
  | succ j => exact h2.2 j d e (by simpa using hd) (by simpa using he)
 | k + 1, [], _ :: _, h => by simp [eqDs] at h
 | k + 1, _ :: _, [], h => by simp [eqDs] at h
end
def eqC : C → C → Bool
 | .d x, .d y => eqDt 400 x y
 | _, _ => false
theorem eqC_ok {x y : C} (h : eqC x y = true) : Cle x y := by
 unfold eqC at h
 split at h
 ·exact eqDt_ok 400 _ _ h
 ·cases h
def eqA : AV → AV → Bool
 | .c x, .c y => eqC x y
 | .agg a, .agg b => beqL eqC a b
 | .tup a, .tup b => beqL (fun p q => (p.1 == q.1) && beqL eqC p.2 q.2) a b
 | _, _ => false
theorem eqA_ok {x y : AV} (h : eqA x y = true) : Ale x y := by
 unfold eqA at h
 split at h
 ·exact eqC_ok h
 ·exact AcV (fun _ _ h => eqC_ok h) h
 ·exact AcV (q := fun p q => p.1 = q.1 ∧ Csle p.2 q.2) (fun p q h => by
   simp only [Bool.and_eq_true, beq_iff_eq] at h
   exact ⟨h.1, AcV (fun _ _ h => eqC_ok h) h.2⟩) h
 ·simp at h
def litQ (o : Option AV) (y : AV) : Bool := match o with
 | some x => eqA x y
 | none => false
theorem AcQ {P : Program} {orc : Orc} (ho : Acg P orc) {ann : Ann} {n : Nat} {f : FuncId} {fn : Func} {c : Code} {args : List AV} {y : AV} (hf : P.funcs[f]? = some fn) (hb : fn.body = some c)
  (h : litQ (frzQ (AcO P orc ann n fn c args [] (fun x H' => some (.leaf (x, H'))))) y = true) : CX P f args [] y [] := by
 cases ht : frzQ (AcO P orc ann n fn c args [] (fun x H' => some (T.leaf (x, H')))) with
 | none => rw [ht] at h; cases h
 | some x => rw [ht] at h; exact (cxD_of ho hf hb ht).le (eqA_ok h) (.refl _)
def isL (lit x : List AV) : Bool := beqL eqA x lit
theorem AnsS.lit {P : Program} {f : FuncId} {lit : List AV} {y : AV} (h : CX P f lit [] y []) : AnsS P f (ansG (isL lit) fun _ => y) := .g fun x hx => h.ge (AcV (fun _ _ h => eqA_ok h) hx) (.refl _)
def decF : Nat → Nat → ByteArray
 | 0, _ => e0
 | f + 1, n => bif Nat.blt n 10 then ⟨#[UInt8.ofNat (48 + n)]⟩ else decF f (n / 10) ++ ⟨#[UInt8.ofNat (48 + n % 10)]⟩
theorem decF_eq : ∀ (f n : Nat), n < 10 ^ f → 0 < f → decF f n = decB n
 | 0, _, _, h => by omega
 | f + 1, n, h, _ => by
  unfold decF
  by_cases hn : n < 10
  ·rw [show Nat.blt n 10 = true from by rw [Nat.blt_eq]; exact hn, cond_true, AaT hn]
  ·have hb : Nat.blt n 10 = false := by
    cases e : Nat.blt n 10 with
    | false => rfl
    | true => rw [Nat.blt_eq] at e; exact absurd e hn
   rw [hb, cond_false, Aea hn, AaT (Nat.mod_lt n (by omega))]
   cases f with
   | zero => omega
   | succ f => rw [decF_eq (f + 1) (n / 10) (by rw [Nat.pow_succ] at h; omega) (by omega)]
def itOk : List AV → Bool
 | [.c (.d (.v (.int .i64 n)))] => decide (0 ≤ n) && decide (n ≤ 1000000)
 | _ => false
def itA : List AV → AV
 | [.c (.d (.v (.int .i64 n)))] => vS (decF 8 n.toNat)
 | _ => .u
theorem it_ok {P : Program} {f : FuncId} (hI : ∀ n : Int, -1000000 ≤ n → n ≤ 1000000 → CX P f [vI n] [] (vS (decI n)) []) : AnsS P f (ansG itOk itA) := .g fun x h => by
 unfold itOk at h
 split at h
 ·rename_i n
  simp only [Bool.and_eq_true, decide_eq_true_eq] at h
  have := hI n (by omega) h.2
  have e : decI n = decF 8 n.toNat := by
   unfold decI
   rw [decide_eq_false (by omega), cond_false, decF_eq 8 n.toNat (by omega) (by omega)]
  rw [e] at this
  exact this
 ·cases h
def tx1 : List D → ByteArray
 | [.v (.string s)] => s
 | _ => e0
def txD : D → List ByteArray
 | .sl _ n f => (List.range n).map fun i => tx1 (f i)
 | _ => []
theorem AnsS.litL {P : Program} {f : FuncId} {fn : Func} {lit : List AV} {v : Value} (hf : P.funcs[f]? = some fn) (hb : fn.body = some (Aad fn)) (h : CX P f lit [] (.c (.d (.v v))) []) : AnsS P f (ansL (isL lit) fun _ => .c (.d (.v v))) := .l hf hb fun x hx => ⟨h.ge (AcV (fun _ _ h => eqA_ok h) hx) (.refl _), rfl⟩
theorem ansId_det : AnsDet ansId := fun args H => by
 match args with
 | [] => exact .no fun R k => rfl
 | [x] => exact .one x H fun R k => rfl
 | _ :: _ :: _ => exact .no fun R k => rfl
end Go.Eb
namespace Go.Proofs.YtbpndheehcbldaaGreatDoor.kn
open Go.RowKit Go.Eb
set_option maxRecDepth 100000
def clOk : List AV → Bool
 | [.c (.d (.sl sz n f))] => Nat.beq sz 1 && (Nat.ble 1 n && (Nat.ble n 1000000 && (List.range n).all fun i => match f i with
  | [.v (.string _)] => true
  | _ => false))
 | _ => false
def clA : List AV → List ByteArray
 | [.c (.d x)] => txD x
 | _ => []
def kText : ByteArray := ⟨#[115, 116, 97, 116, 105, 111, 110, 32, 83, 59, 32, 98, 117, 115, 32, 65, 59, 32, 115, 111, 117, 114, 99, 101, 32, 71, 32, 49, 48, 48, 48, 32, 49, 32, 49, 48, 32, 50, 32, 50, 48, 59, 32, 98, 97, 121, 32, 81, 32, 115, 111, 117, 114, 99, 101, 32, 71, 32, 123, 32, 99, 116, 32, 49, 59, 32, 118, 116, 32, 49, 59, 32, 116, 114, 97, 118, 101, 108, 32, 50, 59, 32, 115, 101, 108, 101, 99, 116, 32, 65, 32, 99, 108, 111, 115, 101, 100, 59, 32, 125, 32, 114, 101, 108, 97, 121, 32, 82, 32, 115, 111, 117, 114, 99, 101, 32, 81, 32, 123, 32, 100, 101, 102, 105, 110, 105, 116, 101, 32, 49, 48, 32, 50, 59, 32, 115, 101, 116, 32, 68, 32, 116, 114, 105, 112, 32, 116, 105, 109, 101, 59, 32, 112, 117, 98, 108, 105, 115, 104, 32, 68, 32, 49, 32, 52, 59, 32, 125]⟩
def kIt (ln : Int) (ws : List ByteArray) (b : Bool) (kids : List (List D)) : List D := [dI ln, .sl 2 ws.length (fun i => [dS (ws.getD i e0), dB false]), dB b, .sl 4 kids.length (fun i => kids.getD i [])]
def Afo : List (List D) := [kIt 1 [⟨#[115, 116, 97, 116, 105, 111, 110]⟩, ⟨#[83]⟩] false [], kIt 1 [⟨#[98, 117, 115]⟩, ⟨#[65]⟩] false [], kIt 1 [⟨#[115, 111, 117, 114, 99, 101]⟩, ⟨#[71]⟩, ⟨#[49, 48, 48, 48]⟩, ⟨#[49]⟩, ⟨#[49, 48]⟩, ⟨#[50]⟩, ⟨#[50, 48]⟩] false [], kIt 1 [⟨#[98, 97, 121]⟩, ⟨#[81]⟩, ⟨#[115, 111, 117, 114, 99, 101]⟩, ⟨#[71]⟩] true [kIt 1 [⟨#[99, 116]⟩, ⟨#[49]⟩] false [], kIt 1 [⟨#[118, 116]⟩, ⟨#[49]⟩] false [], kIt 1 [⟨#[116, 114, 97, 118, 101, 108]⟩, ⟨#[50]⟩] false [], kIt 1 [⟨#[115, 101, 108, 101, 99, 116]⟩, ⟨#[65]⟩, ⟨#[99, 108, 111, 115, 101, 100]⟩] false []], kIt 1 [⟨#[114, 101, 108, 97, 121]⟩, ⟨#[82]⟩, ⟨#[115, 111, 117, 114, 99, 101]⟩, ⟨#[81]⟩] true [kIt 1 [⟨#[100, 101, 102, 105, 110, 105, 116, 101]⟩, ⟨#[49, 48]⟩, ⟨#[50]⟩] false [], kIt 1 [⟨#[115, 101, 116]⟩, ⟨#[68]⟩, ⟨#[116, 114, 105, 112]⟩, ⟨#[116, 105, 109, 101]⟩] false [], kIt 1 [⟨#[112, 117, 98, 108, 105, 115, 104]⟩, ⟨#[68]⟩, ⟨#[49]⟩, ⟨#[52]⟩] false []]]
def kSta : SSta := ⟨⟨#[83]⟩, [⟨#[65]⟩], [], [⟨⟨#[71]⟩, 1000, 1, 10, 2, 20⟩], [⟨⟨#[81]⟩, 2, 0, 0, 0, 0, [⟨0, 1⟩], true, 1, 1, 0, 2⟩]⟩
def kRel : SRel := { rel0 with name := ⟨#[82]⟩, kind := 2, bay := 0, don := true, dpk := 10, ddl := 2, sets := [⟨⟨#[68]⟩, [⟨#[116, 114, 105, 112]⟩, ⟨#[116, 105, 109, 101]⟩]⟩], pubs := [⟨⟨#[68]⟩, 1, 4⟩] }
def kCfg : SCfg := ⟨kSta, [kRel]⟩
abbrev vLn (x : List D) (b : Bool) (l e : Int) : AV := .tup [(b, x.map .d), (false, [.d (dI l)]), (false, [.d (dI e)])]
abbrev vE2 (a e : Int) : AV := .tup [(false, [.d (dI a)]), (false, [.d (dI e)])]
def kPb : Pbl := ⟨0, 0, 1, 4, [0, 3]⟩
def kDv : Dev := ⟨outS kRel, [0], []⟩
def kIn (ln : Int) (ws : List ByteArray) (b : Bool) (kids : List (List D)) : List D := [dI ln, .sl 2 ws.length (fun i => [dS (ws.getD i e0), dB false]), dB b, bif kids.isEmpty then .v (.slice none 0 0) else .sl 4 kids.length (fun i => kids.getD i [])]
def kItD (l : List (List D)) : D := .sl 4 l.length (fun i => l.getD i [])
abbrev AdF (l : List (List D)) : AV := .c (.d (kItD l))
def preI (r : Orc) : Orc := Orc.cons 217 ansId <| Orc.cons 89 (ansG itOk itA) (Orc.cons 142 (ansN clOk (fun x => .c (.row 0 1 (clA x).length)) fun x => [(0, .row (clA x).length (fun i => busC ((clA x).getD i e0)) 1 9)]) r)
def selI (f : FuncId) : Bool := Nat.beq f 89 || Nat.beq f 142
def kEnS : List (List D) := [kIn 0 [⟨#[115, 116, 97, 116, 105, 111, 110]⟩, ⟨#[83]⟩] false [], kIn 0 [⟨#[98, 117, 115]⟩, ⟨#[65]⟩] false [], kIn 0 [⟨#[115, 111, 117, 114, 99, 101]⟩, ⟨#[71]⟩, ⟨#[49, 48, 48, 48]⟩, ⟨#[49]⟩, ⟨#[49, 48]⟩, ⟨#[50]⟩, ⟨#[50, 48]⟩] false [], kIn 0 [⟨#[98, 97, 121]⟩, ⟨#[81]⟩, ⟨#[115, 111, 117, 114, 99, 101]⟩, ⟨#[71]⟩] true [kIn 0 [⟨#[99, 116]⟩, ⟨#[49]⟩] false [], kIn 0 [⟨#[118, 116]⟩, ⟨#[49]⟩] false [], kIn 0 [⟨#[116, 114, 97, 118, 101, 108]⟩, ⟨#[50]⟩] false [], kIn 0 [⟨#[115, 101, 108, 101, 99, 116]⟩, ⟨#[65]⟩, ⟨#[99, 108, 111, 115, 101, 100]⟩] false []]]
def kEnR : List (List D) := [kIt 0 [⟨#[114, 101, 108, 97, 121]⟩, ⟨#[82]⟩, ⟨#[115, 111, 117, 114, 99, 101]⟩, ⟨#[81]⟩] true [kIt 0 [⟨#[100, 101, 102, 105, 110, 105, 116, 101]⟩, ⟨#[49, 48]⟩, ⟨#[50]⟩] false [], kIt 0 [⟨#[115, 101, 116]⟩, ⟨#[68]⟩, ⟨#[116, 114, 105, 112]⟩, ⟨#[116, 105, 109, 101]⟩] false [], kIt 0 [⟨#[112, 117, 98, 108, 105, 115, 104]⟩, ⟨#[68]⟩, ⟨#[49]⟩, ⟨#[52]⟩] false []]]
def kSave : ByteArray := ⟨#[115, 116, 97, 116, 105, 111, 110, 32, 83, 59, 10, 98, 117, 115, 32, 65, 59, 10, 115, 111, 117, 114, 99, 101, 32, 71, 32, 49, 48, 48, 48, 32, 49, 32, 49, 48, 32, 50, 32, 50, 48, 59, 10, 98, 97, 121, 32, 81, 32, 115, 111, 117, 114, 99, 101, 32, 71, 32, 123, 10, 32, 32, 99, 116, 32, 49, 59, 10, 32, 32, 118, 116, 32, 49, 59, 10, 32, 32, 116, 114, 97, 118, 101, 108, 32, 50, 59, 10, 32, 32, 115, 101, 108, 101, 99, 116, 32, 65, 32, 99, 108, 111, 115, 101, 100, 59, 10, 125, 10, 114, 101, 108, 97, 121, 32, 82, 32, 115, 111, 117, 114, 99, 101, 32, 81, 32, 123, 10, 32, 32, 100, 101, 102, 105, 110, 105, 116, 101, 32, 49, 48, 32, 50, 59, 10, 32, 32, 115, 101, 116, 32, 68, 32, 116, 114, 105, 112, 32, 116, 105, 109, 101, 59, 10, 32, 32, 112, 117, 98, 108, 105, 115, 104, 32, 68, 32, 49, 32, 52, 59, 10, 125, 10]⟩
noncomputable def anPs (r : Orc) : Orc := Orc.cons 41 (ansG (isL [vS kText]) fun _ => vLn [kItD Afo] false 0 0) r
noncomputable def anSd (r : Orc) : Orc := Orc.cons 42 (ansG (isL [AdF Afo]) fun _ => vLn (staC kSta) true 0 0) r
noncomputable def anRd (r : Orc) : Orc := Orc.cons 43 (ansG (isL [aSta kSta, AdF Afo]) fun _ => vLn [AbF [kRel]] false 0 0) r
noncomputable def anOu (r : Orc) : Orc := Orc.cons 45 (ansG (isL [aRel kRel]) fun _ => .c (.d (Aaa (outS kRel)))) r
noncomputable def anGg (r : Orc) : Orc := Orc.cons 33 (ansG (isL [aCfg kCfg]) fun _ => vE2 0 0) r
noncomputable def anLd (r : Orc) : Orc := Orc.cons 18 (ansG (isL [vS kText]) fun _ => vLn (cfgC kCfg) true 0 0) r
noncomputable def anSc (r : Orc) : Orc := Orc.cons 31 (ansG (isL [aSta kSta]) fun _ => vI 0) r
noncomputable def anTc (r : Orc) : Orc := Orc.cons 32 (ansG (isL [aSta kSta, .c (.d (AbF [kRel]))]) fun _ => vE2 0 0) r
noncomputable def anCk (r : Orc) : Orc := Orc.cons 13 (ansG (isL [aCfg kCfg]) fun _ => vI 0) r
noncomputable def anCp (r : Orc) : Orc := Orc.cons 9 (ansG (isL [aCfg kCfg]) fun _ => .tup [(true, [.d (pblsD [kPb]), .d (devsD [kDv])]), (false, [.d (dI 0)])]) r
noncomputable def anRe (r : Orc) : Orc := Orc.cons 36 (ansG (isL [aSta kSta, .c (.d (AbF [kRel]))]) fun _ => AdF kEnR) r
noncomputable def anFm (r : Orc) : Orc := Orc.cons 34 (ansL (isL [AdF (kEnS ++ kEnR)]) fun _ => vS kSave) r
noncomputable def anSv (r : Orc) : Orc := Orc.cons 14 (ansG (isL [aCfg kCfg]) fun _ => vS kSave) r
end Go.Proofs.YtbpndheehcbldaaGreatDoor.kn
namespace Go.Proofs.YtbpndheehcbldaaGreatDoor.kn
open Go.RowKit Go.Eb
set_option maxRecDepth 100000
set_option maxRecDepth 100000
theorem evPs : litQ (frzQ (AcO Tryz.prog (AdZ Tryz.prog (fun _ => na) (fun f => selI f) (fun f => Nat.beq f 182) (preI Orc.nil) 200 40) na 200 Tryz.f41 (Aad Tryz.f41) ([vS kText]) [] (fun x H' => some (.leaf (x, H'))))) (vLn [kItD Afo] false 0 0) = true := by kernel_rfl
end Go.Proofs.YtbpndheehcbldaaGreatDoor.kn
namespace Go.Proofs.YtbpndheehcbldaaGreatDoor.kn
open Go.RowKit Go.Eb
set_option maxRecDepth 100000
set_option maxRecDepth 100000
theorem evSd : litQ (frzQ (AcO Tryz.prog (AdZ Tryz.prog (fun _ => na) (fun f => selI f) (fun f => Nat.beq f 182) (preI Orc.nil) 200 40) na 200 Tryz.f42 (Aad Tryz.f42) ([AdF Afo]) [] (fun x H' => some (.leaf (x, H'))))) (vLn (staC kSta) true 0 0) = true := by kernel_rfl
end Go.Proofs.YtbpndheehcbldaaGreatDoor.kn
namespace Go.Proofs.YtbpndheehcbldaaGreatDoor.kn
open Go.RowKit Go.Eb
set_option maxRecDepth 100000
set_option maxRecDepth 100000
theorem evRd : litQ (frzQ (AcO Tryz.prog (AdZ Tryz.prog (fun _ => na) (fun f => selI f) (fun f => Nat.beq f 182) (preI Orc.nil) 200 40) na 200 Tryz.f43 (Aad Tryz.f43) ([aSta kSta, AdF Afo]) [] (fun x H' => some (.leaf (x, H'))))) (vLn [AbF [kRel]] false 0 0) = true := by kernel_rfl
end Go.Proofs.YtbpndheehcbldaaGreatDoor.kn
namespace Go.Proofs.YtbpndheehcbldaaGreatDoor.kn
open Go.RowKit Go.Eb
set_option maxRecDepth 100000
set_option maxRecDepth 100000
theorem evOu : litQ (frzQ (AcO Tryz.prog (AdZ Tryz.prog (fun _ => na) (fun f => selI f) (fun f => Nat.beq f 182) (preI Orc.nil) 200 40) na 200 Tryz.f45 (Aad Tryz.f45) ([aRel kRel]) [] (fun x H' => some (.leaf (x, H'))))) (.c (.d (Aaa (outS kRel)))) = true := by kernel_rfl
end Go.Proofs.YtbpndheehcbldaaGreatDoor.kn
namespace Go.Proofs.YtbpndheehcbldaaGreatDoor.kn
open Go.RowKit Go.Eb
set_option maxRecDepth 100000
set_option maxRecDepth 100000
theorem evGg : litQ (frzQ (AcO Tryz.prog (AdZ Tryz.prog (fun _ => na) (fun f => selI f || Nat.beq f 45) (fun f => Nat.beq f 182) (anOu (preI Orc.nil)) 200 40) na 200 Tryz.f33 (Aad Tryz.f33) ([aCfg kCfg]) [] (fun x H' => some (.leaf (x, H'))))) (vE2 0 0) = true := by kernel_rfl
end Go.Proofs.YtbpndheehcbldaaGreatDoor.kn
namespace Go.Proofs.YtbpndheehcbldaaGreatDoor.kn
open Go.RowKit Go.Eb
set_option maxRecDepth 100000
set_option maxRecDepth 100000
theorem evLd : litQ (frzQ (AcO Tryz.prog (AdZ Tryz.prog (fun _ => na) (fun f => selI f || Nat.beq f 41 || Nat.beq f 42 || Nat.beq f 43 || Nat.beq f 33) (fun f => Nat.beq f 182) (anGg (anRd (anSd (anPs (preI Orc.nil))))) 200 40) na 200 Tryz.f18 (Aad Tryz.f18) ([vS kText]) [] (fun x H' => some (.leaf (x, H'))))) (vLn (cfgC kCfg) true 0 0) = true := by kernel_rfl
end Go.Proofs.YtbpndheehcbldaaGreatDoor.kn
namespace Go.Proofs.YtbpndheehcbldaaGreatDoor.kn
open Go.RowKit Go.Eb
set_option maxRecDepth 100000
set_option maxRecDepth 100000
theorem evSc : litQ (frzQ (AcO Tryz.prog (AdZ Tryz.prog (fun _ => na) (fun f => selI f) (fun f => Nat.beq f 182) (preI Orc.nil) 200 40) na 200 Tryz.f31 (Aad Tryz.f31) ([aSta kSta]) [] (fun x H' => some (.leaf (x, H'))))) (vI 0) = true := by kernel_rfl
end Go.Proofs.YtbpndheehcbldaaGreatDoor.kn
namespace Go.Proofs.YtbpndheehcbldaaGreatDoor.kn
open Go.RowKit Go.Eb
set_option maxRecDepth 100000
set_option maxRecDepth 100000
theorem evTc : litQ (frzQ (AcO Tryz.prog (AdZ Tryz.prog (fun _ => na) (fun f => selI f || Nat.beq f 31) (fun f => Nat.beq f 182) (anSc (preI Orc.nil)) 200 40) na 200 Tryz.f32 (Aad Tryz.f32) ([aSta kSta, .c (.d (AbF [kRel]))]) [] (fun x H' => some (.leaf (x, H'))))) (vE2 0 0) = true := by kernel_rfl
end Go.Proofs.YtbpndheehcbldaaGreatDoor.kn
namespace Go.Proofs.YtbpndheehcbldaaGreatDoor.kn
open Go.RowKit Go.Eb
set_option maxRecDepth 100000
set_option maxRecDepth 100000
theorem evCk : litQ (frzQ (AcO Tryz.prog (AdZ Tryz.prog (fun _ => na) (fun f => selI f || Nat.beq f 31 || Nat.beq f 32 || Nat.beq f 33) (fun f => Nat.beq f 182) (anGg (anTc (anSc (preI Orc.nil)))) 200 40) na 200 Tryz.f13 (Aad Tryz.f13) ([aCfg kCfg]) [] (fun x H' => some (.leaf (x, H'))))) (vI 0) = true := by kernel_rfl
end Go.Proofs.YtbpndheehcbldaaGreatDoor.kn
namespace Go.Proofs.YtbpndheehcbldaaGreatDoor.kn
open Go.RowKit Go.Eb
set_option maxRecDepth 100000
set_option maxRecDepth 100000
theorem evCp : litQ (frzQ (AcO Tryz.prog (AdZ Tryz.prog (fun _ => na) (fun f => selI f || Nat.beq f 13 || Nat.beq f 45) (fun f => Nat.beq f 182) (anOu (anCk (preI Orc.nil))) 200 40) na 200 Tryz.f9 (Aad Tryz.f9) ([aCfg kCfg]) [] (fun x H' => some (.leaf (x, H'))))) (.tup [(true, [.d (pblsD [kPb]), .d (devsD [kDv])]), (false, [.d (dI 0)])]) = true := by kernel_rfl
end Go.Proofs.YtbpndheehcbldaaGreatDoor.kn
namespace Go.Proofs.YtbpndheehcbldaaGreatDoor.kn
open Go.RowKit Go.Eb
set_option maxRecDepth 100000
set_option maxRecDepth 100000
end Go.Proofs.YtbpndheehcbldaaGreatDoor.kn
namespace Go.Proofs.YtbpndheehcbldaaGreatDoor.kn
open Go.RowKit Go.Eb
set_option maxRecDepth 100000
set_option maxRecDepth 100000
theorem evRe : litQ (frzQ (AcO Tryz.prog (AdZ Tryz.prog (fun _ => na) (fun f => selI f || Nat.beq f 31 || Nat.beq f 32) (fun f => Nat.beq f 182) (anTc (anSc (preI Orc.nil))) 200 40) na 200 Tryz.f36 (Aad Tryz.f36) ([aSta kSta, .c (.d (AbF [kRel]))]) [] (fun x H' => some (.leaf (x, H'))))) (AdF kEnR) = true := by kernel_rfl
end Go.Proofs.YtbpndheehcbldaaGreatDoor.kn
namespace Go.Proofs.YtbpndheehcbldaaGreatDoor.kn
open Go.RowKit Go.Eb
set_option maxRecDepth 100000
set_option maxRecDepth 100000
theorem evFm : litQ (frzQ (AcO Tryz.prog (AdZ Tryz.prog (fun _ => na) (fun f => selI f) (fun f => Nat.beq f 182) (preI Orc.nil) 200 40) na 200 Tryz.f34 (Aad Tryz.f34) ([AdF (kEnS ++ kEnR)]) [] (fun x H' => some (.leaf (x, H'))))) (vS kSave) = true := by kernel_rfl
end Go.Proofs.YtbpndheehcbldaaGreatDoor.kn
namespace Go.Proofs.YtbpndheehcbldaaGreatDoor.kn
open Go.RowKit Go.Eb
set_option maxRecDepth 100000
set_option maxRecDepth 100000
theorem evSv : litQ (frzQ (AcO Tryz.prog (AdZ Tryz.prog (fun _ => na) (fun f => selI f || Nat.beq f 13 || Nat.beq f 31 || Nat.beq f 36 || Nat.beq f 34) (fun f => Nat.beq f 182) (anFm (anRe (anSc (anCk (preI Orc.nil))))) 200 40) na 200 Tryz.f14 (Aad Tryz.f14) ([aCfg kCfg]) [] (fun x H' => some (.leaf (x, H'))))) (vS kSave) = true := by kernel_rfl
end Go.Proofs.YtbpndheehcbldaaGreatDoor.kn
namespace Go.Proofs.YtbpndheehcbldaaGreatDoor.kn
open Go.RowKit Go.Eb
set_option maxRecDepth 100000
set_option maxRecDepth 100000
theorem evKn : litQ (frzQ (AcO Tryz.prog (AdZ Tryz.prog (fun _ => na) (fun f => selI f || Nat.beq f 18 || Nat.beq f 9 || Nat.beq f 14) (fun f => Nat.beq f 182) (anSv (anCp (anLd (preI Orc.nil)))) 200 40) na 200 Tryz.f7 (Aad Tryz.f7) ([]) [] (fun x H' => some (.leaf (x, H'))))) (vB true) = true := by kernel_rfl
end Go.Proofs.YtbpndheehcbldaaGreatDoor.kn
namespace Go.Proofs.YtbpndheehcbldaaGreatDoor.kn
open Go.RowKit Go.Eb
set_option maxRecDepth 100000
set_option maxRecDepth 100000
theorem clA_ok (x : List AV) (h : clOk x = true) : CX Tryz.prog 142 x [] (.c (.row 0 1 (clA x).length)) [(0, .row (clA x).length (fun i => busC ((clA x).getD i e0)) 1 9)] := by
 unfold clOk at h
 split at h
 ·rename_i sz n f
  simp only [Bool.and_eq_true, List.all_eq_true, List.mem_range, Nat.ble_eq] at h
  obtain ⟨h0, h1, h2, h3⟩ := h
  have h0 := Nat.eq_of_beq_eq_true h0
  subst h0
  have hl : (clA [.c (.d (.sl 1 n f))]).length = n := by simp [clA, txD]
  have hd : DE (.sl 1 n f) (Aaa (clA [.c (.d (.sl 1 n f))])) := by
   have : ∀ i, i < n → DEs (f i) (busC ((clA [.c (.d (.sl 1 n f))]).getD i e0)) := fun i hi => by
    have := h3 i hi
    have e : (clA [.c (.d (.sl 1 n f))]).getD i e0 = tx1 (f i) := by
     simp [clA, txD, List.getD, hi]
    rw [e]
    split at this
    ·rename_i s hs
     rw [hs]; exact .refl _
    ·cases this
   have g := DE.sls (sz := 1) this
   have e2 : Aaa (clA [.c (.d (.sl 1 n f))]) = .sl 1 n fun i => busC ((clA [.c (.d (.sl 1 n f))]).getD i e0) := by
    unfold Aaa Aab
    rw [hl]
   rw [e2]; exact g
  have := cln.cClone (clA [.c (.d (.sl 1 n f))]) (fun e => by rw [e] at hl; simp at hl; omega) (by rw [hl]; exact h2)
  exact this.ge (.cons (show DE _ _ from hd) .nil) (.refl _)
 ·cases h
theorem AbT {r : Orc} (h : OrcS Tryz.prog r) : OrcS Tryz.prog (preI r) := .cons ⟨ansId_ok (fn := Tryz.f217) Tryz.func217 (by kernel_rfl) (by kernel_rfl) (by kernel_rfl) (by kernel_rfl), ansId_det⟩ <| .cons (it_ok ito.cItoa) (.cons (.n clA_ok) h)
theorem cxPs : CX Tryz.prog 41 ([vS kText]) [] (vLn [kItD Afo] false 0 0) [] := AcQ (Abm Tryz.prog _ _ _ (OrcS.ok (AbT .nil)) 200 40) Tryz.func41 (by kernel_rfl) evPs
theorem cxSd : CX Tryz.prog 42 ([AdF Afo]) [] (vLn (staC kSta) true 0 0) [] := AcQ (Abm Tryz.prog _ _ _ (OrcS.ok (AbT .nil)) 200 40) Tryz.func42 (by kernel_rfl) evSd
theorem cxRd : CX Tryz.prog 43 ([aSta kSta, AdF Afo]) [] (vLn [AbF [kRel]] false 0 0) [] := AcQ (Abm Tryz.prog _ _ _ (OrcS.ok (AbT .nil)) 200 40) Tryz.func43 (by kernel_rfl) evRd
theorem cxOu : CX Tryz.prog 45 ([aRel kRel]) [] (.c (.d (Aaa (outS kRel)))) [] := AcQ (Abm Tryz.prog _ _ _ (OrcS.ok (AbT .nil)) 200 40) Tryz.func45 (by kernel_rfl) evOu
theorem cxGg : CX Tryz.prog 33 ([aCfg kCfg]) [] (vE2 0 0) [] := AcQ (Abm Tryz.prog _ _ _ (OrcS.ok (.cons (.lit cxOu) (AbT .nil))) 200 40) Tryz.func33 (by kernel_rfl) evGg
theorem cxLd : CX Tryz.prog 18 ([vS kText]) [] (vLn (cfgC kCfg) true 0 0) [] := AcQ (Abm Tryz.prog _ _ _ (OrcS.ok (.cons (.lit cxGg) (.cons (.lit cxRd) (.cons (.lit cxSd) (.cons (.lit cxPs) (AbT .nil)))))) 200 40) Tryz.func18 (by kernel_rfl) evLd
theorem cxSc : CX Tryz.prog 31 ([aSta kSta]) [] (vI 0) [] := AcQ (Abm Tryz.prog _ _ _ (OrcS.ok (AbT .nil)) 200 40) Tryz.func31 (by kernel_rfl) evSc
theorem cxTc : CX Tryz.prog 32 ([aSta kSta, .c (.d (AbF [kRel]))]) [] (vE2 0 0) [] := AcQ (Abm Tryz.prog _ _ _ (OrcS.ok (.cons (.lit cxSc) (AbT .nil))) 200 40) Tryz.func32 (by kernel_rfl) evTc
theorem cxCk : CX Tryz.prog 13 ([aCfg kCfg]) [] (vI 0) [] := AcQ (Abm Tryz.prog _ _ _ (OrcS.ok (.cons (.lit cxGg) (.cons (.lit cxTc) (.cons (.lit cxSc) (AbT .nil))))) 200 40) Tryz.func13 (by kernel_rfl) evCk
theorem cxCp : CX Tryz.prog 9 ([aCfg kCfg]) [] (.tup [(true, [.d (pblsD [kPb]), .d (devsD [kDv])]), (false, [.d (dI 0)])]) [] := AcQ (Abm Tryz.prog _ _ _ (OrcS.ok (.cons (.lit cxOu) (.cons (.lit cxCk) (AbT .nil)))) 200 40) Tryz.func9 (by kernel_rfl) evCp
theorem cxRe : CX Tryz.prog 36 ([aSta kSta, .c (.d (AbF [kRel]))]) [] (AdF kEnR) [] := AcQ (Abm Tryz.prog _ _ _ (OrcS.ok (.cons (.lit cxTc) (.cons (.lit cxSc) (AbT .nil)))) 200 40) Tryz.func36 (by kernel_rfl) evRe
theorem cxFm : CX Tryz.prog 34 ([AdF (kEnS ++ kEnR)]) [] (vS kSave) [] := AcQ (Abm Tryz.prog _ _ _ (OrcS.ok (AbT .nil)) 200 40) Tryz.func34 (by kernel_rfl) evFm
theorem cxSv : CX Tryz.prog 14 ([aCfg kCfg]) [] (vS kSave) [] := AcQ (Abm Tryz.prog _ _ _ (OrcS.ok (.cons (.litL Tryz.func34 (by kernel_rfl) cxFm) (.cons (.lit cxRe) (.cons (.lit cxSc) (.cons (.lit cxCk) (AbT .nil)))))) 200 40) Tryz.func14 (by kernel_rfl) evSv
theorem cxKn : CX Tryz.prog 7 ([]) [] (vB true) [] := AcQ (Abm Tryz.prog _ _ _ (OrcS.ok (.cons (.lit cxSv) (.cons (.lit cxCp) (.cons (.lit cxLd) (AbT .nil))))) 200 40) Tryz.func7 (by kernel_rfl) evKn
theorem c9k (_ : Unit) : CX Tryz.prog 7 [] [] (vB true) [] := cxKn
end Go.Proofs.YtbpndheehcbldaaGreatDoor.kn
