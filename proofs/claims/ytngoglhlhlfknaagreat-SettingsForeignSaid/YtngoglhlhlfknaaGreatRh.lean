/-
  Check of settings: what it computes. No condition.
-/
import Derived.Test.YtngoglhlhlfknaaGreatZTm
import Derived.Test.YtngoglhlhlfknaaGreatRf
namespace Go.Proofs.YtngoglhlhlfknaaGreat.se
open Go.RowKit Go.Eb Go.Proofs.YtngoglhlhlfknaaGreat.st
set_option maxRecDepth 100000

structure K13 where
  okS : List AV → Bool
  chk : List AV → Int
  okn : List AV → Hp → Bool
  n0 : List (Value × Value)
  oka : List AV → Hp → Bool
  ad : List AV → Hp → Int
  an : List AV → Hp → List (Value × Value)
  ab : List AV → Hp → List (Value × Value)
noncomputable def o13c (Z : K13) (s : SSta) : Orc := Orc.cons 26 (ansG Z.okS fun x => vI (Z.chk x)) (Orc.cons 28 (ansM Z.okn (fun _ _ => .c (.ptr 0 0)) fun _ _ => HC s Z.n0 []) (Orc.cons 32 (ansM Z.oka (fun x H => vI (Z.ad x H)) fun x H => HC s (Z.an x H) (Z.ab x H)) Orc.nil))
noncomputable def ann13c : Ann := annOf [(5, ⟨[6, 15, 16, 17], []⟩)]
noncomputable def L13c_5 (Z : K13) (s : SSta) (l : List SRel) (g m : Nat) (l1 : List (Value × Value)) (l2 : List (Value × Value)) (i17 : Int) := LK Tryz.prog (o13c Z s) ann13c (List.length (α := Nat × Blk) []) g Tryz.f13 5 m ⟨frm [(6, AV.c (C.ptr 0 0)), (15, AV.c (C.d (listD 53 relC rel0 l))), (16, AV.c (C.d (D.v (Value.int IntKind.i64 (↑(List.length l) : Int))))), (17, AV.c (C.d (D.v (Value.int IntKind.i64 i17))))] 0 Tryz.f13.ntmps, [(0, Blk.cells [C.d (D.v (Value.string (SSta.name s))), C.d (listD 1 busC e0 (SSta.buses s)), C.d (listD 5 lineC line0 (SSta.lines s)), C.d (listD 6 srcC' src0 (SSta.srcs s)), C.d (listD 12 bayC bay0 (SSta.bays s)), C.mp 1, C.mp 2] 140), (1, Blk.map 0 l1), (2, Blk.map 2 l2)], 3⟩
theorem b13c : Tryz.f13.body = some (bodyOf Tryz.f13) := by kernel_rfl
set_option maxRecDepth 100000 in
theorem ev13c (Z : K13) (s : SSta) (l : List SRel) (g : Nat) : callC Tryz.prog (o13c Z s) ann13c g Tryz.f13 (bodyOf Tryz.f13) [aSta s, .c (.d (relsD l))] [] =
 (bif K13.okS Z [AV.agg (List.map C.d (staC s))] then (bif K13.chk Z [AV.agg (List.map C.d (staC s))] != (0 : Int) then some (T.leaf (AV.tup [(false, [C.d (D.v (Value.int IntKind.i64
 (0 : Int)))]), (false, [C.d (D.v (Value.int IntKind.i64 (1 : Int)))])], [])) else (bif K13.okn Z [AV.agg (List.map C.d (staC s))] [] then L13c_5 Z s l g g (K13.n0 Z) ([]) ((0 :
 Int)) else none)) else none) := by kernel_rfl
set_option maxRecDepth 100000 in
theorem st13c_5 (Z : K13) (s : SSta) (l : List SRel) (g m : Nat) (l1 : List (Value × Value)) (l2 : List (Value × Value)) (i17 : Int) : L13c_5 Z s l g (m + 1) l1 l2 i17 =
 (bif decide (i17 < (↑(List.length l) : Int)) then (bif decide ((0 : Int) ≤ i17) && decide (i17 < (↑(List.length l) : Int)) then (bif K13.oka Z [AV.c (C.ptr ((0 : Nat)) ((0 : Nat))),
 AV.agg (List.map C.d (relC (List.getD l (Int.toNat i17) rel0)))] [((0 : Nat), Blk.cells [C.d (D.v (Value.string (SSta.name s))), C.d (listD ((1 : Nat)) busC e0 (SSta.buses s)), C.d
 (listD ((5 : Nat)) lineC line0 (SSta.lines s)), C.d (listD ((6 : Nat)) srcC' src0 (SSta.srcs s)), C.d (listD ((12 : Nat)) bayC bay0 (SSta.bays s)), C.mp ((1 : Nat)), C.mp ((2 :
 Nat))] ((140 : Nat))), ((1 : Nat), Blk.map ((0 : Nat)) l1), ((2 : Nat), Blk.map ((2 : Nat)) l2)] then (bif K13.ad Z [AV.c (C.ptr ((0 : Nat)) ((0 : Nat))), AV.agg (List.map C.d (relC
 (List.getD l (Int.toNat i17) rel0)))] [((0 : Nat), Blk.cells [C.d (D.v (Value.string (SSta.name s))), C.d (listD ((1 : Nat)) busC e0 (SSta.buses s)), C.d (listD ((5 : Nat)) lineC
 line0 (SSta.lines s)), C.d (listD ((6 : Nat)) srcC' src0 (SSta.srcs s)), C.d (listD ((12 : Nat)) bayC bay0 (SSta.bays s)), C.mp ((1 : Nat)), C.mp ((2 : Nat))] ((140 : Nat))), ((1 :
 Nat), Blk.map ((0 : Nat)) l1), ((2 : Nat), Blk.map ((2 : Nat)) l2)] != (0 : Int) then some (T.leaf (AV.tup [(false, [C.d (D.v (Value.int IntKind.i64 i17))]), (false, [C.d (D.v
 (Value.int IntKind.i64 (K13.ad Z [AV.c (C.ptr ((0 : Nat)) ((0 : Nat))), AV.agg (List.map C.d (relC (List.getD l (Int.toNat i17) rel0)))] [((0 : Nat), Blk.cells [C.d (D.v
 (Value.string (SSta.name s))), C.d (listD ((1 : Nat)) busC e0 (SSta.buses s)), C.d (listD ((5 : Nat)) lineC line0 (SSta.lines s)), C.d (listD ((6 : Nat)) srcC' src0 (SSta.srcs s)),
 C.d (listD ((12 : Nat)) bayC bay0 (SSta.bays s)), C.mp ((1 : Nat)), C.mp ((2 : Nat))] ((140 : Nat))), ((1 : Nat), Blk.map ((0 : Nat)) l1), ((2 : Nat), Blk.map ((2 : Nat))
 l2)])))])], [])) else L13c_5 Z s l g m (K13.an Z [AV.c (C.ptr ((0 : Nat)) ((0 : Nat))), AV.agg (List.map C.d (relC (List.getD l (Int.toNat i17) rel0)))] [((0 : Nat), Blk.cells [C.d
 (D.v (Value.string (SSta.name s))), C.d (listD ((1 : Nat)) busC e0 (SSta.buses s)), C.d (listD ((5 : Nat)) lineC line0 (SSta.lines s)), C.d (listD ((6 : Nat)) srcC' src0 (SSta.srcs
 s)), C.d (listD ((12 : Nat)) bayC bay0 (SSta.bays s)), C.mp ((1 : Nat)), C.mp ((2 : Nat))] ((140 : Nat))), ((1 : Nat), Blk.map ((0 : Nat)) l1), ((2 : Nat), Blk.map ((2 : Nat)) l2)])
 (K13.ab Z [AV.c (C.ptr ((0 : Nat)) ((0 : Nat))), AV.agg (List.map C.d (relC (List.getD l (Int.toNat i17) rel0)))] [((0 : Nat), Blk.cells [C.d (D.v (Value.string (SSta.name s))), C.d
 (listD ((1 : Nat)) busC e0 (SSta.buses s)), C.d (listD ((5 : Nat)) lineC line0 (SSta.lines s)), C.d (listD ((6 : Nat)) srcC' src0 (SSta.srcs s)), C.d (listD ((12 : Nat)) bayC bay0
 (SSta.bays s)), C.mp ((1 : Nat)), C.mp ((2 : Nat))] ((140 : Nat))), ((1 : Nat), Blk.map ((0 : Nat)) l1), ((2 : Nat), Blk.map ((2 : Nat)) l2)]) (IntKind.wrap IntKind.i64 (i17 + (1 :
 Int)))) else none) else none) else some (T.leaf (AV.tup [(false, [C.d (D.v (Value.int IntKind.i64 (0 : Int)))]), (false, [C.d (D.v (Value.int IntKind.i64 (0 : Int)))])], []))) := by kernel_rfl
end Go.Proofs.YtngoglhlhlfknaaGreat.se
