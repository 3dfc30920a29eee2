/-
  Check of settings: the checker: what it computes. No condition.
-/
import Derived.Test.YtngoglhlhlfknaaGreatRe
import Derived.Test.YtngoglhlhlfknaaGreatSh
namespace Go.Proofs.YtngoglhlhlfknaaGreat.se
open Go.RowKit Go.Eb Go.Proofs.YtngoglhlhlfknaaGreat.st
set_option maxRecDepth 100000

noncomputable def ann28 : Ann := annOf [(3, ⟨[3, 18, 1, 19, 20], []⟩), (8, ⟨[3, 31, 1, 32, 33], []⟩), (13, ⟨[3, 45, 1, 46, 47], []⟩), (18, ⟨[3, 59, 60, 61], []⟩)]
noncomputable def L28_3 (s : SSta) (g m : Nat) (l2 : List (Value × Value)) (l3 : List (Value × Value)) (i20 : Int) := LK Tryz.prog Orc.nil ann28 (List.length (α := Nat × Blk) []) g Tryz.f28 3 m ⟨frm [(1, AV.c (C.ptr 0 0)), (3, AV.c (C.ptr 1 0)), (18, AV.c (C.d (listD 1 busC e0 (SSta.buses s)))), (19, AV.c (C.d (D.v (Value.int IntKind.i64 (↑(List.length (SSta.buses s)) : Int))))), (20, AV.c (C.d (D.v (Value.int IntKind.i64 i20))))] 0 Tryz.f28.ntmps, [(0, Blk.cells (List.map C.d (staC s)) 27), (1, Blk.cells [C.d (D.v (Value.string (SSta.name s))), C.d (listD 1 busC e0 (SSta.buses s)), C.d (listD 5 lineC line0 (SSta.lines s)), C.d (listD 6 srcC' src0 (SSta.srcs s)), C.d (listD 12 bayC bay0 (SSta.bays s)), C.mp 2, C.mp 3] 140), (2, Blk.map 0 l2), (3, Blk.map 2 l3)], 4⟩
noncomputable def L28_8 (s : SSta) (g m : Nat) (l2 : List (Value × Value)) (l3 : List (Value × Value)) (i33 : Int) := LK Tryz.prog Orc.nil ann28 (List.length (α := Nat × Blk) []) g Tryz.f28 8 m ⟨frm [(1, AV.c (C.ptr 0 0)), (3, AV.c (C.ptr 1 0)), (31, AV.c (C.d (listD 5 lineC line0 (SSta.lines s)))), (32, AV.c (C.d (D.v (Value.int IntKind.i64 (↑(List.length (SSta.lines s)) : Int))))), (33, AV.c (C.d (D.v (Value.int IntKind.i64 i33))))] 0 Tryz.f28.ntmps, [(0, Blk.cells (List.map C.d (staC s)) 27), (1, Blk.cells [C.d (D.v (Value.string (SSta.name s))), C.d (listD 1 busC e0 (SSta.buses s)), C.d (listD 5 lineC line0 (SSta.lines s)), C.d (listD 6 srcC' src0 (SSta.srcs s)), C.d (listD 12 bayC bay0 (SSta.bays s)), C.mp 2, C.mp 3] 140), (2, Blk.map 0 l2), (3, Blk.map 2 l3)], 4⟩
noncomputable def L28_13 (s : SSta) (g m : Nat) (l2 : List (Value × Value)) (l3 : List (Value × Value)) (i47 : Int) := LK Tryz.prog Orc.nil ann28 (List.length (α := Nat × Blk) []) g Tryz.f28 13 m ⟨frm [(1, AV.c (C.ptr 0 0)), (3, AV.c (C.ptr 1 0)), (45, AV.c (C.d (listD 6 srcC' src0 (SSta.srcs s)))), (46, AV.c (C.d (D.v (Value.int IntKind.i64 (↑(List.length (SSta.srcs s)) : Int))))), (47, AV.c (C.d (D.v (Value.int IntKind.i64 i47))))] 0 Tryz.f28.ntmps, [(0, Blk.cells (List.map C.d (staC s)) 27), (1, Blk.cells [C.d (D.v (Value.string (SSta.name s))), C.d (listD 1 busC e0 (SSta.buses s)), C.d (listD 5 lineC line0 (SSta.lines s)), C.d (listD 6 srcC' src0 (SSta.srcs s)), C.d (listD 12 bayC bay0 (SSta.bays s)), C.mp 2, C.mp 3] 140), (2, Blk.map 0 l2), (3, Blk.map 2 l3)], 4⟩
noncomputable def L28_18 (s : SSta) (g m : Nat) (l1 : List (Value × Value)) (l2 : List (Value × Value)) (i61 : Int) := LK Tryz.prog Orc.nil ann28 (List.length (α := Nat × Blk) []) g Tryz.f28 18 m ⟨frm [(3, AV.c (C.ptr 0 0)), (59, AV.c (C.d (listD 12 bayC bay0 (SSta.bays s)))), (60, AV.c (C.d (D.v (Value.int IntKind.i64 (↑(List.length (SSta.bays s)) : Int))))), (61, AV.c (C.d (D.v (Value.int IntKind.i64 i61))))] 0 Tryz.f28.ntmps, [(0, Blk.cells [C.d (D.v (Value.string (SSta.name s))), C.d (listD 1 busC e0 (SSta.buses s)), C.d (listD 5 lineC line0 (SSta.lines s)), C.d (listD 6 srcC' src0 (SSta.srcs s)), C.d (listD 12 bayC bay0 (SSta.bays s)), C.mp 1, C.mp 2] 140), (1, Blk.map 0 l1), (2, Blk.map 2 l2)], 3⟩
theorem b28 : Tryz.f28.body = some (bodyOf Tryz.f28) := by kernel_rfl
set_option maxRecDepth 100000 in
theorem ev28 (s : SSta) (g : Nat) : callC Tryz.prog Orc.nil ann28 g Tryz.f28 (bodyOf Tryz.f28) [aSta s] [] =
 L28_3 s g g ([]) ([]) ((0 : Int)) := by kernel_rfl
set_option maxRecDepth 100000 in
theorem st28_3 (s : SSta) (g m : Nat) (l2 : List (Value × Value)) (l3 : List (Value × Value)) (i20 : Int) : L28_3 s g (m + 1) l2 l3 i20 =
 (bif decide (i20 < (↑(List.length (SSta.buses s)) : Int)) then (bif decide ((0 : Int) ≤ i20) && decide (i20 < (↑(List.length (SSta.buses s)) : Int)) then L28_3 s g m ((Value.string
 (List.getD (SSta.buses s) (Int.toNat i20) e0), Value.bool true) :: l2) l3 (IntKind.wrap IntKind.i64 (i20 + (1 : Int))) else none) else L28_8 s g g l2 l3 ((0 : Int))) := by kernel_rfl
set_option maxRecDepth 100000 in
theorem st28_8 (s : SSta) (g m : Nat) (l2 : List (Value × Value)) (l3 : List (Value × Value)) (i33 : Int) : L28_8 s g (m + 1) l2 l3 i33 =
 (bif decide (i33 < (↑(List.length (SSta.lines s)) : Int)) then (bif decide ((0 : Int) ≤ i33) && decide (i33 < (↑(List.length (SSta.lines s)) : Int)) then L28_8 s g m ((Value.string
 (SLine.name (List.getD (SSta.lines s) (Int.toNat i33) line0)), Value.bool true) :: l2) l3 (IntKind.wrap IntKind.i64 (i33 + (1 : Int))) else none) else L28_13 s g g l2 l3 ((0 :
 Int))) := by kernel_rfl
set_option maxRecDepth 100000 in
theorem st28_13 (s : SSta) (g m : Nat) (l2 : List (Value × Value)) (l3 : List (Value × Value)) (i47 : Int) : L28_13 s g (m + 1) l2 l3 i47 =
 (bif decide (i47 < (↑(List.length (SSta.srcs s)) : Int)) then (bif decide ((0 : Int) ≤ i47) && decide (i47 < (↑(List.length (SSta.srcs s)) : Int)) then L28_13 s g m ((Value.string
 (SSrc.name (List.getD (SSta.srcs s) (Int.toNat i47) src0)), Value.bool true) :: l2) l3 (IntKind.wrap IntKind.i64 (i47 + (1 : Int))) else none) else L28_18 s g g l2 l3 ((0 : Int))) := by kernel_rfl
set_option maxRecDepth 100000 in
theorem st28_18 (s : SSta) (g m : Nat) (l1 : List (Value × Value)) (l2 : List (Value × Value)) (i61 : Int) : L28_18 s g (m + 1) l1 l2 i61 =
 (bif decide (i61 < (↑(List.length (SSta.bays s)) : Int)) then (bif decide ((0 : Int) ≤ i61) && decide (i61 < (↑(List.length (SSta.bays s)) : Int)) then L28_18 s g m ((Value.string
 (SBay.name (List.getD (SSta.bays s) (Int.toNat i61) bay0)), Value.bool true) :: l1) l2 (IntKind.wrap IntKind.i64 (i61 + (1 : Int))) else none) else some (T.leaf (AV.c (C.ptr ((0 :
 Nat)) ((0 : Nat))), [((0 : Nat), Blk.cells [C.d (D.v (Value.string (SSta.name s))), C.d (listD ((1 : Nat)) busC e0 (SSta.buses s)), C.d (listD ((5 : Nat)) lineC line0 (SSta.lines
 s)), C.d (listD ((6 : Nat)) srcC' src0 (SSta.srcs s)), C.d (listD ((12 : Nat)) bayC bay0 (SSta.bays s)), C.mp ((1 : Nat)), C.mp ((2 : Nat))] ((140 : Nat))), ((1 : Nat), Blk.map ((0
 : Nat)) l1), ((2 : Nat), Blk.map ((2 : Nat)) l2)]))) := by kernel_rfl
def HC (s : SSta) (N B : List (Value × Value)) : Hp := [(0, .cells ((staC s).map .d ++ [.mp 1, .mp 2]) 140), (1, .map 0 N), (2, .map 2 B)]
noncomputable def ann77 : Ann := annOf []
theorem b77 : Tryz.f77.body = some (bodyOf Tryz.f77) := by kernel_rfl
set_option maxRecDepth 100000 in
theorem ev77 (s : SSta) (N B : List (Value × Value)) (r : SRel) (g : Nat) : callC Tryz.prog (Orc.cons 108 (inl Tryz.prog Orc.nil na 1 Tryz.f108) Orc.nil) ann77 g Tryz.f77 (bodyOf Tryz.f77) [.c (.ptr 0 0), aRel r] (HC s N B) =
 (bif SRel.kind r == (1 : Int) then (bif decide (SRel.bay r ≥ (0 : Int)) then (bif !decide (SRel.bay r ≤ IntKind.wrap IntKind.i64 ((↑(List.length (SSta.bays s)) : Int) - (1 : Int)))
 then some (T.leaf (AV.c (C.d (D.v (Value.int IntKind.i64 (9 : Int)))), [((0 : Nat), Blk.cells [C.d (D.v (Value.string (SSta.name s))), C.d (listD ((1 : Nat)) busC e0 (SSta.buses
 s)), C.d (listD ((5 : Nat)) lineC line0 (SSta.lines s)), C.d (listD ((6 : Nat)) srcC' src0 (SSta.srcs s)), C.d (listD ((12 : Nat)) bayC bay0 (SSta.bays s)), C.mp ((1 : Nat)), C.mp
 ((2 : Nat))] ((140 : Nat))), ((1 : Nat), Blk.map ((0 : Nat)) N), ((2 : Nat), Blk.map ((2 : Nat)) B)])) else (bif decide ((0 : Int) ≤ SRel.bay r) && decide (SRel.bay r <
 (↑(List.length (SSta.bays s)) : Int)) then (bif SBay.kind (List.getD (SSta.bays s) (Int.toNat (SRel.bay r)) bay0) != (1 : Int) then some (T.leaf (AV.c (C.d (D.v (Value.int
 IntKind.i64 (9 : Int)))), [((0 : Nat), Blk.cells [C.d (D.v (Value.string (SSta.name s))), C.d (listD ((1 : Nat)) busC e0 (SSta.buses s)), C.d (listD ((5 : Nat)) lineC line0
 (SSta.lines s)), C.d (listD ((6 : Nat)) srcC' src0 (SSta.srcs s)), C.d (listD ((12 : Nat)) bayC bay0 (SSta.bays s)), C.mp ((1 : Nat)), C.mp ((2 : Nat))] ((140 : Nat))), ((1 : Nat),
 Blk.map ((0 : Nat)) N), ((2 : Nat), Blk.map ((2 : Nat)) B)])) else (bif boolOf (assoc B (Value.int IntKind.i64 (SRel.bay r))) then some (T.leaf (AV.c (C.d (D.v (Value.int
 IntKind.i64 (12 : Int)))), [((0 : Nat), Blk.cells [C.d (D.v (Value.string (SSta.name s))), C.d (listD ((1 : Nat)) busC e0 (SSta.buses s)), C.d (listD ((5 : Nat)) lineC line0
 (SSta.lines s)), C.d (listD ((6 : Nat)) srcC' src0 (SSta.srcs s)), C.d (listD ((12 : Nat)) bayC bay0 (SSta.bays s)), C.mp ((1 : Nat)), C.mp ((2 : Nat))] ((140 : Nat))), ((1 : Nat),
 Blk.map ((0 : Nat)) N), ((2 : Nat), Blk.map ((2 : Nat)) B)])) else some (T.leaf (AV.c (C.d (D.v (Value.int IntKind.i64 (0 : Int)))), [((0 : Nat), Blk.cells [C.d (D.v (Value.string
 (SSta.name s))), C.d (listD ((1 : Nat)) busC e0 (SSta.buses s)), C.d (listD ((5 : Nat)) lineC line0 (SSta.lines s)), C.d (listD ((6 : Nat)) srcC' src0 (SSta.srcs s)), C.d (listD
 ((12 : Nat)) bayC bay0 (SSta.bays s)), C.mp ((1 : Nat)), C.mp ((2 : Nat))] ((140 : Nat))), ((1 : Nat), Blk.map ((0 : Nat)) N), ((2 : Nat), Blk.map ((2 : Nat)) B)])))) else none))
 else some (T.leaf (AV.c (C.d (D.v (Value.int IntKind.i64 (9 : Int)))), [((0 : Nat), Blk.cells [C.d (D.v (Value.string (SSta.name s))), C.d (listD ((1 : Nat)) busC e0 (SSta.buses
 s)), C.d (listD ((5 : Nat)) lineC line0 (SSta.lines s)), C.d (listD ((6 : Nat)) srcC' src0 (SSta.srcs s)), C.d (listD ((12 : Nat)) bayC bay0 (SSta.bays s)), C.mp ((1 : Nat)), C.mp
 ((2 : Nat))] ((140 : Nat))), ((1 : Nat), Blk.map ((0 : Nat)) N), ((2 : Nat), Blk.map ((2 : Nat)) B)]))) else (bif SRel.kind r == (2 : Int) then (bif decide (SRel.bay r ≥ (0 : Int))
 then (bif !decide (SRel.bay r ≤ IntKind.wrap IntKind.i64 ((↑(List.length (SSta.bays s)) : Int) - (1 : Int))) then some (T.leaf (AV.c (C.d (D.v (Value.int IntKind.i64 (9 : Int)))),
 [((0 : Nat), Blk.cells [C.d (D.v (Value.string (SSta.name s))), C.d (listD ((1 : Nat)) busC e0 (SSta.buses s)), C.d (listD ((5 : Nat)) lineC line0 (SSta.lines s)), C.d (listD ((6 :
 Nat)) srcC' src0 (SSta.srcs s)), C.d (listD ((12 : Nat)) bayC bay0 (SSta.bays s)), C.mp ((1 : Nat)), C.mp ((2 : Nat))] ((140 : Nat))), ((1 : Nat), Blk.map ((0 : Nat)) N), ((2 :
 Nat), Blk.map ((2 : Nat)) B)])) else (bif decide ((0 : Int) ≤ SRel.bay r) && decide (SRel.bay r < (↑(List.length (SSta.bays s)) : Int)) then (bif SBay.kind (List.getD (SSta.bays s)
 (Int.toNat (SRel.bay r)) bay0) != (2 : Int) then some (T.leaf (AV.c (C.d (D.v (Value.int IntKind.i64 (9 : Int)))), [((0 : Nat), Blk.cells [C.d (D.v (Value.string (SSta.name s))),
 C.d (listD ((1 : Nat)) busC e0 (SSta.buses s)), C.d (listD ((5 : Nat)) lineC line0 (SSta.lines s)), C.d (listD ((6 : Nat)) srcC' src0 (SSta.srcs s)), C.d (listD ((12 : Nat)) bayC
 bay0 (SSta.bays s)), C.mp ((1 : Nat)), C.mp ((2 : Nat))] ((140 : Nat))), ((1 : Nat), Blk.map ((0 : Nat)) N), ((2 : Nat), Blk.map ((2 : Nat)) B)])) else (bif boolOf (assoc B
 (Value.int IntKind.i64 (SRel.bay r))) then some (T.leaf (AV.c (C.d (D.v (Value.int IntKind.i64 (12 : Int)))), [((0 : Nat), Blk.cells [C.d (D.v (Value.string (SSta.name s))), C.d
 (listD ((1 : Nat)) busC e0 (SSta.buses s)), C.d (listD ((5 : Nat)) lineC line0 (SSta.lines s)), C.d (listD ((6 : Nat)) srcC' src0 (SSta.srcs s)), C.d (listD ((12 : Nat)) bayC bay0
 (SSta.bays s)), C.mp ((1 : Nat)), C.mp ((2 : Nat))] ((140 : Nat))), ((1 : Nat), Blk.map ((0 : Nat)) N), ((2 : Nat), Blk.map ((2 : Nat)) B)])) else some (T.leaf (AV.c (C.d (D.v
 (Value.int IntKind.i64 (0 : Int)))), [((0 : Nat), Blk.cells [C.d (D.v (Value.string (SSta.name s))), C.d (listD ((1 : Nat)) busC e0 (SSta.buses s)), C.d (listD ((5 : Nat)) lineC
 line0 (SSta.lines s)), C.d (listD ((6 : Nat)) srcC' src0 (SSta.srcs s)), C.d (listD ((12 : Nat)) bayC bay0 (SSta.bays s)), C.mp ((1 : Nat)), C.mp ((2 : Nat))] ((140 : Nat))), ((1 :
 Nat), Blk.map ((0 : Nat)) N), ((2 : Nat), Blk.map ((2 : Nat)) B)])))) else none)) else some (T.leaf (AV.c (C.d (D.v (Value.int IntKind.i64 (9 : Int)))), [((0 : Nat), Blk.cells [C.d
 (D.v (Value.string (SSta.name s))), C.d (listD ((1 : Nat)) busC e0 (SSta.buses s)), C.d (listD ((5 : Nat)) lineC line0 (SSta.lines s)), C.d (listD ((6 : Nat)) srcC' src0 (SSta.srcs
 s)), C.d (listD ((12 : Nat)) bayC bay0 (SSta.bays s)), C.mp ((1 : Nat)), C.mp ((2 : Nat))] ((140 : Nat))), ((1 : Nat), Blk.map ((0 : Nat)) N), ((2 : Nat), Blk.map ((2 : Nat)) B)])))
 else (bif SRel.kind r == (3 : Int) then (bif decide (SRel.bay r ≥ (0 : Int)) then (bif !decide (SRel.bay r ≤ IntKind.wrap IntKind.i64 ((↑(List.length (SSta.bays s)) : Int) - (1 :
 Int))) then some (T.leaf (AV.c (C.d (D.v (Value.int IntKind.i64 (9 : Int)))), [((0 : Nat), Blk.cells [C.d (D.v (Value.string (SSta.name s))), C.d (listD ((1 : Nat)) busC e0
 (SSta.buses s)), C.d (listD ((5 : Nat)) lineC line0 (SSta.lines s)), C.d (listD ((6 : Nat)) srcC' src0 (SSta.srcs s)), C.d (listD ((12 : Nat)) bayC bay0 (SSta.bays s)), C.mp ((1 :
 Nat)), C.mp ((2 : Nat))] ((140 : Nat))), ((1 : Nat), Blk.map ((0 : Nat)) N), ((2 : Nat), Blk.map ((2 : Nat)) B)])) else (bif decide ((0 : Int) ≤ SRel.bay r) && decide (SRel.bay r <
 (↑(List.length (SSta.bays s)) : Int)) then (bif SBay.kind (List.getD (SSta.bays s) (Int.toNat (SRel.bay r)) bay0) != (3 : Int) then some (T.leaf (AV.c (C.d (D.v (Value.int
 IntKind.i64 (9 : Int)))), [((0 : Nat), Blk.cells [C.d (D.v (Value.string (SSta.name s))), C.d (listD ((1 : Nat)) busC e0 (SSta.buses s)), C.d (listD ((5 : Nat)) lineC line0
 (SSta.lines s)), C.d (listD ((6 : Nat)) srcC' src0 (SSta.srcs s)), C.d (listD ((12 : Nat)) bayC bay0 (SSta.bays s)), C.mp ((1 : Nat)), C.mp ((2 : Nat))] ((140 : Nat))), ((1 : Nat),
 Blk.map ((0 : Nat)) N), ((2 : Nat), Blk.map ((2 : Nat)) B)])) else (bif boolOf (assoc B (Value.int IntKind.i64 (SRel.bay r))) then some (T.leaf (AV.c (C.d (D.v (Value.int
 IntKind.i64 (12 : Int)))), [((0 : Nat), Blk.cells [C.d (D.v (Value.string (SSta.name s))), C.d (listD ((1 : Nat)) busC e0 (SSta.buses s)), C.d (listD ((5 : Nat)) lineC line0
 (SSta.lines s)), C.d (listD ((6 : Nat)) srcC' src0 (SSta.srcs s)), C.d (listD ((12 : Nat)) bayC bay0 (SSta.bays s)), C.mp ((1 : Nat)), C.mp ((2 : Nat))] ((140 : Nat))), ((1 : Nat),
 Blk.map ((0 : Nat)) N), ((2 : Nat), Blk.map ((2 : Nat)) B)])) else some (T.leaf (AV.c (C.d (D.v (Value.int IntKind.i64 (0 : Int)))), [((0 : Nat), Blk.cells [C.d (D.v (Value.string
 (SSta.name s))), C.d (listD ((1 : Nat)) busC e0 (SSta.buses s)), C.d (listD ((5 : Nat)) lineC line0 (SSta.lines s)), C.d (listD ((6 : Nat)) srcC' src0 (SSta.srcs s)), C.d (listD
 ((12 : Nat)) bayC bay0 (SSta.bays s)), C.mp ((1 : Nat)), C.mp ((2 : Nat))] ((140 : Nat))), ((1 : Nat), Blk.map ((0 : Nat)) N), ((2 : Nat), Blk.map ((2 : Nat)) B)])))) else none))
 else some (T.leaf (AV.c (C.d (D.v (Value.int IntKind.i64 (9 : Int)))), [((0 : Nat), Blk.cells [C.d (D.v (Value.string (SSta.name s))), C.d (listD ((1 : Nat)) busC e0 (SSta.buses
 s)), C.d (listD ((5 : Nat)) lineC line0 (SSta.lines s)), C.d (listD ((6 : Nat)) srcC' src0 (SSta.srcs s)), C.d (listD ((12 : Nat)) bayC bay0 (SSta.bays s)), C.mp ((1 : Nat)), C.mp
 ((2 : Nat))] ((140 : Nat))), ((1 : Nat), Blk.map ((0 : Nat)) N), ((2 : Nat), Blk.map ((2 : Nat)) B)]))) else (bif SRel.kind r == (4 : Int) then (bif SRel.bay r != (-1 : Int) then
 some (T.leaf (AV.c (C.d (D.v (Value.int IntKind.i64 (9 : Int)))), [((0 : Nat), Blk.cells [C.d (D.v (Value.string (SSta.name s))), C.d (listD ((1 : Nat)) busC e0 (SSta.buses s)), C.d
 (listD ((5 : Nat)) lineC line0 (SSta.lines s)), C.d (listD ((6 : Nat)) srcC' src0 (SSta.srcs s)), C.d (listD ((12 : Nat)) bayC bay0 (SSta.bays s)), C.mp ((1 : Nat)), C.mp ((2 :
 Nat))] ((140 : Nat))), ((1 : Nat), Blk.map ((0 : Nat)) N), ((2 : Nat), Blk.map ((2 : Nat)) B)])) else (bif boolOf (assoc B (Value.int IntKind.i64 (SRel.bay r))) then some (T.leaf
 (AV.c (C.d (D.v (Value.int IntKind.i64 (12 : Int)))), [((0 : Nat), Blk.cells [C.d (D.v (Value.string (SSta.name s))), C.d (listD ((1 : Nat)) busC e0 (SSta.buses s)), C.d (listD ((5
 : Nat)) lineC line0 (SSta.lines s)), C.d (listD ((6 : Nat)) srcC' src0 (SSta.srcs s)), C.d (listD ((12 : Nat)) bayC bay0 (SSta.bays s)), C.mp ((1 : Nat)), C.mp ((2 : Nat))] ((140 :
 Nat))), ((1 : Nat), Blk.map ((0 : Nat)) N), ((2 : Nat), Blk.map ((2 : Nat)) B)])) else some (T.leaf (AV.c (C.d (D.v (Value.int IntKind.i64 (0 : Int)))), [((0 : Nat), Blk.cells [C.d
 (D.v (Value.string (SSta.name s))), C.d (listD ((1 : Nat)) busC e0 (SSta.buses s)), C.d (listD ((5 : Nat)) lineC line0 (SSta.lines s)), C.d (listD ((6 : Nat)) srcC' src0 (SSta.srcs
 s)), C.d (listD ((12 : Nat)) bayC bay0 (SSta.bays s)), C.mp ((1 : Nat)), C.mp ((2 : Nat))] ((140 : Nat))), ((1 : Nat), Blk.map ((0 : Nat)) N), ((2 : Nat), Blk.map ((2 : Nat))
 B)])))) else some (T.leaf (AV.c (C.d (D.v (Value.int IntKind.i64 (10 : Int)))), [((0 : Nat), Blk.cells [C.d (D.v (Value.string (SSta.name s))), C.d (listD ((1 : Nat)) busC e0
 (SSta.buses s)), C.d (listD ((5 : Nat)) lineC line0 (SSta.lines s)), C.d (listD ((6 : Nat)) srcC' src0 (SSta.srcs s)), C.d (listD ((12 : Nat)) bayC bay0 (SSta.bays s)), C.mp ((1 :
 Nat)), C.mp ((2 : Nat))] ((140 : Nat))), ((1 : Nat), Blk.map ((0 : Nat)) N), ((2 : Nat), Blk.map ((2 : Nat)) B)])))))) := by kernel_rfl
structure K32 where
  okr : List AV → Bool
  us : List AV → Bool
  di : List AV → Bool
  sc : List AV → Bool
  el : List AV → Bool
  ot : List AV → Bool
  zo : List AV → Bool
  ct : List AV → Bool
  ls : List AV → Int
  okp : List AV → Hp → Bool
  pl : List AV → Hp → Int
noncomputable def o32 (Z : K32) (s : SSta) (N B : List (Value × Value)) : Orc := oN nameOk (Orc.cons 77 (ansM Z.okp (fun x H => vI (Z.pl x H)) fun _ _ => HC s N B) (Orc.cons 78 (ansG Z.okr fun x => vB (Z.us x)) (Orc.cons 79 (ansG Z.okr fun x => vB (Z.di x)) (Orc.cons 80 (ansG Z.okr fun x => vB (Z.sc x)) (Orc.cons 81 (ansG Z.okr fun x => vB (Z.el x))
  (Orc.cons 82 (ansG Z.okr fun x => vB (Z.ot x)) (Orc.cons 83 (ansG Z.okr fun x => vB (Z.zo x)) (Orc.cons 84 (ansG Z.okr fun x => vB (Z.ct x)) (Orc.cons 85 (ansG Z.okr fun x => vI (Z.ls x)) Orc.nil)))))))))
noncomputable def ann32 : Ann := annOf []
theorem b32 : Tryz.f32.body = some (bodyOf Tryz.f32) := by kernel_rfl
set_option maxRecDepth 100000 in
theorem ev32 (Z : K32) (s : SSta) (N B : List (Value × Value)) (r : SRel) (g : Nat) : callC Tryz.prog (o32 Z s N B) ann32 g Tryz.f32 (bodyOf Tryz.f32) [.c (.ptr 0 0), aRel r] (HC s N B) =
 (bif !nameOk (SRel.name r) then some (T.leaf (AV.c (C.d (D.v (Value.int IntKind.i64 (7 : Int)))), [((0 : Nat), Blk.cells [C.d (D.v (Value.string (SSta.name s))), C.d (listD ((1 :
 Nat)) busC e0 (SSta.buses s)), C.d (listD ((5 : Nat)) lineC line0 (SSta.lines s)), C.d (listD ((6 : Nat)) srcC' src0 (SSta.srcs s)), C.d (listD ((12 : Nat)) bayC bay0 (SSta.bays
 s)), C.mp ((1 : Nat)), C.mp ((2 : Nat))] ((140 : Nat))), ((1 : Nat), Blk.map ((0 : Nat)) N), ((2 : Nat), Blk.map ((2 : Nat)) B)])) else (bif boolOf (assoc N (Value.string (SRel.name
 r))) then some (T.leaf (AV.c (C.d (D.v (Value.int IntKind.i64 (8 : Int)))), [((0 : Nat), Blk.cells [C.d (D.v (Value.string (SSta.name s))), C.d (listD ((1 : Nat)) busC e0
 (SSta.buses s)), C.d (listD ((5 : Nat)) lineC line0 (SSta.lines s)), C.d (listD ((6 : Nat)) srcC' src0 (SSta.srcs s)), C.d (listD ((12 : Nat)) bayC bay0 (SSta.bays s)), C.mp ((1 :
 Nat)), C.mp ((2 : Nat))] ((140 : Nat))), ((1 : Nat), Blk.map ((0 : Nat)) N), ((2 : Nat), Blk.map ((2 : Nat)) B)])) else (bif K32.okp Z [AV.c (C.ptr ((0 : Nat)) ((0 : Nat))), AV.agg
 (List.map C.d (relC r))] [((0 : Nat), Blk.cells [C.d (D.v (Value.string (SSta.name s))), C.d (listD ((1 : Nat)) busC e0 (SSta.buses s)), C.d (listD ((5 : Nat)) lineC line0
 (SSta.lines s)), C.d (listD ((6 : Nat)) srcC' src0 (SSta.srcs s)), C.d (listD ((12 : Nat)) bayC bay0 (SSta.bays s)), C.mp ((1 : Nat)), C.mp ((2 : Nat))] ((140 : Nat))), ((1 : Nat),
 Blk.map ((0 : Nat)) N), ((2 : Nat), Blk.map ((2 : Nat)) B)] then (bif K32.pl Z [AV.c (C.ptr ((0 : Nat)) ((0 : Nat))), AV.agg (List.map C.d (relC r))] [((0 : Nat), Blk.cells [C.d
 (D.v (Value.string (SSta.name s))), C.d (listD ((1 : Nat)) busC e0 (SSta.buses s)), C.d (listD ((5 : Nat)) lineC line0 (SSta.lines s)), C.d (listD ((6 : Nat)) srcC' src0 (SSta.srcs
 s)), C.d (listD ((12 : Nat)) bayC bay0 (SSta.bays s)), C.mp ((1 : Nat)), C.mp ((2 : Nat))] ((140 : Nat))), ((1 : Nat), Blk.map ((0 : Nat)) N), ((2 : Nat), Blk.map ((2 : Nat)) B)] !=
 (0 : Int) then some (T.leaf (AV.c (C.d (D.v (Value.int IntKind.i64 (K32.pl Z [AV.c (C.ptr ((0 : Nat)) ((0 : Nat))), AV.agg (List.map C.d (relC r))] [((0 : Nat), Blk.cells [C.d (D.v
 (Value.string (SSta.name s))), C.d (listD ((1 : Nat)) busC e0 (SSta.buses s)), C.d (listD ((5 : Nat)) lineC line0 (SSta.lines s)), C.d (listD ((6 : Nat)) srcC' src0 (SSta.srcs s)),
 C.d (listD ((12 : Nat)) bayC bay0 (SSta.bays s)), C.mp ((1 : Nat)), C.mp ((2 : Nat))] ((140 : Nat))), ((1 : Nat), Blk.map ((0 : Nat)) N), ((2 : Nat), Blk.map ((2 : Nat)) B)])))),
 [((0 : Nat), Blk.cells [C.d (D.v (Value.string (SSta.name s))), C.d (listD ((1 : Nat)) busC e0 (SSta.buses s)), C.d (listD ((5 : Nat)) lineC line0 (SSta.lines s)), C.d (listD ((6 :
 Nat)) srcC' src0 (SSta.srcs s)), C.d (listD ((12 : Nat)) bayC bay0 (SSta.bays s)), C.mp ((1 : Nat)), C.mp ((2 : Nat))] ((140 : Nat))), ((1 : Nat), Blk.map ((0 : Nat)) N), ((2 :
 Nat), Blk.map ((2 : Nat)) B)])) else (bif K32.okr Z [AV.agg (List.map C.d (relC r))] then (bif !K32.us Z [AV.agg (List.map C.d (relC r))] then some (T.leaf (AV.c (C.d (D.v
 (Value.int IntKind.i64 (12 : Int)))), [((0 : Nat), Blk.cells [C.d (D.v (Value.string (SSta.name s))), C.d (listD ((1 : Nat)) busC e0 (SSta.buses s)), C.d (listD ((5 : Nat)) lineC
 line0 (SSta.lines s)), C.d (listD ((6 : Nat)) srcC' src0 (SSta.srcs s)), C.d (listD ((12 : Nat)) bayC bay0 (SSta.bays s)), C.mp ((1 : Nat)), C.mp ((2 : Nat))] ((140 : Nat))), ((1 :
 Nat), Blk.map ((0 : Nat)) N), ((2 : Nat), Blk.map ((2 : Nat)) B)])) else (bif K32.okr Z [AV.agg (List.map C.d (relC r))] then (bif !K32.di Z [AV.agg (List.map C.d (relC r))] then
 some (T.leaf (AV.c (C.d (D.v (Value.int IntKind.i64 (2 : Int)))), [((0 : Nat), Blk.cells [C.d (D.v (Value.string (SSta.name s))), C.d (listD ((1 : Nat)) busC e0 (SSta.buses s)), C.d
 (listD ((5 : Nat)) lineC line0 (SSta.lines s)), C.d (listD ((6 : Nat)) srcC' src0 (SSta.srcs s)), C.d (listD ((12 : Nat)) bayC bay0 (SSta.bays s)), C.mp ((1 : Nat)), C.mp ((2 :
 Nat))] ((140 : Nat))), ((1 : Nat), Blk.map ((0 : Nat)) N), ((2 : Nat), Blk.map ((2 : Nat)) B)])) else (bif K32.okr Z [AV.agg (List.map C.d (relC r))] then (bif !K32.sc Z [AV.agg
 (List.map C.d (relC r))] then some (T.leaf (AV.c (C.d (D.v (Value.int IntKind.i64 (2 : Int)))), [((0 : Nat), Blk.cells [C.d (D.v (Value.string (SSta.name s))), C.d (listD ((1 :
 Nat)) busC e0 (SSta.buses s)), C.d (listD ((5 : Nat)) lineC line0 (SSta.lines s)), C.d (listD ((6 : Nat)) srcC' src0 (SSta.srcs s)), C.d (listD ((12 : Nat)) bayC bay0 (SSta.bays
 s)), C.mp ((1 : Nat)), C.mp ((2 : Nat))] ((140 : Nat))), ((1 : Nat), Blk.map ((0 : Nat)) N), ((2 : Nat), Blk.map ((2 : Nat)) B)])) else (bif K32.okr Z [AV.agg (List.map C.d (relC
 r))] then (bif !K32.el Z [AV.agg (List.map C.d (relC r))] then some (T.leaf (AV.c (C.d (D.v (Value.int IntKind.i64 (2 : Int)))), [((0 : Nat), Blk.cells [C.d (D.v (Value.string
 (SSta.name s))), C.d (listD ((1 : Nat)) busC e0 (SSta.buses s)), C.d (listD ((5 : Nat)) lineC line0 (SSta.lines s)), C.d (listD ((6 : Nat)) srcC' src0 (SSta.srcs s)), C.d (listD
 ((12 : Nat)) bayC bay0 (SSta.bays s)), C.mp ((1 : Nat)), C.mp ((2 : Nat))] ((140 : Nat))), ((1 : Nat), Blk.map ((0 : Nat)) N), ((2 : Nat), Blk.map ((2 : Nat)) B)])) else (bif
 K32.okr Z [AV.agg (List.map C.d (relC r))] then (bif !K32.ot Z [AV.agg (List.map C.d (relC r))] then some (T.leaf (AV.c (C.d (D.v (Value.int IntKind.i64 (2 : Int)))), [((0 : Nat),
 Blk.cells [C.d (D.v (Value.string (SSta.name s))), C.d (listD ((1 : Nat)) busC e0 (SSta.buses s)), C.d (listD ((5 : Nat)) lineC line0 (SSta.lines s)), C.d (listD ((6 : Nat)) srcC'
 src0 (SSta.srcs s)), C.d (listD ((12 : Nat)) bayC bay0 (SSta.bays s)), C.mp ((1 : Nat)), C.mp ((2 : Nat))] ((140 : Nat))), ((1 : Nat), Blk.map ((0 : Nat)) N), ((2 : Nat), Blk.map
 ((2 : Nat)) B)])) else (bif K32.okr Z [AV.agg (List.map C.d (relC r))] then (bif !K32.zo Z [AV.agg (List.map C.d (relC r))] then some (T.leaf (AV.c (C.d (D.v (Value.int IntKind.i64
 (11 : Int)))), [((0 : Nat), Blk.cells [C.d (D.v (Value.string (SSta.name s))), C.d (listD ((1 : Nat)) busC e0 (SSta.buses s)), C.d (listD ((5 : Nat)) lineC line0 (SSta.lines s)),
 C.d (listD ((6 : Nat)) srcC' src0 (SSta.srcs s)), C.d (listD ((12 : Nat)) bayC bay0 (SSta.bays s)), C.mp ((1 : Nat)), C.mp ((2 : Nat))] ((140 : Nat))), ((1 : Nat), Blk.map ((0 :
 Nat)) N), ((2 : Nat), Blk.map ((2 : Nat)) B)])) else (bif K32.okr Z [AV.agg (List.map C.d (relC r))] then (bif !K32.ct Z [AV.agg (List.map C.d (relC r))] then some (T.leaf (AV.c
 (C.d (D.v (Value.int IntKind.i64 (3 : Int)))), [((0 : Nat), Blk.cells [C.d (D.v (Value.string (SSta.name s))), C.d (listD ((1 : Nat)) busC e0 (SSta.buses s)), C.d (listD ((5 : Nat))
 lineC line0 (SSta.lines s)), C.d (listD ((6 : Nat)) srcC' src0 (SSta.srcs s)), C.d (listD ((12 : Nat)) bayC bay0 (SSta.bays s)), C.mp ((1 : Nat)), C.mp ((2 : Nat))] ((140 : Nat))),
 ((1 : Nat), Blk.map ((0 : Nat)) N), ((2 : Nat), Blk.map ((2 : Nat)) B)])) else (bif K32.okr Z [AV.agg (List.map C.d (relC r))] then (bif K32.ls Z [AV.agg (List.map C.d (relC r))] !=
 (0 : Int) then some (T.leaf (AV.c (C.d (D.v (Value.int IntKind.i64 (K32.ls Z [AV.agg (List.map C.d (relC r))])))), [((0 : Nat), Blk.cells [C.d (D.v (Value.string (SSta.name s))),
 C.d (listD ((1 : Nat)) busC e0 (SSta.buses s)), C.d (listD ((5 : Nat)) lineC line0 (SSta.lines s)), C.d (listD ((6 : Nat)) srcC' src0 (SSta.srcs s)), C.d (listD ((12 : Nat)) bayC
 bay0 (SSta.bays s)), C.mp ((1 : Nat)), C.mp ((2 : Nat))] ((140 : Nat))), ((1 : Nat), Blk.map ((0 : Nat)) N), ((2 : Nat), Blk.map ((2 : Nat)) B)])) else some (T.leaf (AV.c (C.d (D.v
 (Value.int IntKind.i64 (0 : Int)))), [((0 : Nat), Blk.cells [C.d (D.v (Value.string (SSta.name s))), C.d (listD ((1 : Nat)) busC e0 (SSta.buses s)), C.d (listD ((5 : Nat)) lineC
 line0 (SSta.lines s)), C.d (listD ((6 : Nat)) srcC' src0 (SSta.srcs s)), C.d (listD ((12 : Nat)) bayC bay0 (SSta.bays s)), C.mp ((1 : Nat)), C.mp ((2 : Nat))] ((140 : Nat))), ((1 :
 Nat), Blk.map ((0 : Nat)) ((Value.string (SRel.name r), Value.bool true) :: N)), ((2 : Nat), Blk.map ((2 : Nat)) ((Value.int IntKind.i64 (SRel.bay r), Value.bool true) :: B))])))
 else none)) else none)) else none)) else none)) else none)) else none)) else none)) else none)) else none))) := by kernel_rfl
end Go.Proofs.YtngoglhlhlfknaaGreat.se
