/-
  Names of elements: what they compute. No condition.
-/
import Derived.Test.YtngoglhlhlfknaaGreatZIt
import Derived.Test.YtngoglhlhlfknaaGreatSu
namespace Go.Proofs.YtngoglhlhlfknaaGreat.st
open Go.RowKit Go.Eb
set_option maxRecDepth 100000

noncomputable def ann21 : Ann := annOf [(3, ⟨[5, 4, 3, 2, 12, 11], []⟩), (7, ⟨[5, 4, 3, 13, 11], []⟩), (11, ⟨[5, 4, 14, 11], []⟩)]
noncomputable def L21_3 (s : SSta) (nb nl ns nq : Int) (g m : Nat) (n1 : Nat) (f1 : Nat → List D) (i12 : Int) := LK Tryz.prog Orc.nil ann21 (List.length (α := Nat × Blk) []) g Tryz.f21 3 m ⟨frm [(2, AV.c (C.d (D.v (Value.int IntKind.i64 nl)))), (3, AV.c (C.d (D.v (Value.int IntKind.i64 ns)))), (4, AV.c (C.d (D.v (Value.int IntKind.i64 nq)))), (5, AV.c (C.ptr 0 0)), (11, AV.c (C.row 1 1 n1)), (12, AV.c (C.d (D.v (Value.int IntKind.i64 i12))))] 0 Tryz.f21.ntmps, [(0, Blk.cells [C.d (D.v (Value.string (SSta.name s))), C.d (D.sl 1 (List.length (SSta.buses s)) fun i => busC (List.getD (SSta.buses s) i e0)), C.d (D.sl 5 (List.length (SSta.lines s)) fun i => lineC (List.getD (SSta.lines s) i line0)), C.d (D.sl 6 (List.length (SSta.srcs s)) fun i => srcC' (List.getD (SSta.srcs s) i src0)), C.d (D.sl 12 (List.length (SSta.bays s)) fun i => bayC (List.getD (SSta.bays s) i bay0))] 27), (1, Blk.row n1 f1 1 9)], 2⟩
noncomputable def L21_7 (s : SSta) (nb nl ns nq : Int) (g m : Nat) (n1 : Nat) (f1 : Nat → List D) (i13 : Int) := LK Tryz.prog Orc.nil ann21 (List.length (α := Nat × Blk) []) g Tryz.f21 7 m ⟨frm [(3, AV.c (C.d (D.v (Value.int IntKind.i64 ns)))), (4, AV.c (C.d (D.v (Value.int IntKind.i64 nq)))), (5, AV.c (C.ptr 0 0)), (11, AV.c (C.row 1 1 n1)), (13, AV.c (C.d (D.v (Value.int IntKind.i64 i13))))] 0 Tryz.f21.ntmps, [(0, Blk.cells [C.d (D.v (Value.string (SSta.name s))), C.d (D.sl 1 (List.length (SSta.buses s)) fun i => busC (List.getD (SSta.buses s) i e0)), C.d (D.sl 5 (List.length (SSta.lines s)) fun i => lineC (List.getD (SSta.lines s) i line0)), C.d (D.sl 6 (List.length (SSta.srcs s)) fun i => srcC' (List.getD (SSta.srcs s) i src0)), C.d (D.sl 12 (List.length (SSta.bays s)) fun i => bayC (List.getD (SSta.bays s) i bay0))] 27), (1, Blk.row n1 f1 1 9)], 2⟩
noncomputable def L21_11 (s : SSta) (nb nl ns nq : Int) (g m : Nat) (n1 : Nat) (f1 : Nat → List D) (i14 : Int) := LK Tryz.prog Orc.nil ann21 (List.length (α := Nat × Blk) []) g Tryz.f21 11 m ⟨frm [(4, AV.c (C.d (D.v (Value.int IntKind.i64 nq)))), (5, AV.c (C.ptr 0 0)), (11, AV.c (C.row 1 1 n1)), (14, AV.c (C.d (D.v (Value.int IntKind.i64 i14))))] 0 Tryz.f21.ntmps, [(0, Blk.cells [C.d (D.v (Value.string (SSta.name s))), C.d (D.sl 1 (List.length (SSta.buses s)) fun i => busC (List.getD (SSta.buses s) i e0)), C.d (D.sl 5 (List.length (SSta.lines s)) fun i => lineC (List.getD (SSta.lines s) i line0)), C.d (D.sl 6 (List.length (SSta.srcs s)) fun i => srcC' (List.getD (SSta.srcs s) i src0)), C.d (D.sl 12 (List.length (SSta.bays s)) fun i => bayC (List.getD (SSta.bays s) i bay0))] 27), (1, Blk.row n1 f1 1 9)], 2⟩
theorem b21 : Tryz.f21.body = some (bodyOf Tryz.f21) := by kernel_rfl
set_option maxRecDepth 100000 in
theorem ev21 (s : SSta) (nb nl ns nq : Int) (g : Nat) : callC Tryz.prog Orc.nil ann21 g Tryz.f21 (bodyOf Tryz.f21) [aSta s, vI nb, vI nl, vI ns, vI nq] [] =
 (bif decide ((0 : Int) ≤ (↑(0 : Nat) : Int)) && decide ((↑(0 : Nat) : Int) ≤ nb) && decide (nb ≤ (↑(List.length (SSta.buses s)) : Int)) then (bif decide (((0 : Nat) + (Int.toNat nb
 - Int.toNat (↑(0 : Nat) : Int))) * (16 : Nat) ≤ (140737488355328 : Nat)) && decide ((0 : Nat) + (Int.toNat nb - Int.toNat (↑(0 : Nat) : Int)) ≤ (9223372036854775807 : Nat)) then
 L21_3 s nb nl ns nq g g ((0 : Nat) + (Int.toNat nb - Int.toNat (↑(0 : Nat) : Int))) (appF (0 : Nat) (chunk [] ((0 : Nat) + (1 : Nat))) fun i => busC (List.getD (SSta.buses s)
 (Int.toNat (↑(0 : Nat) : Int) + i) e0)) ((0 : Int)) else none) else none) := by kernel_rfl
set_option maxRecDepth 100000 in
theorem st21_3 (s : SSta) (nb nl ns nq : Int) (g m : Nat) (n1 : Nat) (f1 : Nat → List D) (i12 : Int) : L21_3 s nb nl ns nq g (m + 1) n1 f1 i12 =
 (bif decide (i12 < nl) then (bif decide ((0 : Int) ≤ i12) && decide (i12 < (↑(List.length (SSta.lines s)) : Int)) then (bif decide ((n1 + (1 : Nat)) * (16 : Nat) ≤ (140737488355328
 : Nat)) && decide (n1 + (1 : Nat) ≤ (9223372036854775807 : Nat)) then L21_3 s nb nl ns nq g m (n1 + (1 : Nat)) (appF n1 f1 (chunk [dS (SLine.name (List.getD (SSta.lines s)
 (Int.toNat i12) line0))] ((0 : Nat) + (1 : Nat)))) (IntKind.wrap IntKind.i64 (i12 + (1 : Int))) else none) else none) else L21_7 s nb nl ns nq g g n1 f1 ((0 : Int))) := by kernel_rfl
set_option maxRecDepth 100000 in
theorem st21_7 (s : SSta) (nb nl ns nq : Int) (g m : Nat) (n1 : Nat) (f1 : Nat → List D) (i13 : Int) : L21_7 s nb nl ns nq g (m + 1) n1 f1 i13 =
 (bif decide (i13 < ns) then (bif decide ((0 : Int) ≤ i13) && decide (i13 < (↑(List.length (SSta.srcs s)) : Int)) then (bif decide ((n1 + (1 : Nat)) * (16 : Nat) ≤ (140737488355328 :
 Nat)) && decide (n1 + (1 : Nat) ≤ (9223372036854775807 : Nat)) then L21_7 s nb nl ns nq g m (n1 + (1 : Nat)) (appF n1 f1 (chunk [dS (SSrc.name (List.getD (SSta.srcs s) (Int.toNat
 i13) src0))] ((0 : Nat) + (1 : Nat)))) (IntKind.wrap IntKind.i64 (i13 + (1 : Int))) else none) else none) else L21_11 s nb nl ns nq g g n1 f1 ((0 : Int))) := by kernel_rfl
set_option maxRecDepth 100000 in
theorem st21_11 (s : SSta) (nb nl ns nq : Int) (g m : Nat) (n1 : Nat) (f1 : Nat → List D) (i14 : Int) : L21_11 s nb nl ns nq g (m + 1) n1 f1 i14 =
 (bif decide (i14 < nq) then (bif decide ((0 : Int) ≤ i14) && decide (i14 < (↑(List.length (SSta.bays s)) : Int)) then (bif decide ((n1 + (1 : Nat)) * (16 : Nat) ≤ (140737488355328 :
 Nat)) && decide (n1 + (1 : Nat) ≤ (9223372036854775807 : Nat)) then L21_11 s nb nl ns nq g m (n1 + (1 : Nat)) (appF n1 f1 (chunk [dS (SBay.name (List.getD (SSta.bays s) (Int.toNat
 i14) bay0))] ((0 : Nat) + (1 : Nat)))) (IntKind.wrap IntKind.i64 (i14 + (1 : Int))) else none) else none) else some (T.leaf (AV.c (C.row ((0 : Nat)) ((1 : Nat)) n1), [((0 : Nat),
 Blk.row n1 f1 ((1 : Nat)) ((9 : Nat)))]))) := by kernel_rfl
end Go.Proofs.YtngoglhlhlfknaaGreat.st
