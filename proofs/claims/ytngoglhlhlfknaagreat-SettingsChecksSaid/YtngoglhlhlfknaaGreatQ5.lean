/-
  An evaluator of Go code on abstract values, proved sound, and what it computes of the functions that the statement reaches (part 5). No condition.
-/
import Derived.Test.YtngoglhlhlfknaaGreatQ4
namespace Go.Proofs.YtngoglhlhlfknaaGreat.se
open Go.RowKit Go.Eb
set_option maxRecDepth 100000

set_option maxRecDepth 100000 in
theorem ev133_t (s : ByteArray) : callC Tryz.prog (Orc.cons 44 (inl Tryz.prog Orc.nil na 20 Tryz.f44) Orc.nil) na 20 Tryz.f133 (bodyOf Tryz.f133) [vS s] [] =
 (bif ByteArray.toList (ByteArray.mk #[(116 : UInt8), (114 : UInt8), (117 : UInt8), (101 : UInt8)]) == ByteArray.toList s then some (T.leaf (AV.c (C.d (D.v (Value.bool true))), []))
 else (bif ByteArray.toList (ByteArray.mk #[(102 : UInt8), (97 : UInt8), (108 : UInt8), (115 : UInt8), (101 : UInt8)]) == ByteArray.toList s then some (T.leaf (AV.c (C.d (D.v
 (Value.bool true))), [])) else (bif ByteArray.toList (ByteArray.mk #[(110 : UInt8), (111 : UInt8), (116 : UInt8)]) == ByteArray.toList s then some (T.leaf (AV.c (C.d (D.v
 (Value.bool true))), [])) else (bif ByteArray.toList (ByteArray.mk #[(97 : UInt8), (110 : UInt8), (100 : UInt8)]) == ByteArray.toList s then some (T.leaf (AV.c (C.d (D.v (Value.bool
 true))), [])) else (bif ByteArray.toList (ByteArray.mk #[(111 : UInt8), (114 : UInt8)]) == ByteArray.toList s then some (T.leaf (AV.c (C.d (D.v (Value.bool true))), [])) else (bif
 ByteArray.toList (ByteArray.mk #[(120 : UInt8), (111 : UInt8), (114 : UInt8)]) == ByteArray.toList s then some (T.leaf (AV.c (C.d (D.v (Value.bool true))), [])) else (bif
 ByteArray.toList (ByteArray.mk #[(109 : UInt8), (105 : UInt8), (110 : UInt8)]) == ByteArray.toList s then some (T.leaf (AV.c (C.d (D.v (Value.bool true))), [])) else (bif
 ByteArray.toList (ByteArray.mk #[(109 : UInt8), (97 : UInt8), (120 : UInt8)]) == ByteArray.toList s then some (T.leaf (AV.c (C.d (D.v (Value.bool true))), [])) else (bif
 ByteArray.toList (ByteArray.mk #[(97 : UInt8), (98 : UInt8), (115 : UInt8)]) == ByteArray.toList s then some (T.leaf (AV.c (C.d (D.v (Value.bool true))), [])) else (bif
 ByteArray.toList (ByteArray.mk #[(105 : UInt8), (102 : UInt8)]) == ByteArray.toList s then some (T.leaf (AV.c (C.d (D.v (Value.bool true))), [])) else (bif ByteArray.toList
 (ByteArray.mk #[(114 : UInt8), (105 : UInt8), (115 : UInt8), (101 : UInt8)]) == ByteArray.toList s then some (T.leaf (AV.c (C.d (D.v (Value.bool true))), [])) else (bif
 ByteArray.toList (ByteArray.mk #[(102 : UInt8), (97 : UInt8), (108 : UInt8), (108 : UInt8)]) == ByteArray.toList s then some (T.leaf (AV.c (C.d (D.v (Value.bool true))), [])) else
 (bif ByteArray.toList (ByteArray.mk #[(100 : UInt8), (101 : UInt8), (108 : UInt8), (97 : UInt8), (121 : UInt8)]) == ByteArray.toList s then some (T.leaf (AV.c (C.d (D.v (Value.bool
 true))), [])) else (bif ByteArray.toList (ByteArray.mk #[(104 : UInt8), (111 : UInt8), (108 : UInt8), (100 : UInt8)]) == ByteArray.toList s then some (T.leaf (AV.c (C.d (D.v
 (Value.bool true))), [])) else (bif ByteArray.toList (ByteArray.mk #[(108 : UInt8), (97 : UInt8), (116 : UInt8), (99 : UInt8), (104 : UInt8)]) == ByteArray.toList s then some
 (T.leaf (AV.c (C.d (D.v (Value.bool true))), [])) else (bif ByteArray.toList (ByteArray.mk #[(99 : UInt8), (111 : UInt8), (117 : UInt8), (110 : UInt8), (116 : UInt8)]) ==
 ByteArray.toList s then some (T.leaf (AV.c (C.d (D.v (Value.bool true))), [])) else some (T.leaf (AV.c (C.d (D.v (Value.bool false))), [])))))))))))))))))) := by kernel_rfl
noncomputable def ev133_v (s : ByteArray) : Bool :=
 (bif ByteArray.toList (ByteArray.mk #[(116 : UInt8), (114 : UInt8), (117 : UInt8), (101 : UInt8)]) == ByteArray.toList s then (true) else (bif ByteArray.toList (ByteArray.mk #[(102
 : UInt8), (97 : UInt8), (108 : UInt8), (115 : UInt8), (101 : UInt8)]) == ByteArray.toList s then (true) else (bif ByteArray.toList (ByteArray.mk #[(110 : UInt8), (111 : UInt8), (116
 : UInt8)]) == ByteArray.toList s then (true) else (bif ByteArray.toList (ByteArray.mk #[(97 : UInt8), (110 : UInt8), (100 : UInt8)]) == ByteArray.toList s then (true) else (bif
 ByteArray.toList (ByteArray.mk #[(111 : UInt8), (114 : UInt8)]) == ByteArray.toList s then (true) else (bif ByteArray.toList (ByteArray.mk #[(120 : UInt8), (111 : UInt8), (114 :
 UInt8)]) == ByteArray.toList s then (true) else (bif ByteArray.toList (ByteArray.mk #[(109 : UInt8), (105 : UInt8), (110 : UInt8)]) == ByteArray.toList s then (true) else (bif
 ByteArray.toList (ByteArray.mk #[(109 : UInt8), (97 : UInt8), (120 : UInt8)]) == ByteArray.toList s then (true) else (bif ByteArray.toList (ByteArray.mk #[(97 : UInt8), (98 :
 UInt8), (115 : UInt8)]) == ByteArray.toList s then (true) else (bif ByteArray.toList (ByteArray.mk #[(105 : UInt8), (102 : UInt8)]) == ByteArray.toList s then (true) else (bif
 ByteArray.toList (ByteArray.mk #[(114 : UInt8), (105 : UInt8), (115 : UInt8), (101 : UInt8)]) == ByteArray.toList s then (true) else (bif ByteArray.toList (ByteArray.mk #[(102 :
 UInt8), (97 : UInt8), (108 : UInt8), (108 : UInt8)]) == ByteArray.toList s then (true) else (bif ByteArray.toList (ByteArray.mk #[(100 : UInt8), (101 : UInt8), (108 : UInt8), (97 :
 UInt8), (121 : UInt8)]) == ByteArray.toList s then (true) else (bif ByteArray.toList (ByteArray.mk #[(104 : UInt8), (111 : UInt8), (108 : UInt8), (100 : UInt8)]) == ByteArray.toList
 s then (true) else (bif ByteArray.toList (ByteArray.mk #[(108 : UInt8), (97 : UInt8), (116 : UInt8), (99 : UInt8), (104 : UInt8)]) == ByteArray.toList s then (true) else (bif
 ByteArray.toList (ByteArray.mk #[(99 : UInt8), (111 : UInt8), (117 : UInt8), (110 : UInt8), (116 : UInt8)]) == ByteArray.toList s then (true) else (false)))))))))))))))))
set_option maxRecDepth 100000 in
theorem ev133 (s : ByteArray) : callC Tryz.prog (Orc.cons 44 (inl Tryz.prog Orc.nil na 20 Tryz.f44) Orc.nil) na 20 Tryz.f133 (bodyOf Tryz.f133) [vS s] [] = some (.leaf (vB (ev133_v s), [])) := by
  rw [ev133_t]
  unfold ev133_v
  simp only [bLeaf]
noncomputable def ann91 : Ann := annOf [(4, ⟨[1, 3], []⟩)]
noncomputable def L91_4 (r : SRel) (g m : Nat) (i3 : Int) := LK Tryz.prog Orc.nil ann91 (List.length (α := Nat × Blk) []) g Tryz.f91 4 m ⟨frm [(1, AV.c (C.ptr 0 0)), (3, AV.c (C.d (D.v (Value.int IntKind.i64 i3))))] 0 Tryz.f91.ntmps, [(0, Blk.cells (List.map C.d (relC r)) 57)], 1⟩
theorem b91 : Tryz.f91.body = some (bodyOf Tryz.f91) := by kernel_rfl
set_option maxRecDepth 100000 in
theorem ev91 (r : SRel) (g : Nat) : callC Tryz.prog Orc.nil ann91 g Tryz.f91 (bodyOf Tryz.f91) [aRel r] [] =
 (bif decide ((↑(List.length (SRel.rules r)) : Int) > (16 : Int)) then some (T.leaf (AV.c (C.d (D.v (Value.bool true))), [])) else (bif decide ((↑(List.length (SRel.sets r)) : Int) >
 (4 : Int)) then some (T.leaf (AV.c (C.d (D.v (Value.bool true))), [])) else (bif decide ((↑(List.length (SRel.pubs r)) : Int) > (4 : Int)) then some (T.leaf (AV.c (C.d (D.v
 (Value.bool true))), [])) else (bif decide ((↑(List.length (SRel.subs r)) : Int) > (24 : Int)) then some (T.leaf (AV.c (C.d (D.v (Value.bool true))), [])) else L91_4 r g g ((0 :
 Int)))))) := by kernel_rfl
set_option maxRecDepth 100000 in
theorem st91_4 (r : SRel) (g m : Nat) (i3 : Int) : L91_4 r g (m + 1) i3 =
 (bif decide (i3 < (↑(List.length (SRel.sets r)) : Int)) then (bif decide ((0 : Int) ≤ i3) && decide (i3 < (↑(List.length (SRel.sets r)) : Int)) then (bif decide ((↑(List.length
 (SSet.sigs (List.getD (SRel.sets r) (Int.toNat i3) set0))) : Int) < (1 : Int)) then some (T.leaf (AV.c (C.d (D.v (Value.bool true))), [])) else (bif decide ((0 : Int) ≤ i3) &&
 decide (i3 < (↑(List.length (SRel.sets r)) : Int)) then (bif decide ((↑(List.length (SSet.sigs (List.getD (SRel.sets r) (Int.toNat i3) set0))) : Int) > (24 : Int)) then some (T.leaf
 (AV.c (C.d (D.v (Value.bool true))), [])) else L91_4 r g m (IntKind.wrap IntKind.i64 (i3 + (1 : Int)))) else none)) else none) else some (T.leaf (AV.c (C.d (D.v (Value.bool
 false))), []))) := by kernel_rfl
noncomputable def ann87 : Ann := annOf [(16, ⟨[5, 1, 8], []⟩)]
noncomputable def L87_16 (s : SSta) (b : List SRel) (r : SRel) (g m : Nat) (i8 : Int) := LK Tryz.prog Orc.nil ann87 (List.length (α := Nat × Blk) []) g Tryz.f87 16 m ⟨frm [(1, AV.c (C.d (listD 53 relC rel0 b))), (5, AV.c (C.ptr 0 0)), (8, AV.c (C.d (D.v (Value.int IntKind.i64 i8))))] 0 Tryz.f87.ntmps, [(0, Blk.cells (List.map C.d (relC r)) 57)], 1⟩
theorem b87 : Tryz.f87.body = some (bodyOf Tryz.f87) := by kernel_rfl
set_option maxRecDepth 100000 in
theorem ev87 (s : SSta) (b : List SRel) (r : SRel) (g : Nat) : callC Tryz.prog Orc.nil ann87 g Tryz.f87 (bodyOf Tryz.f87) [aSta s, .c (.d (relsD b)), aRel r] [] =
 (bif SRel.kind r == (1 : Int) then (bif decide (SRel.bay r < (0 : Int)) then some (T.leaf (AV.c (C.d (D.v (Value.int IntKind.i64 (9 : Int)))), [])) else (bif decide (SRel.bay r ≥
 (↑(List.length (SSta.bays s)) : Int)) then some (T.leaf (AV.c (C.d (D.v (Value.int IntKind.i64 (9 : Int)))), [])) else (bif decide ((0 : Int) ≤ SRel.bay r) && decide (SRel.bay r <
 (↑(List.length (SSta.bays s)) : Int)) then (bif SBay.kind (List.getD (SSta.bays s) (Int.toNat (SRel.bay r)) bay0) != (1 : Int) then some (T.leaf (AV.c (C.d (D.v (Value.int
 IntKind.i64 (9 : Int)))), [])) else L87_16 s b r g g ((0 : Int))) else none))) else (bif SRel.kind r == (2 : Int) then (bif decide (SRel.bay r < (0 : Int)) then some (T.leaf (AV.c
 (C.d (D.v (Value.int IntKind.i64 (9 : Int)))), [])) else (bif decide (SRel.bay r ≥ (↑(List.length (SSta.bays s)) : Int)) then some (T.leaf (AV.c (C.d (D.v (Value.int IntKind.i64 (9
 : Int)))), [])) else (bif decide ((0 : Int) ≤ SRel.bay r) && decide (SRel.bay r < (↑(List.length (SSta.bays s)) : Int)) then (bif SBay.kind (List.getD (SSta.bays s) (Int.toNat
 (SRel.bay r)) bay0) != (2 : Int) then some (T.leaf (AV.c (C.d (D.v (Value.int IntKind.i64 (9 : Int)))), [])) else L87_16 s b r g g ((0 : Int))) else none))) else (bif SRel.kind r ==
 (3 : Int) then (bif decide (SRel.bay r < (0 : Int)) then some (T.leaf (AV.c (C.d (D.v (Value.int IntKind.i64 (9 : Int)))), [])) else (bif decide (SRel.bay r ≥ (↑(List.length
 (SSta.bays s)) : Int)) then some (T.leaf (AV.c (C.d (D.v (Value.int IntKind.i64 (9 : Int)))), [])) else (bif decide ((0 : Int) ≤ SRel.bay r) && decide (SRel.bay r < (↑(List.length
 (SSta.bays s)) : Int)) then (bif SBay.kind (List.getD (SSta.bays s) (Int.toNat (SRel.bay r)) bay0) != (3 : Int) then some (T.leaf (AV.c (C.d (D.v (Value.int IntKind.i64 (9 :
 Int)))), [])) else L87_16 s b r g g ((0 : Int))) else none))) else (bif SRel.kind r == (4 : Int) then (bif SRel.bay r != (-1 : Int) then some (T.leaf (AV.c (C.d (D.v (Value.int
 IntKind.i64 (9 : Int)))), [])) else L87_16 s b r g g ((0 : Int))) else some (T.leaf (AV.c (C.d (D.v (Value.int IntKind.i64 (10 : Int)))), [])))))) := by kernel_rfl
set_option maxRecDepth 100000 in
theorem st87_16 (s : SSta) (b : List SRel) (r : SRel) (g m : Nat) (i8 : Int) : L87_16 s b r g (m + 1) i8 =
 (bif decide (i8 < (↑(List.length b) : Int)) then (bif decide ((0 : Int) ≤ i8) && decide (i8 < (↑(List.length b) : Int)) then (bif SRel.bay (List.getD b (Int.toNat i8) rel0) ==
 SRel.bay r then some (T.leaf (AV.c (C.d (D.v (Value.int IntKind.i64 (12 : Int)))), [])) else L87_16 s b r g m (IntKind.wrap IntKind.i64 (i8 + (1 : Int)))) else none) else some
 (T.leaf (AV.c (C.d (D.v (Value.int IntKind.i64 (0 : Int)))), []))) := by kernel_rfl
noncomputable def oIx (oki : List AV → Bool) (ix : List AV → Int) (r : Orc) : Orc := Orc.cons 44 (ansL oki fun x => vI (ix x)) r
noncomputable def o92 (nk rv : ByteArray → Bool) (oki : List AV → Bool) (ix : List AV → Int) : Orc := oIx oki ix (Orc.cons 19 (ansP decS fun s => vB (nk s)) (Orc.cons 133 (ansP decS fun s => vB (rv s)) Orc.nil))
noncomputable def ann92 : Ann := annOf [(3, ⟨[1, 4, 3], [(3, 0, 1, 9)]⟩), (13, ⟨[5, 1, 4, 3, 6], []⟩)]
noncomputable def L92_3 (nk rv : ByteArray → Bool) (oki : List AV → Bool) (ix : List AV → Int) (r : SRel) (g m : Nat) (n1 : Nat) (f1 : Nat → List D) (i4 : Int) := LK Tryz.prog (o92 nk rv oki ix) ann92 (List.length (α := Nat × Blk) []) g Tryz.f92 3 m ⟨frm [(1, AV.c (C.ptr 0 0)), (3, AV.c (C.row 1 1 n1)), (4, AV.c (C.d (D.v (Value.int IntKind.i64 i4))))] 0 Tryz.f92.ntmps, [(0, Blk.cells (List.map C.d (relC r)) 57), (1, Blk.row n1 f1 1 9)], 2⟩
noncomputable def L92_13 (nk rv : ByteArray → Bool) (oki : List AV → Bool) (ix : List AV → Int) (r : SRel) (g mo m : Nat) (n1 : Nat) (f1 : Nat → List D) (i4 : Int) (i6 : Int) := LK2 Tryz.prog (o92 nk rv oki ix) ann92 (List.length (α := Nat × Blk) []) g Tryz.f92 3 mo 13 m ⟨frm [(1, AV.c (C.ptr 0 0)), (3, AV.c (C.row 1 1 n1)), (4, AV.c (C.d (D.v (Value.int IntKind.i64 i4)))), (5, AV.c (C.ptr 2 0)), (6, AV.c (C.d (D.v (Value.int IntKind.i64 i6))))] 0 Tryz.f92.ntmps, [(0, Blk.cells (List.map C.d (relC r)) 57), (1, Blk.row n1 f1 1 9), (2, Blk.cells (List.map C.d (ruleC (List.getD (SRel.rules r) (Int.toNat i4) rule0))) 100)], 3⟩
theorem b92 : Tryz.f92.body = some (bodyOf Tryz.f92) := by kernel_rfl
set_option maxRecDepth 100000 in
theorem ev92 (nk rv : ByteArray → Bool) (oki : List AV → Bool) (ix : List AV → Int) (r : SRel) (g : Nat) : callC Tryz.prog (o92 nk rv oki ix) ann92 g Tryz.f92 (bodyOf Tryz.f92) [aRel r] [] =
 L92_3 nk rv oki ix r g g (0 : Nat) (fun x => []) ((0 : Int)) := by kernel_rfl
set_option maxRecDepth 100000 in
theorem st92_3 (nk rv : ByteArray → Bool) (oki : List AV → Bool) (ix : List AV → Int) (r : SRel) (g m : Nat) (n1 : Nat) (f1 : Nat → List D) (i4 : Int) : L92_3 nk rv oki ix r g (m + 1) n1 f1 i4 =
 (bif decide (i4 < (↑(List.length (SRel.rules r)) : Int)) then (bif decide ((0 : Int) ≤ i4) && decide (i4 < (↑(List.length (SRel.rules r)) : Int)) then (bif !nk (SRule.name
 (List.getD (SRel.rules r) (Int.toNat i4) rule0)) then some (T.leaf (AV.c (C.d (D.v (Value.int IntKind.i64 (7 : Int)))), [])) else (bif rv (SRule.name (List.getD (SRel.rules r)
 (Int.toNat i4) rule0)) then some (T.leaf (AV.c (C.d (D.v (Value.int IntKind.i64 (7 : Int)))), [])) else (bif oki [AV.c (C.d (D.sl ((1 : Nat)) n1 f1)), AV.c (C.d (D.v (Value.string
 (SRule.name (List.getD (SRel.rules r) (Int.toNat i4) rule0)))))] then (bif decide (ix [AV.c (C.d (D.sl ((1 : Nat)) n1 f1)), AV.c (C.d (D.v (Value.string (SRule.name (List.getD
 (SRel.rules r) (Int.toNat i4) rule0)))))] ≥ (0 : Int)) then some (T.leaf (AV.c (C.d (D.v (Value.int IntKind.i64 (8 : Int)))), [])) else (bif decide ((↑(ByteArray.size (SRule.text
 (List.getD (SRel.rules r) (Int.toNat i4) rule0))) : Int) > (120 : Int)) then some (T.leaf (AV.c (C.d (D.v (Value.int IntKind.i64 (4 : Int)))), [])) else L92_13 nk rv oki ix r g m g
 n1 f1 i4 ((0 : Int)))) else none))) else none) else some (T.leaf (AV.c (C.d (D.v (Value.int IntKind.i64 (0 : Int)))), []))) := by kernel_rfl
set_option maxRecDepth 100000 in
theorem st92_13 (nk rv : ByteArray → Bool) (oki : List AV → Bool) (ix : List AV → Int) (r : SRel) (g mo m : Nat) (n1 : Nat) (f1 : Nat → List D) (i4 : Int) (i6 : Int) : L92_13 nk rv oki ix r g mo (m + 1) n1 f1 i4 i6 =
 (bif decide (i6 < (↑(ByteArray.size (SRule.text (List.getD (SRel.rules r) (Int.toNat i4) rule0))) : Int)) then (bif decide ((0 : Int) ≤ i6) && decide (i6 < (↑(ByteArray.size
 (SRule.text (List.getD (SRel.rules r) (Int.toNat i4) rule0))) : Int)) then (bif decide ((↑(UInt8.toNat (List.getD (Array.toList (ByteArray.data (SRule.text (List.getD (SRel.rules r)
 (Int.toNat i4) rule0)))) (Int.toNat i6) (0 : UInt8))) : Int) < (32 : Int)) then some (T.leaf (AV.c (C.d (D.v (Value.int IntKind.i64 (5 : Int)))), [])) else (bif decide ((0 : Int) ≤
 i6) && decide (i6 < (↑(ByteArray.size (SRule.text (List.getD (SRel.rules r) (Int.toNat i4) rule0))) : Int)) then (bif decide ((↑(UInt8.toNat (List.getD (Array.toList (ByteArray.data
 (SRule.text (List.getD (SRel.rules r) (Int.toNat i4) rule0)))) (Int.toNat i6) (0 : UInt8))) : Int) > (126 : Int)) then some (T.leaf (AV.c (C.d (D.v (Value.int IntKind.i64 (5 :
 Int)))), [])) else (bif decide ((0 : Int) ≤ i6) && decide (i6 < (↑(ByteArray.size (SRule.text (List.getD (SRel.rules r) (Int.toNat i4) rule0))) : Int)) then (bif (↑(UInt8.toNat
 (List.getD (Array.toList (ByteArray.data (SRule.text (List.getD (SRel.rules r) (Int.toNat i4) rule0)))) (Int.toNat i6) (0 : UInt8))) : Int) == (34 : Int) then some (T.leaf (AV.c
 (C.d (D.v (Value.int IntKind.i64 (5 : Int)))), [])) else L92_13 nk rv oki ix r g mo m n1 f1 i4 (IntKind.wrap IntKind.i64 (i6 + (1 : Int)))) else none)) else none)) else none) else
 (bif decide ((n1 + (1 : Nat)) * (16 : Nat) ≤ (140737488355328 : Nat)) && decide (n1 + (1 : Nat) ≤ (9223372036854775807 : Nat)) then L92_3 nk rv oki ix r g mo (n1 + (1 : Nat)) (appF
 n1 f1 (chunk [dS (SRule.name (List.getD (SRel.rules r) (Int.toNat i4) rule0))] ((0 : Nat) + (1 : Nat)))) (IntKind.wrap IntKind.i64 (i4 + (1 : Int))) else none)) := by kernel_rfl
noncomputable def o93 (nk : ByteArray → Bool) (oki : List AV → Bool) (ix : List AV → Int) : Orc := oIx oki ix (Orc.cons 19 (ansP decS fun s => vB (nk s)) (Orc.cons 131 (ansP dec3 fun a => vB (within a.1 a.2.1 a.2.2)) Orc.nil))
noncomputable def ann93 : Ann := annOf [(3, ⟨[1, 4, 3], [(3, 0, 1, 9)]⟩), (9, ⟨[5, 1, 4, 3, 6], []⟩), (18, ⟨[1, 7, 3], [(3, 0, 1, 9)]⟩), (30, ⟨[1, 9, 3], [(3, 0, 1, 9)]⟩)]
noncomputable def L93_3 (nk : ByteArray → Bool) (oki : List AV → Bool) (ix : List AV → Int) (r : SRel) (g m : Nat) (n1 : Nat) (f1 : Nat → List D) (i4 : Int) := LK Tryz.prog (o93 nk oki ix) ann93 (List.length (α := Nat × Blk) []) g Tryz.f93 3 m ⟨frm [(1, AV.c (C.ptr 0 0)), (3, AV.c (C.row 1 1 n1)), (4, AV.c (C.d (D.v (Value.int IntKind.i64 i4))))] 0 Tryz.f93.ntmps, [(0, Blk.cells (List.map C.d (relC r)) 57), (1, Blk.row n1 f1 1 9)], 2⟩
noncomputable def L93_9 (nk : ByteArray → Bool) (oki : List AV → Bool) (ix : List AV → Int) (r : SRel) (g mo m : Nat) (n1 : Nat) (f1 : Nat → List D) (i4 : Int) (i6 : Int) := LK2 Tryz.prog (o93 nk oki ix) ann93 (List.length (α := Nat × Blk) []) g Tryz.f93 3 mo 9 m ⟨frm [(1, AV.c (C.ptr 0 0)), (3, AV.c (C.row 1 1 n1)), (4, AV.c (C.d (D.v (Value.int IntKind.i64 i4)))), (5, AV.c (C.ptr 2 0)), (6, AV.c (C.d (D.v (Value.int IntKind.i64 i6))))] 0 Tryz.f93.ntmps, [(0, Blk.cells (List.map C.d (relC r)) 57), (1, Blk.row n1 f1 1 9), (2, Blk.cells (List.map C.d (setC (List.getD (SRel.sets r) (Int.toNat i4) set0))) 95)], 3⟩
noncomputable def L93_18 (nk : ByteArray → Bool) (oki : List AV → Bool) (ix : List AV → Int) (r : SRel) (g m : Nat) (n1 : Nat) (f1 : Nat → List D) (i7 : Int) := LK Tryz.prog (o93 nk oki ix) ann93 (List.length (α := Nat × Blk) []) g Tryz.f93 18 m ⟨frm [(1, AV.c (C.ptr 0 0)), (3, AV.c (C.row 1 1 n1)), (7, AV.c (C.d (D.v (Value.int IntKind.i64 i7))))] 0 Tryz.f93.ntmps, [(0, Blk.cells (List.map C.d (relC r)) 57), (1, Blk.row n1 f1 1 9)], 2⟩
noncomputable def L93_30 (nk : ByteArray → Bool) (oki : List AV → Bool) (ix : List AV → Int) (r : SRel) (g m : Nat) (n1 : Nat) (f1 : Nat → List D) (i9 : Int) := LK Tryz.prog (o93 nk oki ix) ann93 (List.length (α := Nat × Blk) []) g Tryz.f93 30 m ⟨frm [(1, AV.c (C.ptr 0 0)), (3, AV.c (C.row 1 1 n1)), (9, AV.c (C.d (D.v (Value.int IntKind.i64 i9))))] 0 Tryz.f93.ntmps, [(0, Blk.cells (List.map C.d (relC r)) 57), (1, Blk.row n1 f1 1 9)], 2⟩
theorem b93 : Tryz.f93.body = some (bodyOf Tryz.f93) := by kernel_rfl
set_option maxRecDepth 100000 in
theorem ev93 (nk : ByteArray → Bool) (oki : List AV → Bool) (ix : List AV → Int) (r : SRel) (g : Nat) : callC Tryz.prog (o93 nk oki ix) ann93 g Tryz.f93 (bodyOf Tryz.f93) [aRel r] [] =
 L93_3 nk oki ix r g g (0 : Nat) (fun x => []) ((0 : Int)) := by kernel_rfl
set_option maxRecDepth 100000 in
theorem st93_3 (nk : ByteArray → Bool) (oki : List AV → Bool) (ix : List AV → Int) (r : SRel) (g m : Nat) (n1 : Nat) (f1 : Nat → List D) (i4 : Int) : L93_3 nk oki ix r g (m + 1) n1 f1 i4 =
 (bif decide (i4 < (↑(List.length (SRel.sets r)) : Int)) then (bif decide ((0 : Int) ≤ i4) && decide (i4 < (↑(List.length (SRel.sets r)) : Int)) then (bif !nk (SSet.name (List.getD
 (SRel.sets r) (Int.toNat i4) set0)) then some (T.leaf (AV.c (C.d (D.v (Value.int IntKind.i64 (7 : Int)))), [])) else L93_9 nk oki ix r g m g n1 f1 i4 ((0 : Int))) else none) else
 L93_18 nk oki ix r g g (0 : Nat) (fun x => []) ((0 : Int))) := by kernel_rfl
set_option maxRecDepth 100000 in
theorem st93_9 (nk : ByteArray → Bool) (oki : List AV → Bool) (ix : List AV → Int) (r : SRel) (g mo m : Nat) (n1 : Nat) (f1 : Nat → List D) (i4 : Int) (i6 : Int) : L93_9 nk oki ix r g mo (m + 1) n1 f1 i4 i6 =
 (bif decide (i6 < (↑(List.length (SSet.sigs (List.getD (SRel.sets r) (Int.toNat i4) set0))) : Int)) then (bif decide ((0 : Int) ≤ i6) && decide (i6 < (↑(List.length (SSet.sigs
 (List.getD (SRel.sets r) (Int.toNat i4) set0))) : Int)) then (bif !nk (List.getD (SSet.sigs (List.getD (SRel.sets r) (Int.toNat i4) set0)) (Int.toNat i6) e0) then some (T.leaf (AV.c
 (C.d (D.v (Value.int IntKind.i64 (7 : Int)))), [])) else L93_9 nk oki ix r g mo m n1 f1 i4 (IntKind.wrap IntKind.i64 (i6 + (1 : Int)))) else none) else (bif oki [AV.c (C.d (D.sl ((1
 : Nat)) n1 f1)), AV.c (C.d (D.v (Value.string (SSet.name (List.getD (SRel.sets r) (Int.toNat i4) set0)))))] then (bif decide (ix [AV.c (C.d (D.sl ((1 : Nat)) n1 f1)), AV.c (C.d (D.v
 (Value.string (SSet.name (List.getD (SRel.sets r) (Int.toNat i4) set0)))))] ≥ (0 : Int)) then some (T.leaf (AV.c (C.d (D.v (Value.int IntKind.i64 (8 : Int)))), [])) else (bif decide
 ((n1 + (1 : Nat)) * (16 : Nat) ≤ (140737488355328 : Nat)) && decide (n1 + (1 : Nat) ≤ (9223372036854775807 : Nat)) then L93_3 nk oki ix r g mo (n1 + (1 : Nat)) (appF n1 f1 (chunk
 [dS (SSet.name (List.getD (SRel.sets r) (Int.toNat i4) set0))] ((0 : Nat) + (1 : Nat)))) (IntKind.wrap IntKind.i64 (i4 + (1 : Int))) else none)) else none)) := by kernel_rfl
set_option maxRecDepth 100000 in
theorem st93_18 (nk : ByteArray → Bool) (oki : List AV → Bool) (ix : List AV → Int) (r : SRel) (g m : Nat) (n1 : Nat) (f1 : Nat → List D) (i7 : Int) : L93_18 nk oki ix r g (m + 1) n1 f1 i7 =
 (bif decide (i7 < (↑(List.length (SRel.pubs r)) : Int)) then (bif decide ((0 : Int) ≤ i7) && decide (i7 < (↑(List.length (SRel.pubs r)) : Int)) then (bif !nk (SPub.set (List.getD
 (SRel.pubs r) (Int.toNat i7) pub0)) then some (T.leaf (AV.c (C.d (D.v (Value.int IntKind.i64 (7 : Int)))), [])) else (bif oki [AV.c (C.d (D.sl ((1 : Nat)) n1 f1)), AV.c (C.d (D.v
 (Value.string (SPub.set (List.getD (SRel.pubs r) (Int.toNat i7) pub0)))))] then (bif decide (ix [AV.c (C.d (D.sl ((1 : Nat)) n1 f1)), AV.c (C.d (D.v (Value.string (SPub.set
 (List.getD (SRel.pubs r) (Int.toNat i7) pub0)))))] ≥ (0 : Int)) then some (T.leaf (AV.c (C.d (D.v (Value.int IntKind.i64 (8 : Int)))), [])) else (bif !within (SPub.fst (List.getD
 (SRel.pubs r) (Int.toNat i7) pub0)) (1 : Int) (100 : Int) then some (T.leaf (AV.c (C.d (D.v (Value.int IntKind.i64 (2 : Int)))), [])) else (bif !within (SPub.max (List.getD
 (SRel.pubs r) (Int.toNat i7) pub0)) (SPub.fst (List.getD (SRel.pubs r) (Int.toNat i7) pub0)) (1000 : Int) then some (T.leaf (AV.c (C.d (D.v (Value.int IntKind.i64 (2 : Int)))), []))
 else (bif decide ((n1 + (1 : Nat)) * (16 : Nat) ≤ (140737488355328 : Nat)) && decide (n1 + (1 : Nat) ≤ (9223372036854775807 : Nat)) then L93_18 nk oki ix r g m (n1 + (1 : Nat))
 (appF n1 f1 (chunk [dS (SPub.set (List.getD (SRel.pubs r) (Int.toNat i7) pub0))] ((0 : Nat) + (1 : Nat)))) (IntKind.wrap IntKind.i64 (i7 + (1 : Int))) else none)))) else none)) else
 none) else L93_30 nk oki ix r g g (0 : Nat) (fun x => []) ((0 : Int))) := by kernel_rfl
set_option maxRecDepth 100000 in
theorem st93_30 (nk : ByteArray → Bool) (oki : List AV → Bool) (ix : List AV → Int) (r : SRel) (g m : Nat) (n1 : Nat) (f1 : Nat → List D) (i9 : Int) : L93_30 nk oki ix r g (m + 1) n1 f1 i9 =
 (bif decide (i9 < (↑(List.length (SRel.subs r)) : Int)) then (bif decide ((0 : Int) ≤ i9) && decide (i9 < (↑(List.length (SRel.subs r)) : Int)) then (bif !nk (SSub.loc (List.getD
 (SRel.subs r) (Int.toNat i9) sub0)) then some (T.leaf (AV.c (C.d (D.v (Value.int IntKind.i64 (7 : Int)))), [])) else (bif !nk (SSub.dev (List.getD (SRel.subs r) (Int.toNat i9)
 sub0)) then some (T.leaf (AV.c (C.d (D.v (Value.int IntKind.i64 (7 : Int)))), [])) else (bif !nk (SSub.set (List.getD (SRel.subs r) (Int.toNat i9) sub0)) then some (T.leaf (AV.c
 (C.d (D.v (Value.int IntKind.i64 (7 : Int)))), [])) else (bif !nk (SSub.sig (List.getD (SRel.subs r) (Int.toNat i9) sub0)) then some (T.leaf (AV.c (C.d (D.v (Value.int IntKind.i64
 (7 : Int)))), [])) else (bif oki [AV.c (C.d (D.sl ((1 : Nat)) n1 f1)), AV.c (C.d (D.v (Value.string (SSub.loc (List.getD (SRel.subs r) (Int.toNat i9) sub0)))))] then (bif decide (ix
 [AV.c (C.d (D.sl ((1 : Nat)) n1 f1)), AV.c (C.d (D.v (Value.string (SSub.loc (List.getD (SRel.subs r) (Int.toNat i9) sub0)))))] ≥ (0 : Int)) then some (T.leaf (AV.c (C.d (D.v
 (Value.int IntKind.i64 (8 : Int)))), [])) else (bif decide ((n1 + (1 : Nat)) * (16 : Nat) ≤ (140737488355328 : Nat)) && decide (n1 + (1 : Nat) ≤ (9223372036854775807 : Nat)) then
 L93_30 nk oki ix r g m (n1 + (1 : Nat)) (appF n1 f1 (chunk [dS (SSub.loc (List.getD (SRel.subs r) (Int.toNat i9) sub0))] ((0 : Nat) + (1 : Nat)))) (IntKind.wrap IntKind.i64 (i9 + (1
 : Int))) else none)) else none))))) else none) else some (T.leaf (AV.c (C.d (D.v (Value.int IntKind.i64 (0 : Int)))), []))) := by kernel_rfl
end Go.Proofs.YtngoglhlhlfknaaGreat.se
namespace Go.Proofs.YtngoglhlhlfknaaGreat.st
open Go.RowKit Go.Eb
set_option maxRecDepth 100000

noncomputable def oBe : Orc := Orc.cons 45 (inl Tryz.prog Orc.nil na 1 Tryz.f45) Orc.nil
noncomputable def oOh : Orc := Orc.cons 22 (inl Tryz.prog oBe na 1 Tryz.f22) oBe
noncomputable def ann49 : Ann := annOf []
theorem b49 : Tryz.f47.body = some (bodyOf Tryz.f47) := by kernel_rfl
set_option maxRecDepth 100000 in
theorem ev49 (x : SBay) (g : Nat) : callC Tryz.prog oOh ann49 g Tryz.f47 (bodyOf Tryz.f47) [aBay x] [] =
 (bif SBay.kind x == (1 : Int) then (bif decide (SBay.fin x ≥ (0 : Int)) then (bif !decide (SBay.fin x ≤ (1 : Int)) then some (T.leaf (AV.c (C.d (D.v (Value.bool false))), [])) else
 (bif !SBay.kind x == (1 : Int) then (bif SBay.fin x != (0 : Int) then some (T.leaf (AV.c (C.d (D.v (Value.bool false))), [])) else (bif SBay.kind x == (3 : Int) then (bif decide
 (SBay.zr x ≥ (0 : Int)) then (bif decide (SBay.zr x ≤ (1000 : Int)) then (bif decide (SBay.zx x ≥ (1 : Int)) then (bif !decide (SBay.zx x ≤ (1000 : Int)) then some (T.leaf (AV.c
 (C.d (D.v (Value.bool false))), [])) else (bif !SBay.kind x == (3 : Int) then (bif !(SBay.zr x == (0 : Int) && (SBay.zx x == (0 : Int) && true)) then some (T.leaf (AV.c (C.d (D.v
 (Value.bool false))), [])) else (bif decide (SBay.ct x ≥ (1 : Int)) then (bif !decide (SBay.ct x ≤ (100 : Int)) then some (T.leaf (AV.c (C.d (D.v (Value.bool false))), [])) else
 (bif SBay.kind x == (3 : Int) then (bif SBay.vt x != (0 : Int) then some (T.leaf (AV.c (C.d (D.v (Value.bool false))), [])) else (bif !SBay.kind x == (3 : Int) then (bif decide
 (SBay.vt x ≥ (1 : Int)) then (bif !decide (SBay.vt x ≤ (10000 : Int)) then some (T.leaf (AV.c (C.d (D.v (Value.bool false))), [])) else (bif decide (SBay.sat x ≥ (0 : Int)) then
 (bif decide (SBay.sat x ≤ (16383 : Int)) then (bif decide (SBay.travel x ≥ (1 : Int)) then some (T.leaf (AV.c (C.d (D.v (Value.bool (decide (SBay.travel x ≤ (6 : Int)))))), []))
 else some (T.leaf (AV.c (C.d (D.v (Value.bool false))), []))) else some (T.leaf (AV.c (C.d (D.v (Value.bool false))), []))) else some (T.leaf (AV.c (C.d (D.v (Value.bool false))),
 [])))) else some (T.leaf (AV.c (C.d (D.v (Value.bool false))), []))) else (bif decide (SBay.sat x ≥ (0 : Int)) then (bif decide (SBay.sat x ≤ (16383 : Int)) then (bif decide
 (SBay.travel x ≥ (1 : Int)) then some (T.leaf (AV.c (C.d (D.v (Value.bool (decide (SBay.travel x ≤ (6 : Int)))))), [])) else some (T.leaf (AV.c (C.d (D.v (Value.bool false))), [])))
 else some (T.leaf (AV.c (C.d (D.v (Value.bool false))), []))) else some (T.leaf (AV.c (C.d (D.v (Value.bool false))), []))))) else (bif !SBay.kind x == (3 : Int) then (bif decide
 (SBay.vt x ≥ (1 : Int)) then (bif !decide (SBay.vt x ≤ (10000 : Int)) then some (T.leaf (AV.c (C.d (D.v (Value.bool false))), [])) else (bif decide (SBay.sat x ≥ (0 : Int)) then
 (bif decide (SBay.sat x ≤ (16383 : Int)) then (bif decide (SBay.travel x ≥ (1 : Int)) then some (T.leaf (AV.c (C.d (D.v (Value.bool (decide (SBay.travel x ≤ (6 : Int)))))), []))
 else some (T.leaf (AV.c (C.d (D.v (Value.bool false))), []))) else some (T.leaf (AV.c (C.d (D.v (Value.bool false))), []))) else some (T.leaf (AV.c (C.d (D.v (Value.bool false))),
 [])))) else some (T.leaf (AV.c (C.d (D.v (Value.bool false))), []))) else (bif decide (SBay.sat x ≥ (0 : Int)) then (bif decide (SBay.sat x ≤ (16383 : Int)) then (bif decide
 (SBay.travel x ≥ (1 : Int)) then some (T.leaf (AV.c (C.d (D.v (Value.bool (decide (SBay.travel x ≤ (6 : Int)))))), [])) else some (T.leaf (AV.c (C.d (D.v (Value.bool false))), [])))
 else some (T.leaf (AV.c (C.d (D.v (Value.bool false))), []))) else some (T.leaf (AV.c (C.d (D.v (Value.bool false))), [])))))) else some (T.leaf (AV.c (C.d (D.v (Value.bool
 false))), [])))) else (bif decide (SBay.ct x ≥ (1 : Int)) then (bif !decide (SBay.ct x ≤ (100 : Int)) then some (T.leaf (AV.c (C.d (D.v (Value.bool false))), [])) else (bif
 SBay.kind x == (3 : Int) then (bif SBay.vt x != (0 : Int) then some (T.leaf (AV.c (C.d (D.v (Value.bool false))), [])) else (bif !SBay.kind x == (3 : Int) then (bif decide (SBay.vt
 x ≥ (1 : Int)) then (bif !decide (SBay.vt x ≤ (10000 : Int)) then some (T.leaf (AV.c (C.d (D.v (Value.bool false))), [])) else (bif decide (SBay.sat x ≥ (0 : Int)) then (bif decide
 (SBay.sat x ≤ (16383 : Int)) then (bif decide (SBay.travel x ≥ (1 : Int)) then some (T.leaf (AV.c (C.d (D.v (Value.bool (decide (SBay.travel x ≤ (6 : Int)))))), [])) else some
 (T.leaf (AV.c (C.d (D.v (Value.bool false))), []))) else some (T.leaf (AV.c (C.d (D.v (Value.bool false))), []))) else some (T.leaf (AV.c (C.d (D.v (Value.bool false))), [])))) else
 some (T.leaf (AV.c (C.d (D.v (Value.bool false))), []))) else (bif decide (SBay.sat x ≥ (0 : Int)) then (bif decide (SBay.sat x ≤ (16383 : Int)) then (bif decide (SBay.travel x ≥ (1
 : Int)) then some (T.leaf (AV.c (C.d (D.v (Value.bool (decide (SBay.travel x ≤ (6 : Int)))))), [])) else some (T.leaf (AV.c (C.d (D.v (Value.bool false))), []))) else some (T.leaf
 (AV.c (C.d (D.v (Value.bool false))), []))) else some (T.leaf (AV.c (C.d (D.v (Value.bool false))), []))))) else (bif !SBay.kind x == (3 : Int) then (bif decide (SBay.vt x ≥ (1 :
 Int)) then (bif !decide (SBay.vt x ≤ (10000 : Int)) then some (T.leaf (AV.c (C.d (D.v (Value.bool false))), [])) else (bif decide (SBay.sat x ≥ (0 : Int)) then (bif decide (SBay.sat
 x ≤ (16383 : Int)) then (bif decide (SBay.travel x ≥ (1 : Int)) then some (T.leaf (AV.c (C.d (D.v (Value.bool (decide (SBay.travel x ≤ (6 : Int)))))), [])) else some (T.leaf (AV.c
 (C.d (D.v (Value.bool false))), []))) else some (T.leaf (AV.c (C.d (D.v (Value.bool false))), []))) else some (T.leaf (AV.c (C.d (D.v (Value.bool false))), [])))) else some (T.leaf
 (AV.c (C.d (D.v (Value.bool false))), []))) else (bif decide (SBay.sat x ≥ (0 : Int)) then (bif decide (SBay.sat x ≤ (16383 : Int)) then (bif decide (SBay.travel x ≥ (1 : Int)) then
 some (T.leaf (AV.c (C.d (D.v (Value.bool (decide (SBay.travel x ≤ (6 : Int)))))), [])) else some (T.leaf (AV.c (C.d (D.v (Value.bool false))), []))) else some (T.leaf (AV.c (C.d
 (D.v (Value.bool false))), []))) else some (T.leaf (AV.c (C.d (D.v (Value.bool false))), [])))))) else some (T.leaf (AV.c (C.d (D.v (Value.bool false))), []))))) else some (T.leaf
 (AV.c (C.d (D.v (Value.bool false))), []))) else some (T.leaf (AV.c (C.d (D.v (Value.bool false))), []))) else some (T.leaf (AV.c (C.d (D.v (Value.bool false))), []))) else (bif
 !SBay.kind x == (3 : Int) then (bif !(SBay.zr x == (0 : Int) && (SBay.zx x == (0 : Int) && true)) then some (T.leaf (AV.c (C.d (D.v (Value.bool false))), [])) else (bif decide
 (SBay.ct x ≥ (1 : Int)) then (bif !decide (SBay.ct x ≤ (100 : Int)) then some (T.leaf (AV.c (C.d (D.v (Value.bool false))), [])) else (bif SBay.kind x == (3 : Int) then (bif SBay.vt
 x != (0 : Int) then some (T.leaf (AV.c (C.d (D.v (Value.bool false))), [])) else (bif !SBay.kind x == (3 : Int) then (bif decide (SBay.vt x ≥ (1 : Int)) then (bif !decide (SBay.vt x
 ≤ (10000 : Int)) then some (T.leaf (AV.c (C.d (D.v (Value.bool false))), [])) else (bif decide (SBay.sat x ≥ (0 : Int)) then (bif decide (SBay.sat x ≤ (16383 : Int)) then (bif
 decide (SBay.travel x ≥ (1 : Int)) then some (T.leaf (AV.c (C.d (D.v (Value.bool (decide (SBay.travel x ≤ (6 : Int)))))), [])) else some (T.leaf (AV.c (C.d (D.v (Value.bool
 false))), []))) else some (T.leaf (AV.c (C.d (D.v (Value.bool false))), []))) else some (T.leaf (AV.c (C.d (D.v (Value.bool false))), [])))) else some (T.leaf (AV.c (C.d (D.v
 (Value.bool false))), []))) else (bif decide (SBay.sat x ≥ (0 : Int)) then (bif decide (SBay.sat x ≤ (16383 : Int)) then (bif decide (SBay.travel x ≥ (1 : Int)) then some (T.leaf
 (AV.c (C.d (D.v (Value.bool (decide (SBay.travel x ≤ (6 : Int)))))), [])) else some (T.leaf (AV.c (C.d (D.v (Value.bool false))), []))) else some (T.leaf (AV.c (C.d (D.v (Value.bool
 false))), []))) else some (T.leaf (AV.c (C.d (D.v (Value.bool false))), []))))) else (bif !SBay.kind x == (3 : Int) then (bif decide (SBay.vt x ≥ (1 : Int)) then (bif !decide
 (SBay.vt x ≤ (10000 : Int)) then some (T.leaf (AV.c (C.d (D.v (Value.bool false))), [])) else (bif decide (SBay.sat x ≥ (0 : Int)) then (bif decide (SBay.sat x ≤ (16383 : Int)) then
 (bif decide (SBay.travel x ≥ (1 : Int)) then some (T.leaf (AV.c (C.d (D.v (Value.bool (decide (SBay.travel x ≤ (6 : Int)))))), [])) else some (T.leaf (AV.c (C.d (D.v (Value.bool
 false))), []))) else some (T.leaf (AV.c (C.d (D.v (Value.bool false))), []))) else some (T.leaf (AV.c (C.d (D.v (Value.bool false))), [])))) else some (T.leaf (AV.c (C.d (D.v
 (Value.bool false))), []))) else (bif decide (SBay.sat x ≥ (0 : Int)) then (bif decide (SBay.sat x ≤ (16383 : Int)) then (bif decide (SBay.travel x ≥ (1 : Int)) then some (T.leaf
 (AV.c (C.d (D.v (Value.bool (decide (SBay.travel x ≤ (6 : Int)))))), [])) else some (T.leaf (AV.c (C.d (D.v (Value.bool false))), []))) else some (T.leaf (AV.c (C.d (D.v (Value.bool
 false))), []))) else some (T.leaf (AV.c (C.d (D.v (Value.bool false))), [])))))) else some (T.leaf (AV.c (C.d (D.v (Value.bool false))), [])))) else (bif decide (SBay.ct x ≥ (1 :
 Int)) then (bif !decide (SBay.ct x ≤ (100 : Int)) then some (T.leaf (AV.c (C.d (D.v (Value.bool false))), [])) else (bif SBay.kind x == (3 : Int) then (bif SBay.vt x != (0 : Int)
 then some (T.leaf (AV.c (C.d (D.v (Value.bool false))), [])) else (bif !SBay.kind x == (3 : Int) then (bif decide (SBay.vt x ≥ (1 : Int)) then (bif !decide (SBay.vt x ≤ (10000 :
 Int)) then some (T.leaf (AV.c (C.d (D.v (Value.bool false))), [])) else (bif decide (SBay.sat x ≥ (0 : Int)) then (bif decide (SBay.sat x ≤ (16383 : Int)) then (bif decide
 (SBay.travel x ≥ (1 : Int)) then some (T.leaf (AV.c (C.d (D.v (Value.bool (decide (SBay.travel x ≤ (6 : Int)))))), [])) else some (T.leaf (AV.c (C.d (D.v (Value.bool false))), [])))
 else some (T.leaf (AV.c (C.d (D.v (Value.bool false))), []))) else some (T.leaf (AV.c (C.d (D.v (Value.bool false))), [])))) else some (T.leaf (AV.c (C.d (D.v (Value.bool false))),
 []))) else (bif decide (SBay.sat x ≥ (0 : Int)) then (bif decide (SBay.sat x ≤ (16383 : Int)) then (bif decide (SBay.travel x ≥ (1 : Int)) then some (T.leaf (AV.c (C.d (D.v
 (Value.bool (decide (SBay.travel x ≤ (6 : Int)))))), [])) else some (T.leaf (AV.c (C.d (D.v (Value.bool false))), []))) else some (T.leaf (AV.c (C.d (D.v (Value.bool false))), [])))
 else some (T.leaf (AV.c (C.d (D.v (Value.bool false))), []))))) else (bif !SBay.kind x == (3 : Int) then (bif decide (SBay.vt x ≥ (1 : Int)) then (bif !decide (SBay.vt x ≤ (10000 :
 Int)) then some (T.leaf (AV.c (C.d (D.v (Value.bool false))), [])) else (bif decide (SBay.sat x ≥ (0 : Int)) then (bif decide (SBay.sat x ≤ (16383 : Int)) then (bif decide
 (SBay.travel x ≥ (1 : Int)) then some (T.leaf (AV.c (C.d (D.v (Value.bool (decide (SBay.travel x ≤ (6 : Int)))))), [])) else some (T.leaf (AV.c (C.d (D.v (Value.bool false))), [])))
 else some (T.leaf (AV.c (C.d (D.v (Value.bool false))), []))) else some (T.leaf (AV.c (C.d (D.v (Value.bool false))), [])))) else some (T.leaf (AV.c (C.d (D.v (Value.bool false))),
 []))) else (bif decide (SBay.sat x ≥ (0 : Int)) then (bif decide (SBay.sat x ≤ (16383 : Int)) then (bif decide (SBay.travel x ≥ (1 : Int)) then some (T.leaf (AV.c (C.d (D.v
 (Value.bool (decide (SBay.travel x ≤ (6 : Int)))))), [])) else some (T.leaf (AV.c (C.d (D.v (Value.bool false))), []))) else some (T.leaf (AV.c (C.d (D.v (Value.bool false))), [])))
 else some (T.leaf (AV.c (C.d (D.v (Value.bool false))), [])))))) else some (T.leaf (AV.c (C.d (D.v (Value.bool false))), [])))))) else (bif SBay.kind x == (3 : Int) then (bif decide
 (SBay.zr x ≥ (0 : Int)) then (bif decide (SBay.zr x ≤ (1000 : Int)) then (bif decide (SBay.zx x ≥ (1 : Int)) then (bif !decide (SBay.zx x ≤ (1000 : Int)) then some (T.leaf (AV.c
 (C.d (D.v (Value.bool false))), [])) else (bif !SBay.kind x == (3 : Int) then (bif !(SBay.zr x == (0 : Int) && (SBay.zx x == (0 : Int) && true)) then some (T.leaf (AV.c (C.d (D.v
 (Value.bool false))), [])) else (bif decide (SBay.ct x ≥ (1 : Int)) then (bif !decide (SBay.ct x ≤ (100 : Int)) then some (T.leaf (AV.c (C.d (D.v (Value.bool false))), [])) else
 (bif SBay.kind x == (3 : Int) then (bif SBay.vt x != (0 : Int) then some (T.leaf (AV.c (C.d (D.v (Value.bool false))), [])) else (bif !SBay.kind x == (3 : Int) then (bif decide
 (SBay.vt x ≥ (1 : Int)) then (bif !decide (SBay.vt x ≤ (10000 : Int)) then some (T.leaf (AV.c (C.d (D.v (Value.bool false))), [])) else (bif decide (SBay.sat x ≥ (0 : Int)) then
 (bif decide (SBay.sat x ≤ (16383 : Int)) then (bif decide (SBay.travel x ≥ (1 : Int)) then some (T.leaf (AV.c (C.d (D.v (Value.bool (decide (SBay.travel x ≤ (6 : Int)))))), []))
 else some (T.leaf (AV.c (C.d (D.v (Value.bool false))), []))) else some (T.leaf (AV.c (C.d (D.v (Value.bool false))), []))) else some (T.leaf (AV.c (C.d (D.v (Value.bool false))),
 [])))) else some (T.leaf (AV.c (C.d (D.v (Value.bool false))), []))) else (bif decide (SBay.sat x ≥ (0 : Int)) then (bif decide (SBay.sat x ≤ (16383 : Int)) then (bif decide
 (SBay.travel x ≥ (1 : Int)) then some (T.leaf (AV.c (C.d (D.v (Value.bool (decide (SBay.travel x ≤ (6 : Int)))))), [])) else some (T.leaf (AV.c (C.d (D.v (Value.bool false))), [])))
 else some (T.leaf (AV.c (C.d (D.v (Value.bool false))), []))) else some (T.leaf (AV.c (C.d (D.v (Value.bool false))), []))))) else (bif !SBay.kind x == (3 : Int) then (bif decide
 (SBay.vt x ≥ (1 : Int)) then (bif !decide (SBay.vt x ≤ (10000 : Int)) then some (T.leaf (AV.c (C.d (D.v (Value.bool false))), [])) else (bif decide (SBay.sat x ≥ (0 : Int)) then
 (bif decide (SBay.sat x ≤ (16383 : Int)) then (bif decide (SBay.travel x ≥ (1 : Int)) then some (T.leaf (AV.c (C.d (D.v (Value.bool (decide (SBay.travel x ≤ (6 : Int)))))), []))
 else some (T.leaf (AV.c (C.d (D.v (Value.bool false))), []))) else some (T.leaf (AV.c (C.d (D.v (Value.bool false))), []))) else some (T.leaf (AV.c (C.d (D.v (Value.bool false))),
 [])))) else some (T.leaf (AV.c (C.d (D.v (Value.bool false))), []))) else (bif decide (SBay.sat x ≥ (0 : Int)) then (bif decide (SBay.sat x ≤ (16383 : Int)) then (bif decide
 (SBay.travel x ≥ (1 : Int)) then some (T.leaf (AV.c (C.d (D.v (Value.bool (decide (SBay.travel x ≤ (6 : Int)))))), [])) else some (T.leaf (AV.c (C.d (D.v (Value.bool false))), [])))
 else some (T.leaf (AV.c (C.d (D.v (Value.bool false))), []))) else some (T.leaf (AV.c (C.d (D.v (Value.bool false))), [])))))) else some (T.leaf (AV.c (C.d (D.v (Value.bool
 false))), [])))) else (bif decide (SBay.ct x ≥ (1 : Int)) then (bif !decide (SBay.ct x ≤ (100 : Int)) then some (T.leaf (AV.c (C.d (D.v (Value.bool false))), [])) else (bif
 SBay.kind x == (3 : Int) then (bif SBay.vt x != (0 : Int) then some (T.leaf (AV.c (C.d (D.v (Value.bool false))), [])) else (bif !SBay.kind x == (3 : Int) then (bif decide (SBay.vt
 x ≥ (1 : Int)) then (bif !decide (SBay.vt x ≤ (10000 : Int)) then some (T.leaf (AV.c (C.d (D.v (Value.bool false))), [])) else (bif decide (SBay.sat x ≥ (0 : Int)) then (bif decide
 (SBay.sat x ≤ (16383 : Int)) then (bif decide (SBay.travel x ≥ (1 : Int)) then some (T.leaf (AV.c (C.d (D.v (Value.bool (decide (SBay.travel x ≤ (6 : Int)))))), [])) else some
 (T.leaf (AV.c (C.d (D.v (Value.bool false))), []))) else some (T.leaf (AV.c (C.d (D.v (Value.bool false))), []))) else some (T.leaf (AV.c (C.d (D.v (Value.bool false))), [])))) else
 some (T.leaf (AV.c (C.d (D.v (Value.bool false))), []))) else (bif decide (SBay.sat x ≥ (0 : Int)) then (bif decide (SBay.sat x ≤ (16383 : Int)) then (bif decide (SBay.travel x ≥ (1
 : Int)) then some (T.leaf (AV.c (C.d (D.v (Value.bool (decide (SBay.travel x ≤ (6 : Int)))))), [])) else some (T.leaf (AV.c (C.d (D.v (Value.bool false))), []))) else some (T.leaf
 (AV.c (C.d (D.v (Value.bool false))), []))) else some (T.leaf (AV.c (C.d (D.v (Value.bool false))), []))))) else (bif !SBay.kind x == (3 : Int) then (bif decide (SBay.vt x ≥ (1 :
 Int)) then (bif !decide (SBay.vt x ≤ (10000 : Int)) then some (T.leaf (AV.c (C.d (D.v (Value.bool false))), [])) else (bif decide (SBay.sat x ≥ (0 : Int)) then (bif decide (SBay.sat
 x ≤ (16383 : Int)) then (bif decide (SBay.travel x ≥ (1 : Int)) then some (T.leaf (AV.c (C.d (D.v (Value.bool (decide (SBay.travel x ≤ (6 : Int)))))), [])) else some (T.leaf (AV.c
 (C.d (D.v (Value.bool false))), []))) else some (T.leaf (AV.c (C.d (D.v (Value.bool false))), []))) else some (T.leaf (AV.c (C.d (D.v (Value.bool false))), [])))) else some (T.leaf
 (AV.c (C.d (D.v (Value.bool false))), []))) else (bif decide (SBay.sat x ≥ (0 : Int)) then (bif decide (SBay.sat x ≤ (16383 : Int)) then (bif decide (SBay.travel x ≥ (1 : Int)) then
 some (T.leaf (AV.c (C.d (D.v (Value.bool (decide (SBay.travel x ≤ (6 : Int)))))), [])) else some (T.leaf (AV.c (C.d (D.v (Value.bool false))), []))) else some (T.leaf (AV.c (C.d
 (D.v (Value.bool false))), []))) else some (T.leaf (AV.c (C.d (D.v (Value.bool false))), [])))))) else some (T.leaf (AV.c (C.d (D.v (Value.bool false))), []))))) else some (T.leaf
 (AV.c (C.d (D.v (Value.bool false))), []))) else some (T.leaf (AV.c (C.d (D.v (Value.bool false))), []))) else some (T.leaf (AV.c (C.d (D.v (Value.bool false))), []))) else (bif
 !SBay.kind x == (3 : Int) then (bif !(SBay.zr x == (0 : Int) && (SBay.zx x == (0 : Int) && true)) then some (T.leaf (AV.c (C.d (D.v (Value.bool false))), [])) else (bif decide
 (SBay.ct x ≥ (1 : Int)) then (bif !decide (SBay.ct x ≤ (100 : Int)) then some (T.leaf (AV.c (C.d (D.v (Value.bool false))), [])) else (bif SBay.kind x == (3 : Int) then (bif SBay.vt
 x != (0 : Int) then some (T.leaf (AV.c (C.d (D.v (Value.bool false))), [])) else (bif !SBay.kind x == (3 : Int) then (bif decide (SBay.vt x ≥ (1 : Int)) then (bif !decide (SBay.vt x
 ≤ (10000 : Int)) then some (T.leaf (AV.c (C.d (D.v (Value.bool false))), [])) else (bif decide (SBay.sat x ≥ (0 : Int)) then (bif decide (SBay.sat x ≤ (16383 : Int)) then (bif
 decide (SBay.travel x ≥ (1 : Int)) then some (T.leaf (AV.c (C.d (D.v (Value.bool (decide (SBay.travel x ≤ (6 : Int)))))), [])) else some (T.leaf (AV.c (C.d (D.v (Value.bool
 false))), []))) else some (T.leaf (AV.c (C.d (D.v (Value.bool false))), []))) else some (T.leaf (AV.c (C.d (D.v (Value.bool false))), [])))) else some (T.leaf (AV.c (C.d (D.v
 (Value.bool false))), []))) else (bif decide (SBay.sat x ≥ (0 : Int)) then (bif decide (SBay.sat x ≤ (16383 : Int)) then (bif decide (SBay.travel x ≥ (1 : Int)) then some (T.leaf
 (AV.c (C.d (D.v (Value.bool (decide (SBay.travel x ≤ (6 : Int)))))), [])) else some (T.leaf (AV.c (C.d (D.v (Value.bool false))), []))) else some (T.leaf (AV.c (C.d (D.v (Value.bool
 false))), []))) else some (T.leaf (AV.c (C.d (D.v (Value.bool false))), []))))) else (bif !SBay.kind x == (3 : Int) then (bif decide (SBay.vt x ≥ (1 : Int)) then (bif !decide
 (SBay.vt x ≤ (10000 : Int)) then some (T.leaf (AV.c (C.d (D.v (Value.bool false))), [])) else (bif decide (SBay.sat x ≥ (0 : Int)) then (bif decide (SBay.sat x ≤ (16383 : Int)) then
 (bif decide (SBay.travel x ≥ (1 : Int)) then some (T.leaf (AV.c (C.d (D.v (Value.bool (decide (SBay.travel x ≤ (6 : Int)))))), [])) else some (T.leaf (AV.c (C.d (D.v (Value.bool
 false))), []))) else some (T.leaf (AV.c (C.d (D.v (Value.bool false))), []))) else some (T.leaf (AV.c (C.d (D.v (Value.bool false))), [])))) else some (T.leaf (AV.c (C.d (D.v
 (Value.bool false))), []))) else (bif decide (SBay.sat x ≥ (0 : Int)) then (bif decide (SBay.sat x ≤ (16383 : Int)) then (bif decide (SBay.travel x ≥ (1 : Int)) then some (T.leaf
 (AV.c (C.d (D.v (Value.bool (decide (SBay.travel x ≤ (6 : Int)))))), [])) else some (T.leaf (AV.c (C.d (D.v (Value.bool false))), []))) else some (T.leaf (AV.c (C.d (D.v (Value.bool
 false))), []))) else some (T.leaf (AV.c (C.d (D.v (Value.bool false))), [])))))) else some (T.leaf (AV.c (C.d (D.v (Value.bool false))), [])))) else (bif decide (SBay.ct x ≥ (1 :
 Int)) then (bif !decide (SBay.ct x ≤ (100 : Int)) then some (T.leaf (AV.c (C.d (D.v (Value.bool false))), [])) else (bif SBay.kind x == (3 : Int) then (bif SBay.vt x != (0 : Int)
 then some (T.leaf (AV.c (C.d (D.v (Value.bool false))), [])) else (bif !SBay.kind x == (3 : Int) then (bif decide (SBay.vt x ≥ (1 : Int)) then (bif !decide (SBay.vt x ≤ (10000 :
 Int)) then some (T.leaf (AV.c (C.d (D.v (Value.bool false))), [])) else (bif decide (SBay.sat x ≥ (0 : Int)) then (bif decide (SBay.sat x ≤ (16383 : Int)) then (bif decide
 (SBay.travel x ≥ (1 : Int)) then some (T.leaf (AV.c (C.d (D.v (Value.bool (decide (SBay.travel x ≤ (6 : Int)))))), [])) else some (T.leaf (AV.c (C.d (D.v (Value.bool false))), [])))
 else some (T.leaf (AV.c (C.d (D.v (Value.bool false))), []))) else some (T.leaf (AV.c (C.d (D.v (Value.bool false))), [])))) else some (T.leaf (AV.c (C.d (D.v (Value.bool false))),
 []))) else (bif decide (SBay.sat x ≥ (0 : Int)) then (bif decide (SBay.sat x ≤ (16383 : Int)) then (bif decide (SBay.travel x ≥ (1 : Int)) then some (T.leaf (AV.c (C.d (D.v
 (Value.bool (decide (SBay.travel x ≤ (6 : Int)))))), [])) else some (T.leaf (AV.c (C.d (D.v (Value.bool false))), []))) else some (T.leaf (AV.c (C.d (D.v (Value.bool false))), [])))
 else some (T.leaf (AV.c (C.d (D.v (Value.bool false))), []))))) else (bif !SBay.kind x == (3 : Int) then (bif decide (SBay.vt x ≥ (1 : Int)) then (bif !decide (SBay.vt x ≤ (10000 :
 Int)) then some (T.leaf (AV.c (C.d (D.v (Value.bool false))), [])) else (bif decide (SBay.sat x ≥ (0 : Int)) then (bif decide (SBay.sat x ≤ (16383 : Int)) then (bif decide
 (SBay.travel x ≥ (1 : Int)) then some (T.leaf (AV.c (C.d (D.v (Value.bool (decide (SBay.travel x ≤ (6 : Int)))))), [])) else some (T.leaf (AV.c (C.d (D.v (Value.bool false))), [])))
 else some (T.leaf (AV.c (C.d (D.v (Value.bool false))), []))) else some (T.leaf (AV.c (C.d (D.v (Value.bool false))), [])))) else some (T.leaf (AV.c (C.d (D.v (Value.bool false))),
 []))) else (bif decide (SBay.sat x ≥ (0 : Int)) then (bif decide (SBay.sat x ≤ (16383 : Int)) then (bif decide (SBay.travel x ≥ (1 : Int)) then some (T.leaf (AV.c (C.d (D.v
 (Value.bool (decide (SBay.travel x ≤ (6 : Int)))))), [])) else some (T.leaf (AV.c (C.d (D.v (Value.bool false))), []))) else some (T.leaf (AV.c (C.d (D.v (Value.bool false))), [])))
 else some (T.leaf (AV.c (C.d (D.v (Value.bool false))), [])))))) else some (T.leaf (AV.c (C.d (D.v (Value.bool false))), []))))))) else some (T.leaf (AV.c (C.d (D.v (Value.bool
 false))), []))) else (bif !SBay.kind x == (1 : Int) then (bif SBay.fin x != (0 : Int) then some (T.leaf (AV.c (C.d (D.v (Value.bool false))), [])) else (bif SBay.kind x == (3 : Int)
 then (bif decide (SBay.zr x ≥ (0 : Int)) then (bif decide (SBay.zr x ≤ (1000 : Int)) then (bif decide (SBay.zx x ≥ (1 : Int)) then (bif !decide (SBay.zx x ≤ (1000 : Int)) then some
 (T.leaf (AV.c (C.d (D.v (Value.bool false))), [])) else (bif !SBay.kind x == (3 : Int) then (bif !(SBay.zr x == (0 : Int) && (SBay.zx x == (0 : Int) && true)) then some (T.leaf
 (AV.c (C.d (D.v (Value.bool false))), [])) else (bif decide (SBay.ct x ≥ (1 : Int)) then (bif !decide (SBay.ct x ≤ (100 : Int)) then some (T.leaf (AV.c (C.d (D.v (Value.bool
 false))), [])) else (bif SBay.kind x == (3 : Int) then (bif SBay.vt x != (0 : Int) then some (T.leaf (AV.c (C.d (D.v (Value.bool false))), [])) else (bif !SBay.kind x == (3 : Int)
 then (bif decide (SBay.vt x ≥ (1 : Int)) then (bif !decide (SBay.vt x ≤ (10000 : Int)) then some (T.leaf (AV.c (C.d (D.v (Value.bool false))), [])) else (bif decide (SBay.sat x ≥ (0
 : Int)) then (bif decide (SBay.sat x ≤ (16383 : Int)) then (bif decide (SBay.travel x ≥ (1 : Int)) then some (T.leaf (AV.c (C.d (D.v (Value.bool (decide (SBay.travel x ≤ (6 :
 Int)))))), [])) else some (T.leaf (AV.c (C.d (D.v (Value.bool false))), []))) else some (T.leaf (AV.c (C.d (D.v (Value.bool false))), []))) else some (T.leaf (AV.c (C.d (D.v
 (Value.bool false))), [])))) else some (T.leaf (AV.c (C.d (D.v (Value.bool false))), []))) else (bif decide (SBay.sat x ≥ (0 : Int)) then (bif decide (SBay.sat x ≤ (16383 : Int))
 then (bif decide (SBay.travel x ≥ (1 : Int)) then some (T.leaf (AV.c (C.d (D.v (Value.bool (decide (SBay.travel x ≤ (6 : Int)))))), [])) else some (T.leaf (AV.c (C.d (D.v
 (Value.bool false))), []))) else some (T.leaf (AV.c (C.d (D.v (Value.bool false))), []))) else some (T.leaf (AV.c (C.d (D.v (Value.bool false))), []))))) else (bif !SBay.kind x ==
 (3 : Int) then (bif decide (SBay.vt x ≥ (1 : Int)) then (bif !decide (SBay.vt x ≤ (10000 : Int)) then some (T.leaf (AV.c (C.d (D.v (Value.bool false))), [])) else (bif decide
 (SBay.sat x ≥ (0 : Int)) then (bif decide (SBay.sat x ≤ (16383 : Int)) then (bif decide (SBay.travel x ≥ (1 : Int)) then some (T.leaf (AV.c (C.d (D.v (Value.bool (decide
 (SBay.travel x ≤ (6 : Int)))))), [])) else some (T.leaf (AV.c (C.d (D.v (Value.bool false))), []))) else some (T.leaf (AV.c (C.d (D.v (Value.bool false))), []))) else some (T.leaf
 (AV.c (C.d (D.v (Value.bool false))), [])))) else some (T.leaf (AV.c (C.d (D.v (Value.bool false))), []))) else (bif decide (SBay.sat x ≥ (0 : Int)) then (bif decide (SBay.sat x ≤
 (16383 : Int)) then (bif decide (SBay.travel x ≥ (1 : Int)) then some (T.leaf (AV.c (C.d (D.v (Value.bool (decide (SBay.travel x ≤ (6 : Int)))))), [])) else some (T.leaf (AV.c (C.d
 (D.v (Value.bool false))), []))) else some (T.leaf (AV.c (C.d (D.v (Value.bool false))), []))) else some (T.leaf (AV.c (C.d (D.v (Value.bool false))), [])))))) else some (T.leaf
 (AV.c (C.d (D.v (Value.bool false))), [])))) else (bif decide (SBay.ct x ≥ (1 : Int)) then (bif !decide (SBay.ct x ≤ (100 : Int)) then some (T.leaf (AV.c (C.d (D.v (Value.bool
 false))), [])) else (bif SBay.kind x == (3 : Int) then (bif SBay.vt x != (0 : Int) then some (T.leaf (AV.c (C.d (D.v (Value.bool false))), [])) else (bif !SBay.kind x == (3 : Int)
 then (bif decide (SBay.vt x ≥ (1 : Int)) then (bif !decide (SBay.vt x ≤ (10000 : Int)) then some (T.leaf (AV.c (C.d (D.v (Value.bool false))), [])) else (bif decide (SBay.sat x ≥ (0
 : Int)) then (bif decide (SBay.sat x ≤ (16383 : Int)) then (bif decide (SBay.travel x ≥ (1 : Int)) then some (T.leaf (AV.c (C.d (D.v (Value.bool (decide (SBay.travel x ≤ (6 :
 Int)))))), [])) else some (T.leaf (AV.c (C.d (D.v (Value.bool false))), []))) else some (T.leaf (AV.c (C.d (D.v (Value.bool false))), []))) else some (T.leaf (AV.c (C.d (D.v
 (Value.bool false))), [])))) else some (T.leaf (AV.c (C.d (D.v (Value.bool false))), []))) else (bif decide (SBay.sat x ≥ (0 : Int)) then (bif decide (SBay.sat x ≤ (16383 : Int))
 then (bif decide (SBay.travel x ≥ (1 : Int)) then some (T.leaf (AV.c (C.d (D.v (Value.bool (decide (SBay.travel x ≤ (6 : Int)))))), [])) else some (T.leaf (AV.c (C.d (D.v
 (Value.bool false))), []))) else some (T.leaf (AV.c (C.d (D.v (Value.bool false))), []))) else some (T.leaf (AV.c (C.d (D.v (Value.bool false))), []))))) else (bif !SBay.kind x ==
 (3 : Int) then (bif decide (SBay.vt x ≥ (1 : Int)) then (bif !decide (SBay.vt x ≤ (10000 : Int)) then some (T.leaf (AV.c (C.d (D.v (Value.bool false))), [])) else (bif decide
 (SBay.sat x ≥ (0 : Int)) then (bif decide (SBay.sat x ≤ (16383 : Int)) then (bif decide (SBay.travel x ≥ (1 : Int)) then some (T.leaf (AV.c (C.d (D.v (Value.bool (decide
 (SBay.travel x ≤ (6 : Int)))))), [])) else some (T.leaf (AV.c (C.d (D.v (Value.bool false))), []))) else some (T.leaf (AV.c (C.d (D.v (Value.bool false))), []))) else some (T.leaf
 (AV.c (C.d (D.v (Value.bool false))), [])))) else some (T.leaf (AV.c (C.d (D.v (Value.bool false))), []))) else (bif decide (SBay.sat x ≥ (0 : Int)) then (bif decide (SBay.sat x ≤
 (16383 : Int)) then (bif decide (SBay.travel x ≥ (1 : Int)) then some (T.leaf (AV.c (C.d (D.v (Value.bool (decide (SBay.travel x ≤ (6 : Int)))))), [])) else some (T.leaf (AV.c (C.d
 (D.v (Value.bool false))), []))) else some (T.leaf (AV.c (C.d (D.v (Value.bool false))), []))) else some (T.leaf (AV.c (C.d (D.v (Value.bool false))), [])))))) else some (T.leaf
 (AV.c (C.d (D.v (Value.bool false))), []))))) else some (T.leaf (AV.c (C.d (D.v (Value.bool false))), []))) else some (T.leaf (AV.c (C.d (D.v (Value.bool false))), []))) else some
 (T.leaf (AV.c (C.d (D.v (Value.bool false))), []))) else (bif !SBay.kind x == (3 : Int) then (bif !(SBay.zr x == (0 : Int) && (SBay.zx x == (0 : Int) && true)) then some (T.leaf
 (AV.c (C.d (D.v (Value.bool false))), [])) else (bif decide (SBay.ct x ≥ (1 : Int)) then (bif !decide (SBay.ct x ≤ (100 : Int)) then some (T.leaf (AV.c (C.d (D.v (Value.bool
 false))), [])) else (bif SBay.kind x == (3 : Int) then (bif SBay.vt x != (0 : Int) then some (T.leaf (AV.c (C.d (D.v (Value.bool false))), [])) else (bif !SBay.kind x == (3 : Int)
 then (bif decide (SBay.vt x ≥ (1 : Int)) then (bif !decide (SBay.vt x ≤ (10000 : Int)) then some (T.leaf (AV.c (C.d (D.v (Value.bool false))), [])) else (bif decide (SBay.sat x ≥ (0
 : Int)) then (bif decide (SBay.sat x ≤ (16383 : Int)) then (bif decide (SBay.travel x ≥ (1 : Int)) then some (T.leaf (AV.c (C.d (D.v (Value.bool (decide (SBay.travel x ≤ (6 :
 Int)))))), [])) else some (T.leaf (AV.c (C.d (D.v (Value.bool false))), []))) else some (T.leaf (AV.c (C.d (D.v (Value.bool false))), []))) else some (T.leaf (AV.c (C.d (D.v
 (Value.bool false))), [])))) else some (T.leaf (AV.c (C.d (D.v (Value.bool false))), []))) else (bif decide (SBay.sat x ≥ (0 : Int)) then (bif decide (SBay.sat x ≤ (16383 : Int))
 then (bif decide (SBay.travel x ≥ (1 : Int)) then some (T.leaf (AV.c (C.d (D.v (Value.bool (decide (SBay.travel x ≤ (6 : Int)))))), [])) else some (T.leaf (AV.c (C.d (D.v
 (Value.bool false))), []))) else some (T.leaf (AV.c (C.d (D.v (Value.bool false))), []))) else some (T.leaf (AV.c (C.d (D.v (Value.bool false))), []))))) else (bif !SBay.kind x ==
 (3 : Int) then (bif decide (SBay.vt x ≥ (1 : Int)) then (bif !decide (SBay.vt x ≤ (10000 : Int)) then some (T.leaf (AV.c (C.d (D.v (Value.bool false))), [])) else (bif decide
 (SBay.sat x ≥ (0 : Int)) then (bif decide (SBay.sat x ≤ (16383 : Int)) then (bif decide (SBay.travel x ≥ (1 : Int)) then some (T.leaf (AV.c (C.d (D.v (Value.bool (decide
 (SBay.travel x ≤ (6 : Int)))))), [])) else some (T.leaf (AV.c (C.d (D.v (Value.bool false))), []))) else some (T.leaf (AV.c (C.d (D.v (Value.bool false))), []))) else some (T.leaf
 (AV.c (C.d (D.v (Value.bool false))), [])))) else some (T.leaf (AV.c (C.d (D.v (Value.bool false))), []))) else (bif decide (SBay.sat x ≥ (0 : Int)) then (bif decide (SBay.sat x ≤
 (16383 : Int)) then (bif decide (SBay.travel x ≥ (1 : Int)) then some (T.leaf (AV.c (C.d (D.v (Value.bool (decide (SBay.travel x ≤ (6 : Int)))))), [])) else some (T.leaf (AV.c (C.d
 (D.v (Value.bool false))), []))) else some (T.leaf (AV.c (C.d (D.v (Value.bool false))), []))) else some (T.leaf (AV.c (C.d (D.v (Value.bool false))), [])))))) else some (T.leaf
 (AV.c (C.d (D.v (Value.bool false))), [])))) else (bif decide (SBay.ct x ≥ (1 : Int)) then (bif !decide (SBay.ct x ≤ (100 : Int)) then some (T.leaf (AV.c (C.d (D.v (Value.bool
 false))), [])) else (bif SBay.kind x == (3 : Int) then (bif SBay.vt x != (0 : Int) then some (T.leaf (AV.c (C.d (D.v (Value.bool false))), [])) else (bif !SBay.kind x == (3 : Int)
 then (bif decide (SBay.vt x ≥ (1 : Int)) then (bif !decide (SBay.vt x ≤ (10000 : Int)) then some (T.leaf (AV.c (C.d (D.v (Value.bool false))), [])) else (bif decide (SBay.sat x ≥ (0
 : Int)) then (bif decide (SBay.sat x ≤ (16383 : Int)) then (bif decide (SBay.travel x ≥ (1 : Int)) then some (T.leaf (AV.c (C.d (D.v (Value.bool (decide (SBay.travel x ≤ (6 :
 Int)))))), [])) else some (T.leaf (AV.c (C.d (D.v (Value.bool false))), []))) else some (T.leaf (AV.c (C.d (D.v (Value.bool false))), []))) else some (T.leaf (AV.c (C.d (D.v
 (Value.bool false))), [])))) else some (T.leaf (AV.c (C.d (D.v (Value.bool false))), []))) else (bif decide (SBay.sat x ≥ (0 : Int)) then (bif decide (SBay.sat x ≤ (16383 : Int))
 then (bif decide (SBay.travel x ≥ (1 : Int)) then some (T.leaf (AV.c (C.d (D.v (Value.bool (decide (SBay.travel x ≤ (6 : Int)))))), [])) else some (T.leaf (AV.c (C.d (D.v
 (Value.bool false))), []))) else some (T.leaf (AV.c (C.d (D.v (Value.bool false))), []))) else some (T.leaf (AV.c (C.d (D.v (Value.bool false))), []))))) else (bif !SBay.kind x ==
 (3 : Int) then (bif decide (SBay.vt x ≥ (1 : Int)) then (bif !decide (SBay.vt x ≤ (10000 : Int)) then some (T.leaf (AV.c (C.d (D.v (Value.bool false))), [])) else (bif decide
 (SBay.sat x ≥ (0 : Int)) then (bif decide (SBay.sat x ≤ (16383 : Int)) then (bif decide (SBay.travel x ≥ (1 : Int)) then some (T.leaf (AV.c (C.d (D.v (Value.bool (decide
 (SBay.travel x ≤ (6 : Int)))))), [])) else some (T.leaf (AV.c (C.d (D.v (Value.bool false))), []))) else some (T.leaf (AV.c (C.d (D.v (Value.bool false))), []))) else some (T.leaf
 (AV.c (C.d (D.v (Value.bool false))), [])))) else some (T.leaf (AV.c (C.d (D.v (Value.bool false))), []))) else (bif decide (SBay.sat x ≥ (0 : Int)) then (bif decide (SBay.sat x ≤
 (16383 : Int)) then (bif decide (SBay.travel x ≥ (1 : Int)) then some (T.leaf (AV.c (C.d (D.v (Value.bool (decide (SBay.travel x ≤ (6 : Int)))))), [])) else some (T.leaf (AV.c (C.d
 (D.v (Value.bool false))), []))) else some (T.leaf (AV.c (C.d (D.v (Value.bool false))), []))) else some (T.leaf (AV.c (C.d (D.v (Value.bool false))), [])))))) else some (T.leaf
 (AV.c (C.d (D.v (Value.bool false))), [])))))) else (bif SBay.kind x == (3 : Int) then (bif decide (SBay.zr x ≥ (0 : Int)) then (bif decide (SBay.zr x ≤ (1000 : Int)) then (bif
 decide (SBay.zx x ≥ (1 : Int)) then (bif !decide (SBay.zx x ≤ (1000 : Int)) then some (T.leaf (AV.c (C.d (D.v (Value.bool false))), [])) else (bif !SBay.kind x == (3 : Int) then
 (bif !(SBay.zr x == (0 : Int) && (SBay.zx x == (0 : Int) && true)) then some (T.leaf (AV.c (C.d (D.v (Value.bool false))), [])) else (bif decide (SBay.ct x ≥ (1 : Int)) then (bif
 !decide (SBay.ct x ≤ (100 : Int)) then some (T.leaf (AV.c (C.d (D.v (Value.bool false))), [])) else (bif SBay.kind x == (3 : Int) then (bif SBay.vt x != (0 : Int) then some (T.leaf
 (AV.c (C.d (D.v (Value.bool false))), [])) else (bif !SBay.kind x == (3 : Int) then (bif decide (SBay.vt x ≥ (1 : Int)) then (bif !decide (SBay.vt x ≤ (10000 : Int)) then some
 (T.leaf (AV.c (C.d (D.v (Value.bool false))), [])) else (bif decide (SBay.sat x ≥ (0 : Int)) then (bif decide (SBay.sat x ≤ (16383 : Int)) then (bif decide (SBay.travel x ≥ (1 :
 Int)) then some (T.leaf (AV.c (C.d (D.v (Value.bool (decide (SBay.travel x ≤ (6 : Int)))))), [])) else some (T.leaf (AV.c (C.d (D.v (Value.bool false))), []))) else some (T.leaf
 (AV.c (C.d (D.v (Value.bool false))), []))) else some (T.leaf (AV.c (C.d (D.v (Value.bool false))), [])))) else some (T.leaf (AV.c (C.d (D.v (Value.bool false))), []))) else (bif
 decide (SBay.sat x ≥ (0 : Int)) then (bif decide (SBay.sat x ≤ (16383 : Int)) then (bif decide (SBay.travel x ≥ (1 : Int)) then some (T.leaf (AV.c (C.d (D.v (Value.bool (decide
 (SBay.travel x ≤ (6 : Int)))))), [])) else some (T.leaf (AV.c (C.d (D.v (Value.bool false))), []))) else some (T.leaf (AV.c (C.d (D.v (Value.bool false))), []))) else some (T.leaf
 (AV.c (C.d (D.v (Value.bool false))), []))))) else (bif !SBay.kind x == (3 : Int) then (bif decide (SBay.vt x ≥ (1 : Int)) then (bif !decide (SBay.vt x ≤ (10000 : Int)) then some
 (T.leaf (AV.c (C.d (D.v (Value.bool false))), [])) else (bif decide (SBay.sat x ≥ (0 : Int)) then (bif decide (SBay.sat x ≤ (16383 : Int)) then (bif decide (SBay.travel x ≥ (1 :
 Int)) then some (T.leaf (AV.c (C.d (D.v (Value.bool (decide (SBay.travel x ≤ (6 : Int)))))), [])) else some (T.leaf (AV.c (C.d (D.v (Value.bool false))), []))) else some (T.leaf
 (AV.c (C.d (D.v (Value.bool false))), []))) else some (T.leaf (AV.c (C.d (D.v (Value.bool false))), [])))) else some (T.leaf (AV.c (C.d (D.v (Value.bool false))), []))) else (bif
 decide (SBay.sat x ≥ (0 : Int)) then (bif decide (SBay.sat x ≤ (16383 : Int)) then (bif decide (SBay.travel x ≥ (1 : Int)) then some (T.leaf (AV.c (C.d (D.v (Value.bool (decide
 (SBay.travel x ≤ (6 : Int)))))), [])) else some (T.leaf (AV.c (C.d (D.v (Value.bool false))), []))) else some (T.leaf (AV.c (C.d (D.v (Value.bool false))), []))) else some (T.leaf
 (AV.c (C.d (D.v (Value.bool false))), [])))))) else some (T.leaf (AV.c (C.d (D.v (Value.bool false))), [])))) else (bif decide (SBay.ct x ≥ (1 : Int)) then (bif !decide (SBay.ct x ≤
 (100 : Int)) then some (T.leaf (AV.c (C.d (D.v (Value.bool false))), [])) else (bif SBay.kind x == (3 : Int) then (bif SBay.vt x != (0 : Int) then some (T.leaf (AV.c (C.d (D.v
 (Value.bool false))), [])) else (bif !SBay.kind x == (3 : Int) then (bif decide (SBay.vt x ≥ (1 : Int)) then (bif !decide (SBay.vt x ≤ (10000 : Int)) then some (T.leaf (AV.c (C.d
 (D.v (Value.bool false))), [])) else (bif decide (SBay.sat x ≥ (0 : Int)) then (bif decide (SBay.sat x ≤ (16383 : Int)) then (bif decide (SBay.travel x ≥ (1 : Int)) then some
 (T.leaf (AV.c (C.d (D.v (Value.bool (decide (SBay.travel x ≤ (6 : Int)))))), [])) else some (T.leaf (AV.c (C.d (D.v (Value.bool false))), []))) else some (T.leaf (AV.c (C.d (D.v
 (Value.bool false))), []))) else some (T.leaf (AV.c (C.d (D.v (Value.bool false))), [])))) else some (T.leaf (AV.c (C.d (D.v (Value.bool false))), []))) else (bif decide (SBay.sat x
 ≥ (0 : Int)) then (bif decide (SBay.sat x ≤ (16383 : Int)) then (bif decide (SBay.travel x ≥ (1 : Int)) then some (T.leaf (AV.c (C.d (D.v (Value.bool (decide (SBay.travel x ≤ (6 :
 Int)))))), [])) else some (T.leaf (AV.c (C.d (D.v (Value.bool false))), []))) else some (T.leaf (AV.c (C.d (D.v (Value.bool false))), []))) else some (T.leaf (AV.c (C.d (D.v
 (Value.bool false))), []))))) else (bif !SBay.kind x == (3 : Int) then (bif decide (SBay.vt x ≥ (1 : Int)) then (bif !decide (SBay.vt x ≤ (10000 : Int)) then some (T.leaf (AV.c (C.d
 (D.v (Value.bool false))), [])) else (bif decide (SBay.sat x ≥ (0 : Int)) then (bif decide (SBay.sat x ≤ (16383 : Int)) then (bif decide (SBay.travel x ≥ (1 : Int)) then some
 (T.leaf (AV.c (C.d (D.v (Value.bool (decide (SBay.travel x ≤ (6 : Int)))))), [])) else some (T.leaf (AV.c (C.d (D.v (Value.bool false))), []))) else some (T.leaf (AV.c (C.d (D.v
 (Value.bool false))), []))) else some (T.leaf (AV.c (C.d (D.v (Value.bool false))), [])))) else some (T.leaf (AV.c (C.d (D.v (Value.bool false))), []))) else (bif decide (SBay.sat x
 ≥ (0 : Int)) then (bif decide (SBay.sat x ≤ (16383 : Int)) then (bif decide (SBay.travel x ≥ (1 : Int)) then some (T.leaf (AV.c (C.d (D.v (Value.bool (decide (SBay.travel x ≤ (6 :
 Int)))))), [])) else some (T.leaf (AV.c (C.d (D.v (Value.bool false))), []))) else some (T.leaf (AV.c (C.d (D.v (Value.bool false))), []))) else some (T.leaf (AV.c (C.d (D.v
 (Value.bool false))), [])))))) else some (T.leaf (AV.c (C.d (D.v (Value.bool false))), []))))) else some (T.leaf (AV.c (C.d (D.v (Value.bool false))), []))) else some (T.leaf (AV.c
 (C.d (D.v (Value.bool false))), []))) else some (T.leaf (AV.c (C.d (D.v (Value.bool false))), []))) else (bif !SBay.kind x == (3 : Int) then (bif !(SBay.zr x == (0 : Int) &&
 (SBay.zx x == (0 : Int) && true)) then some (T.leaf (AV.c (C.d (D.v (Value.bool false))), [])) else (bif decide (SBay.ct x ≥ (1 : Int)) then (bif !decide (SBay.ct x ≤ (100 : Int))
 then some (T.leaf (AV.c (C.d (D.v (Value.bool false))), [])) else (bif SBay.kind x == (3 : Int) then (bif SBay.vt x != (0 : Int) then some (T.leaf (AV.c (C.d (D.v (Value.bool
 false))), [])) else (bif !SBay.kind x == (3 : Int) then (bif decide (SBay.vt x ≥ (1 : Int)) then (bif !decide (SBay.vt x ≤ (10000 : Int)) then some (T.leaf (AV.c (C.d (D.v
 (Value.bool false))), [])) else (bif decide (SBay.sat x ≥ (0 : Int)) then (bif decide (SBay.sat x ≤ (16383 : Int)) then (bif decide (SBay.travel x ≥ (1 : Int)) then some (T.leaf
 (AV.c (C.d (D.v (Value.bool (decide (SBay.travel x ≤ (6 : Int)))))), [])) else some (T.leaf (AV.c (C.d (D.v (Value.bool false))), []))) else some (T.leaf (AV.c (C.d (D.v (Value.bool
 false))), []))) else some (T.leaf (AV.c (C.d (D.v (Value.bool false))), [])))) else some (T.leaf (AV.c (C.d (D.v (Value.bool false))), []))) else (bif decide (SBay.sat x ≥ (0 :
 Int)) then (bif decide (SBay.sat x ≤ (16383 : Int)) then (bif decide (SBay.travel x ≥ (1 : Int)) then some (T.leaf (AV.c (C.d (D.v (Value.bool (decide (SBay.travel x ≤ (6 :
 Int)))))), [])) else some (T.leaf (AV.c (C.d (D.v (Value.bool false))), []))) else some (T.leaf (AV.c (C.d (D.v (Value.bool false))), []))) else some (T.leaf (AV.c (C.d (D.v
 (Value.bool false))), []))))) else (bif !SBay.kind x == (3 : Int) then (bif decide (SBay.vt x ≥ (1 : Int)) then (bif !decide (SBay.vt x ≤ (10000 : Int)) then some (T.leaf (AV.c (C.d
 (D.v (Value.bool false))), [])) else (bif decide (SBay.sat x ≥ (0 : Int)) then (bif decide (SBay.sat x ≤ (16383 : Int)) then (bif decide (SBay.travel x ≥ (1 : Int)) then some
 (T.leaf (AV.c (C.d (D.v (Value.bool (decide (SBay.travel x ≤ (6 : Int)))))), [])) else some (T.leaf (AV.c (C.d (D.v (Value.bool false))), []))) else some (T.leaf (AV.c (C.d (D.v
 (Value.bool false))), []))) else some (T.leaf (AV.c (C.d (D.v (Value.bool false))), [])))) else some (T.leaf (AV.c (C.d (D.v (Value.bool false))), []))) else (bif decide (SBay.sat x
 ≥ (0 : Int)) then (bif decide (SBay.sat x ≤ (16383 : Int)) then (bif decide (SBay.travel x ≥ (1 : Int)) then some (T.leaf (AV.c (C.d (D.v (Value.bool (decide (SBay.travel x ≤ (6 :
 Int)))))), [])) else some (T.leaf (AV.c (C.d (D.v (Value.bool false))), []))) else some (T.leaf (AV.c (C.d (D.v (Value.bool false))), []))) else some (T.leaf (AV.c (C.d (D.v
 (Value.bool false))), [])))))) else some (T.leaf (AV.c (C.d (D.v (Value.bool false))), [])))) else (bif decide (SBay.ct x ≥ (1 : Int)) then (bif !decide (SBay.ct x ≤ (100 : Int))
 then some (T.leaf (AV.c (C.d (D.v (Value.bool false))), [])) else (bif SBay.kind x == (3 : Int) then (bif SBay.vt x != (0 : Int) then some (T.leaf (AV.c (C.d (D.v (Value.bool
 false))), [])) else (bif !SBay.kind x == (3 : Int) then (bif decide (SBay.vt x ≥ (1 : Int)) then (bif !decide (SBay.vt x ≤ (10000 : Int)) then some (T.leaf (AV.c (C.d (D.v
 (Value.bool false))), [])) else (bif decide (SBay.sat x ≥ (0 : Int)) then (bif decide (SBay.sat x ≤ (16383 : Int)) then (bif decide (SBay.travel x ≥ (1 : Int)) then some (T.leaf
 (AV.c (C.d (D.v (Value.bool (decide (SBay.travel x ≤ (6 : Int)))))), [])) else some (T.leaf (AV.c (C.d (D.v (Value.bool false))), []))) else some (T.leaf (AV.c (C.d (D.v (Value.bool
 false))), []))) else some (T.leaf (AV.c (C.d (D.v (Value.bool false))), [])))) else some (T.leaf (AV.c (C.d (D.v (Value.bool false))), []))) else (bif decide (SBay.sat x ≥ (0 :
 Int)) then (bif decide (SBay.sat x ≤ (16383 : Int)) then (bif decide (SBay.travel x ≥ (1 : Int)) then some (T.leaf (AV.c (C.d (D.v (Value.bool (decide (SBay.travel x ≤ (6 :
 Int)))))), [])) else some (T.leaf (AV.c (C.d (D.v (Value.bool false))), []))) else some (T.leaf (AV.c (C.d (D.v (Value.bool false))), []))) else some (T.leaf (AV.c (C.d (D.v
 (Value.bool false))), []))))) else (bif !SBay.kind x == (3 : Int) then (bif decide (SBay.vt x ≥ (1 : Int)) then (bif !decide (SBay.vt x ≤ (10000 : Int)) then some (T.leaf (AV.c (C.d
 (D.v (Value.bool false))), [])) else (bif decide (SBay.sat x ≥ (0 : Int)) then (bif decide (SBay.sat x ≤ (16383 : Int)) then (bif decide (SBay.travel x ≥ (1 : Int)) then some
 (T.leaf (AV.c (C.d (D.v (Value.bool (decide (SBay.travel x ≤ (6 : Int)))))), [])) else some (T.leaf (AV.c (C.d (D.v (Value.bool false))), []))) else some (T.leaf (AV.c (C.d (D.v
 (Value.bool false))), []))) else some (T.leaf (AV.c (C.d (D.v (Value.bool false))), [])))) else some (T.leaf (AV.c (C.d (D.v (Value.bool false))), []))) else (bif decide (SBay.sat x
 ≥ (0 : Int)) then (bif decide (SBay.sat x ≤ (16383 : Int)) then (bif decide (SBay.travel x ≥ (1 : Int)) then some (T.leaf (AV.c (C.d (D.v (Value.bool (decide (SBay.travel x ≤ (6 :
 Int)))))), [])) else some (T.leaf (AV.c (C.d (D.v (Value.bool false))), []))) else some (T.leaf (AV.c (C.d (D.v (Value.bool false))), []))) else some (T.leaf (AV.c (C.d (D.v
 (Value.bool false))), [])))))) else some (T.leaf (AV.c (C.d (D.v (Value.bool false))), []))))))) := by kernel_rfl
noncomputable def ann50 : Ann := annOf [(5, ⟨[3, 2, 5, 6], []⟩)]
noncomputable def L50_5 (s : SSta) (x : SBay) (g m : Nat) (i6 : Int) := LK Tryz.prog Orc.nil ann50 (List.length (α := Nat × Blk) []) g Tryz.f48 5 m ⟨frm [(2, AV.c (C.ptr 0 0)), (3, AV.c (C.ptr 1 0)), (5, AV.c (C.d (D.v (Value.int IntKind.i64 (↑(List.length (SBay.links x)) : Int))))), (6, AV.c (C.d (D.v (Value.int IntKind.i64 i6))))] 0 Tryz.f48.ntmps, [(0, Blk.cells [C.d (D.v (Value.string (SSta.name s))), C.d (D.sl 1 (List.length (SSta.buses s)) fun i => busC (List.getD (SSta.buses s) i e0)), C.d (D.sl 5 (List.length (SSta.lines s)) fun i => lineC (List.getD (SSta.lines s) i line0)), C.d (D.sl 6 (List.length (SSta.srcs s)) fun i => srcC' (List.getD (SSta.srcs s) i src0)), C.d (D.sl 12 (List.length (SSta.bays s)) fun i => bayC (List.getD (SSta.bays s) i bay0))] 27), (1, Blk.cells [C.d (D.v (Value.string (SBay.name x))), C.d (D.v (Value.int IntKind.i64 (SBay.kind x))), C.d (D.v (Value.int IntKind.i64 (SBay.off x))), C.d (D.v (Value.int IntKind.i64 (SBay.fin x))), C.d (D.v (Value.int IntKind.i64 (SBay.zr x))), C.d (D.v (Value.int IntKind.i64 (SBay.zx x))), C.d (D.sl 2 (List.length (SBay.links x)) fun i => linkC (List.getD (SBay.links x) i link0)), C.d (D.v (Value.bool (SBay.closed x))), C.d (D.v (Value.int IntKind.i64 (SBay.ct x))), C.d (D.v (Value.int IntKind.i64 (SBay.vt x))), C.d (D.v (Value.int IntKind.i64 (SBay.sat x))), C.d (D.v (Value.int IntKind.i64 (SBay.travel x)))] 66)], 2⟩
theorem b50 : Tryz.f48.body = some (bodyOf Tryz.f48) := by kernel_rfl
set_option maxRecDepth 100000 in
theorem ev50 (s : SSta) (x : SBay) (g : Nat) : callC Tryz.prog Orc.nil ann50 g Tryz.f48 (bodyOf Tryz.f48) [aSta s, aBay x] [] =
 (bif decide ((↑(List.length (SBay.links x)) : Int) < (1 : Int)) then some (T.leaf (AV.c (C.d (D.v (Value.int IntKind.i64 (3 : Int)))), [])) else (bif decide ((↑(List.length
 (SBay.links x)) : Int) > (2 : Int)) then some (T.leaf (AV.c (C.d (D.v (Value.int IntKind.i64 (3 : Int)))), [])) else (bif SBay.kind x == (3 : Int) then (bif (↑(List.length
 (SBay.links x)) : Int) != (2 : Int) then some (T.leaf (AV.c (C.d (D.v (Value.int IntKind.i64 (3 : Int)))), [])) else L50_5 s x g g ((0 : Int))) else L50_5 s x g g ((0 : Int))))) := by kernel_rfl
set_option maxRecDepth 100000 in
theorem st50_5 (s : SSta) (x : SBay) (g m : Nat) (i6 : Int) : L50_5 s x g (m + 1) i6 =
 (bif decide (i6 < (↑(List.length (SBay.links x)) : Int)) then (bif decide ((0 : Int) ≤ i6) && decide (i6 < (↑(List.length (SBay.links x)) : Int)) then (bif decide (SLink.bus
 (List.getD (SBay.links x) (Int.toNat i6) link0) < (0 : Int)) then some (T.leaf (AV.c (C.d (D.v (Value.int IntKind.i64 (9 : Int)))), [])) else (bif decide (SLink.bus (List.getD
 (SBay.links x) (Int.toNat i6) link0) ≥ (↑(List.length (SSta.buses s)) : Int)) then some (T.leaf (AV.c (C.d (D.v (Value.int IntKind.i64 (9 : Int)))), [])) else (bif SLink.pos
 (List.getD (SBay.links x) (Int.toNat i6) link0) != (1 : Int) then (bif SLink.pos (List.getD (SBay.links x) (Int.toNat i6) link0) != (0 : Int) then some (T.leaf (AV.c (C.d (D.v
 (Value.int IntKind.i64 (16 : Int)))), [])) else (bif SBay.kind x == (3 : Int) then some (T.leaf (AV.c (C.d (D.v (Value.int IntKind.i64 (16 : Int)))), [])) else (bif decide (i6 > (0
 : Int)) then (bif decide ((0 : Int) ≤ IntKind.wrap IntKind.i64 (i6 - (1 : Int))) && decide (IntKind.wrap IntKind.i64 (i6 - (1 : Int)) < (↑(List.length (SBay.links x)) : Int)) then
 (bif SLink.bus (List.getD (SBay.links x) (Int.toNat i6) link0) == SLink.bus (List.getD (SBay.links x) (Int.toNat (IntKind.wrap IntKind.i64 (i6 - (1 : Int)))) link0) then some
 (T.leaf (AV.c (C.d (D.v (Value.int IntKind.i64 (12 : Int)))), [])) else L50_5 s x g m (IntKind.wrap IntKind.i64 (i6 + (1 : Int)))) else none) else L50_5 s x g m (IntKind.wrap
 IntKind.i64 (i6 + (1 : Int)))))) else (bif decide (i6 > (0 : Int)) then (bif decide ((0 : Int) ≤ IntKind.wrap IntKind.i64 (i6 - (1 : Int))) && decide (IntKind.wrap IntKind.i64 (i6 -
 (1 : Int)) < (↑(List.length (SBay.links x)) : Int)) then (bif SLink.bus (List.getD (SBay.links x) (Int.toNat i6) link0) == SLink.bus (List.getD (SBay.links x) (Int.toNat
 (IntKind.wrap IntKind.i64 (i6 - (1 : Int)))) link0) then some (T.leaf (AV.c (C.d (D.v (Value.int IntKind.i64 (12 : Int)))), [])) else L50_5 s x g m (IntKind.wrap IntKind.i64 (i6 +
 (1 : Int)))) else none) else L50_5 s x g m (IntKind.wrap IntKind.i64 (i6 + (1 : Int))))))) else none) else some (T.leaf (AV.c (C.d (D.v (Value.int IntKind.i64 (0 : Int)))), []))) := by kernel_rfl
def dSB : Dec (List AV × Hp) ((RSta × RBay × Unit) × Unit) := .pair (.cons (.agg staD) (.cons (.agg bayD) .nil)) .nil
def dSI : Dec (List AV × Hp) ((RSta × Int × Unit) × Unit) := .pair (.cons (.agg staD) (.cons (.c .i64) .nil)) .nil
def dSI4 : Dec (List AV × Hp) ((RSta × Int × Int × Int × Int × Unit) × Unit) := .pair (.cons (.agg staD) (.cons (.c .i64) (.cons (.c .i64) (.cons (.c .i64) (.cons (.c .i64) .nil))))) .nil
def dDS : Dec (List AV × Hp) ((D × ByteArray × Unit) × Unit) := .pair (.cons (.c .data) (.cons (.c .str) .nil)) .nil
noncomputable def o24 (rg okr : RBay → Bool) (ok : RSta → RBay → Bool) (lk : RSta → RBay → Int) : Orc := Orc.cons 46 (inl Tryz.prog Orc.nil na 1 Tryz.f46) (Orc.cons 47 (ansD d54 (fun a => okr a.1.1) (fun a => vB (rg a.1.1)) fun _ => [])
  (Orc.cons 48 (ansD dSB (fun a => ok a.1.1 a.1.2.1) (fun a => vI (lk a.1.1 a.1.2.1)) fun _ => []) Orc.nil))
noncomputable def ann24 : Ann := annOf [(8, ⟨[5, 2, 1, 7], []⟩)]
noncomputable def L24_8 (rg okr : RBay → Bool) (ok : RSta → RBay → Bool) (lk : RSta → RBay → Int) (s : SSta) (n : Int) (g m : Nat) (i7 : Int) := LK Tryz.prog (o24 rg okr ok lk) ann24 (List.length (α := Nat × Blk) []) g Tryz.f24 8 m ⟨frm [(1, AV.c (C.d (D.v (Value.int IntKind.i64 n)))), (2, AV.c (C.ptr 0 0)), (5, AV.c (C.ptr 1 0)), (7, AV.c (C.d (D.v (Value.int IntKind.i64 i7))))] 0 Tryz.f24.ntmps, [(0, Blk.cells [C.d (D.v (Value.string (SSta.name s))), C.d (D.sl 1 (List.length (SSta.buses s)) fun i => busC (List.getD (SSta.buses s) i e0)), C.d (D.sl 5 (List.length (SSta.lines s)) fun i => lineC (List.getD (SSta.lines s) i line0)), C.d (D.sl 6 (List.length (SSta.srcs s)) fun i => srcC' (List.getD (SSta.srcs s) i src0)), C.d (D.sl 12 (List.length (SSta.bays s)) fun i => bayC (List.getD (SSta.bays s) i bay0))] 27), (1, Blk.cells [C.d (D.v (Value.string (SBay.name (List.getD (SSta.bays s) (Int.toNat n) bay0)))), C.d (D.v (Value.int IntKind.i64 (SBay.kind (List.getD (SSta.bays s) (Int.toNat n) bay0)))), C.d (D.v (Value.int IntKind.i64 (SBay.off (List.getD (SSta.bays s) (Int.toNat n) bay0)))), C.d (D.v (Value.int IntKind.i64 (SBay.fin (List.getD (SSta.bays s) (Int.toNat n) bay0)))), C.d (D.v (Value.int IntKind.i64 (SBay.zr (List.getD (SSta.bays s) (Int.toNat n) bay0)))), C.d (D.v (Value.int IntKind.i64 (SBay.zx (List.getD (SSta.bays s) (Int.toNat n) bay0)))), C.d (D.sl 2 (List.length (SBay.links (List.getD (SSta.bays s) (Int.toNat n) bay0))) fun i => linkC (List.getD (SBay.links (List.getD (SSta.bays s) (Int.toNat n) bay0)) i link0)), C.d (D.v (Value.bool (SBay.closed (List.getD (SSta.bays s) (Int.toNat n) bay0)))), C.d (D.v (Value.int IntKind.i64 (SBay.ct (List.getD (SSta.bays s) (Int.toNat n) bay0)))), C.d (D.v (Value.int IntKind.i64 (SBay.vt (List.getD (SSta.bays s) (Int.toNat n) bay0)))), C.d (D.v (Value.int IntKind.i64 (SBay.sat (List.getD (SSta.bays s) (Int.toNat n) bay0)))), C.d (D.v (Value.int IntKind.i64 (SBay.travel (List.getD (SSta.bays s) (Int.toNat n) bay0))))] 66)], 2⟩
theorem b24 : Tryz.f24.body = some (bodyOf Tryz.f24) := by kernel_rfl
set_option maxRecDepth 100000 in
theorem ev24 (rg okr : RBay → Bool) (ok : RSta → RBay → Bool) (lk : RSta → RBay → Int) (s : SSta) (n : Int) (g : Nat) : callC Tryz.prog (o24 rg okr ok lk) ann24 g Tryz.f24 (bodyOf Tryz.f24) [aSta s, vI n] [] =
 (bif decide ((0 : Int) ≤ n) && decide (n < (↑(List.length (SSta.bays s)) : Int)) then (bif SBay.kind (List.getD (SSta.bays s) (Int.toNat n) bay0) == (1 : Int) then (bif decide
 (SBay.off (List.getD (SSta.bays s) (Int.toNat n) bay0) < (0 : Int)) then some (T.leaf (AV.c (C.d (D.v (Value.int IntKind.i64 (9 : Int)))), [])) else (bif decide (SBay.off (List.getD
 (SSta.bays s) (Int.toNat n) bay0) ≥ (↑(List.length (SSta.lines s)) : Int)) then some (T.leaf (AV.c (C.d (D.v (Value.int IntKind.i64 (9 : Int)))), [])) else (bif okr (SBay.name
 (List.getD (SSta.bays s) (Int.toNat n) bay0), SBay.kind (List.getD (SSta.bays s) (Int.toNat n) bay0), SBay.off (List.getD (SSta.bays s) (Int.toNat n) bay0), SBay.fin (List.getD
 (SSta.bays s) (Int.toNat n) bay0), SBay.zr (List.getD (SSta.bays s) (Int.toNat n) bay0), SBay.zx (List.getD (SSta.bays s) (Int.toNat n) bay0), linksD (SBay.links (List.getD
 (SSta.bays s) (Int.toNat n) bay0)), SBay.closed (List.getD (SSta.bays s) (Int.toNat n) bay0), SBay.ct (List.getD (SSta.bays s) (Int.toNat n) bay0), SBay.vt (List.getD (SSta.bays s)
 (Int.toNat n) bay0), SBay.sat (List.getD (SSta.bays s) (Int.toNat n) bay0), SBay.travel (List.getD (SSta.bays s) (Int.toNat n) bay0), ()) then (bif !rg (SBay.name (List.getD
 (SSta.bays s) (Int.toNat n) bay0), SBay.kind (List.getD (SSta.bays s) (Int.toNat n) bay0), SBay.off (List.getD (SSta.bays s) (Int.toNat n) bay0), SBay.fin (List.getD (SSta.bays s)
 (Int.toNat n) bay0), SBay.zr (List.getD (SSta.bays s) (Int.toNat n) bay0), SBay.zx (List.getD (SSta.bays s) (Int.toNat n) bay0), linksD (SBay.links (List.getD (SSta.bays s)
 (Int.toNat n) bay0)), SBay.closed (List.getD (SSta.bays s) (Int.toNat n) bay0), SBay.ct (List.getD (SSta.bays s) (Int.toNat n) bay0), SBay.vt (List.getD (SSta.bays s) (Int.toNat n)
 bay0), SBay.sat (List.getD (SSta.bays s) (Int.toNat n) bay0), SBay.travel (List.getD (SSta.bays s) (Int.toNat n) bay0), ()) then some (T.leaf (AV.c (C.d (D.v (Value.int IntKind.i64
 (2 : Int)))), [])) else L24_8 rg okr ok lk s n g g ((0 : Int))) else none))) else (bif SBay.kind (List.getD (SSta.bays s) (Int.toNat n) bay0) == (2 : Int) then (bif decide (SBay.off
 (List.getD (SSta.bays s) (Int.toNat n) bay0) < (0 : Int)) then some (T.leaf (AV.c (C.d (D.v (Value.int IntKind.i64 (9 : Int)))), [])) else (bif decide (SBay.off (List.getD
 (SSta.bays s) (Int.toNat n) bay0) ≥ (↑(List.length (SSta.srcs s)) : Int)) then some (T.leaf (AV.c (C.d (D.v (Value.int IntKind.i64 (9 : Int)))), [])) else (bif okr (SBay.name
 (List.getD (SSta.bays s) (Int.toNat n) bay0), SBay.kind (List.getD (SSta.bays s) (Int.toNat n) bay0), SBay.off (List.getD (SSta.bays s) (Int.toNat n) bay0), SBay.fin (List.getD
 (SSta.bays s) (Int.toNat n) bay0), SBay.zr (List.getD (SSta.bays s) (Int.toNat n) bay0), SBay.zx (List.getD (SSta.bays s) (Int.toNat n) bay0), linksD (SBay.links (List.getD
 (SSta.bays s) (Int.toNat n) bay0)), SBay.closed (List.getD (SSta.bays s) (Int.toNat n) bay0), SBay.ct (List.getD (SSta.bays s) (Int.toNat n) bay0), SBay.vt (List.getD (SSta.bays s)
 (Int.toNat n) bay0), SBay.sat (List.getD (SSta.bays s) (Int.toNat n) bay0), SBay.travel (List.getD (SSta.bays s) (Int.toNat n) bay0), ()) then (bif !rg (SBay.name (List.getD
 (SSta.bays s) (Int.toNat n) bay0), SBay.kind (List.getD (SSta.bays s) (Int.toNat n) bay0), SBay.off (List.getD (SSta.bays s) (Int.toNat n) bay0), SBay.fin (List.getD (SSta.bays s)
 (Int.toNat n) bay0), SBay.zr (List.getD (SSta.bays s) (Int.toNat n) bay0), SBay.zx (List.getD (SSta.bays s) (Int.toNat n) bay0), linksD (SBay.links (List.getD (SSta.bays s)
 (Int.toNat n) bay0)), SBay.closed (List.getD (SSta.bays s) (Int.toNat n) bay0), SBay.ct (List.getD (SSta.bays s) (Int.toNat n) bay0), SBay.vt (List.getD (SSta.bays s) (Int.toNat n)
 bay0), SBay.sat (List.getD (SSta.bays s) (Int.toNat n) bay0), SBay.travel (List.getD (SSta.bays s) (Int.toNat n) bay0), ()) then some (T.leaf (AV.c (C.d (D.v (Value.int IntKind.i64
 (2 : Int)))), [])) else L24_8 rg okr ok lk s n g g ((0 : Int))) else none))) else (bif SBay.kind (List.getD (SSta.bays s) (Int.toNat n) bay0) == (3 : Int) then (bif SBay.off
 (List.getD (SSta.bays s) (Int.toNat n) bay0) != (0 : Int) then some (T.leaf (AV.c (C.d (D.v (Value.int IntKind.i64 (9 : Int)))), [])) else (bif okr (SBay.name (List.getD (SSta.bays
 s) (Int.toNat n) bay0), SBay.kind (List.getD (SSta.bays s) (Int.toNat n) bay0), SBay.off (List.getD (SSta.bays s) (Int.toNat n) bay0), SBay.fin (List.getD (SSta.bays s) (Int.toNat
 n) bay0), SBay.zr (List.getD (SSta.bays s) (Int.toNat n) bay0), SBay.zx (List.getD (SSta.bays s) (Int.toNat n) bay0), linksD (SBay.links (List.getD (SSta.bays s) (Int.toNat n)
 bay0)), SBay.closed (List.getD (SSta.bays s) (Int.toNat n) bay0), SBay.ct (List.getD (SSta.bays s) (Int.toNat n) bay0), SBay.vt (List.getD (SSta.bays s) (Int.toNat n) bay0),
 SBay.sat (List.getD (SSta.bays s) (Int.toNat n) bay0), SBay.travel (List.getD (SSta.bays s) (Int.toNat n) bay0), ()) then (bif !rg (SBay.name (List.getD (SSta.bays s) (Int.toNat n)
 bay0), SBay.kind (List.getD (SSta.bays s) (Int.toNat n) bay0), SBay.off (List.getD (SSta.bays s) (Int.toNat n) bay0), SBay.fin (List.getD (SSta.bays s) (Int.toNat n) bay0), SBay.zr
 (List.getD (SSta.bays s) (Int.toNat n) bay0), SBay.zx (List.getD (SSta.bays s) (Int.toNat n) bay0), linksD (SBay.links (List.getD (SSta.bays s) (Int.toNat n) bay0)), SBay.closed
 (List.getD (SSta.bays s) (Int.toNat n) bay0), SBay.ct (List.getD (SSta.bays s) (Int.toNat n) bay0), SBay.vt (List.getD (SSta.bays s) (Int.toNat n) bay0), SBay.sat (List.getD
 (SSta.bays s) (Int.toNat n) bay0), SBay.travel (List.getD (SSta.bays s) (Int.toNat n) bay0), ()) then some (T.leaf (AV.c (C.d (D.v (Value.int IntKind.i64 (2 : Int)))), [])) else
 L24_8 rg okr ok lk s n g g ((0 : Int))) else none)) else some (T.leaf (AV.c (C.d (D.v (Value.int IntKind.i64 (10 : Int)))), []))))) else none) := by kernel_rfl
set_option maxRecDepth 100000 in
theorem st24_8 (rg okr : RBay → Bool) (ok : RSta → RBay → Bool) (lk : RSta → RBay → Int) (s : SSta) (n : Int) (g m : Nat) (i7 : Int) : L24_8 rg okr ok lk s n g (m + 1) i7 =
 (bif decide (i7 < n) then (bif SBay.kind (List.getD (SSta.bays s) (Int.toNat n) bay0) != (3 : Int) then (bif decide ((0 : Int) ≤ i7) && decide (i7 < (↑(List.length (SSta.bays s)) :
 Int)) then (bif SBay.kind (List.getD (SSta.bays s) (Int.toNat i7) bay0) == SBay.kind (List.getD (SSta.bays s) (Int.toNat n) bay0) then (bif decide ((0 : Int) ≤ i7) && decide (i7 <
 (↑(List.length (SSta.bays s)) : Int)) then (bif SBay.off (List.getD (SSta.bays s) (Int.toNat i7) bay0) == SBay.off (List.getD (SSta.bays s) (Int.toNat n) bay0) then (bif decide ((0
 : Int) ≤ i7) && decide (i7 < (↑(List.length (SSta.bays s)) : Int)) then (bif SBay.fin (List.getD (SSta.bays s) (Int.toNat i7) bay0) == SBay.fin (List.getD (SSta.bays s) (Int.toNat
 n) bay0) then some (T.leaf (AV.c (C.d (D.v (Value.int IntKind.i64 (12 : Int)))), [])) else L24_8 rg okr ok lk s n g m (IntKind.wrap IntKind.i64 (i7 + (1 : Int)))) else none) else
 L24_8 rg okr ok lk s n g m (IntKind.wrap IntKind.i64 (i7 + (1 : Int)))) else none) else L24_8 rg okr ok lk s n g m (IntKind.wrap IntKind.i64 (i7 + (1 : Int)))) else none) else (bif
 ok (SSta.name s, D.sl (1 : Nat) (List.length (SSta.buses s)) fun i => busC (List.getD (SSta.buses s) i e0), D.sl (5 : Nat) (List.length (SSta.lines s)) fun i => lineC (List.getD
 (SSta.lines s) i line0), D.sl (6 : Nat) (List.length (SSta.srcs s)) fun i => srcC' (List.getD (SSta.srcs s) i src0), D.sl (12 : Nat) (List.length (SSta.bays s)) fun i => bayC
 (List.getD (SSta.bays s) i bay0), ()) (SBay.name (List.getD (SSta.bays s) (Int.toNat n) bay0), SBay.kind (List.getD (SSta.bays s) (Int.toNat n) bay0), SBay.off (List.getD (SSta.bays
 s) (Int.toNat n) bay0), SBay.fin (List.getD (SSta.bays s) (Int.toNat n) bay0), SBay.zr (List.getD (SSta.bays s) (Int.toNat n) bay0), SBay.zx (List.getD (SSta.bays s) (Int.toNat n)
 bay0), D.sl (2 : Nat) (List.length (SBay.links (List.getD (SSta.bays s) (Int.toNat n) bay0))) fun i => linkC (List.getD (SBay.links (List.getD (SSta.bays s) (Int.toNat n) bay0)) i
 link0), SBay.closed (List.getD (SSta.bays s) (Int.toNat n) bay0), SBay.ct (List.getD (SSta.bays s) (Int.toNat n) bay0), SBay.vt (List.getD (SSta.bays s) (Int.toNat n) bay0),
 SBay.sat (List.getD (SSta.bays s) (Int.toNat n) bay0), SBay.travel (List.getD (SSta.bays s) (Int.toNat n) bay0), ()) then some (T.leaf (AV.c (C.d (D.v (Value.int IntKind.i64 (lk
 (SSta.name s, D.sl (1 : Nat) (List.length (SSta.buses s)) fun i => busC (List.getD (SSta.buses s) i e0), D.sl (5 : Nat) (List.length (SSta.lines s)) fun i => lineC (List.getD
 (SSta.lines s) i line0), D.sl (6 : Nat) (List.length (SSta.srcs s)) fun i => srcC' (List.getD (SSta.srcs s) i src0), D.sl (12 : Nat) (List.length (SSta.bays s)) fun i => bayC
 (List.getD (SSta.bays s) i bay0), ()) (SBay.name (List.getD (SSta.bays s) (Int.toNat n) bay0), SBay.kind (List.getD (SSta.bays s) (Int.toNat n) bay0), SBay.off (List.getD (SSta.bays
 s) (Int.toNat n) bay0), SBay.fin (List.getD (SSta.bays s) (Int.toNat n) bay0), SBay.zr (List.getD (SSta.bays s) (Int.toNat n) bay0), SBay.zx (List.getD (SSta.bays s) (Int.toNat n)
 bay0), D.sl (2 : Nat) (List.length (SBay.links (List.getD (SSta.bays s) (Int.toNat n) bay0))) fun i => linkC (List.getD (SBay.links (List.getD (SSta.bays s) (Int.toNat n) bay0)) i
 link0), SBay.closed (List.getD (SSta.bays s) (Int.toNat n) bay0), SBay.ct (List.getD (SSta.bays s) (Int.toNat n) bay0), SBay.vt (List.getD (SSta.bays s) (Int.toNat n) bay0),
 SBay.sat (List.getD (SSta.bays s) (Int.toNat n) bay0), SBay.travel (List.getD (SSta.bays s) (Int.toNat n) bay0), ()))))), [])) else none)) else (bif ok (SSta.name s, D.sl (1 : Nat)
 (List.length (SSta.buses s)) fun i => busC (List.getD (SSta.buses s) i e0), D.sl (5 : Nat) (List.length (SSta.lines s)) fun i => lineC (List.getD (SSta.lines s) i line0), D.sl (6 :
 Nat) (List.length (SSta.srcs s)) fun i => srcC' (List.getD (SSta.srcs s) i src0), D.sl (12 : Nat) (List.length (SSta.bays s)) fun i => bayC (List.getD (SSta.bays s) i bay0), ())
 (SBay.name (List.getD (SSta.bays s) (Int.toNat n) bay0), SBay.kind (List.getD (SSta.bays s) (Int.toNat n) bay0), SBay.off (List.getD (SSta.bays s) (Int.toNat n) bay0), SBay.fin
 (List.getD (SSta.bays s) (Int.toNat n) bay0), SBay.zr (List.getD (SSta.bays s) (Int.toNat n) bay0), SBay.zx (List.getD (SSta.bays s) (Int.toNat n) bay0), D.sl (2 : Nat) (List.length
 (SBay.links (List.getD (SSta.bays s) (Int.toNat n) bay0))) fun i => linkC (List.getD (SBay.links (List.getD (SSta.bays s) (Int.toNat n) bay0)) i link0), SBay.closed (List.getD
 (SSta.bays s) (Int.toNat n) bay0), SBay.ct (List.getD (SSta.bays s) (Int.toNat n) bay0), SBay.vt (List.getD (SSta.bays s) (Int.toNat n) bay0), SBay.sat (List.getD (SSta.bays s)
 (Int.toNat n) bay0), SBay.travel (List.getD (SSta.bays s) (Int.toNat n) bay0), ()) then some (T.leaf (AV.c (C.d (D.v (Value.int IntKind.i64 (lk (SSta.name s, D.sl (1 : Nat)
 (List.length (SSta.buses s)) fun i => busC (List.getD (SSta.buses s) i e0), D.sl (5 : Nat) (List.length (SSta.lines s)) fun i => lineC (List.getD (SSta.lines s) i line0), D.sl (6 :
 Nat) (List.length (SSta.srcs s)) fun i => srcC' (List.getD (SSta.srcs s) i src0), D.sl (12 : Nat) (List.length (SSta.bays s)) fun i => bayC (List.getD (SSta.bays s) i bay0), ())
 (SBay.name (List.getD (SSta.bays s) (Int.toNat n) bay0), SBay.kind (List.getD (SSta.bays s) (Int.toNat n) bay0), SBay.off (List.getD (SSta.bays s) (Int.toNat n) bay0), SBay.fin
 (List.getD (SSta.bays s) (Int.toNat n) bay0), SBay.zr (List.getD (SSta.bays s) (Int.toNat n) bay0), SBay.zx (List.getD (SSta.bays s) (Int.toNat n) bay0), D.sl (2 : Nat) (List.length
 (SBay.links (List.getD (SSta.bays s) (Int.toNat n) bay0))) fun i => linkC (List.getD (SBay.links (List.getD (SSta.bays s) (Int.toNat n) bay0)) i link0), SBay.closed (List.getD
 (SSta.bays s) (Int.toNat n) bay0), SBay.ct (List.getD (SSta.bays s) (Int.toNat n) bay0), SBay.vt (List.getD (SSta.bays s) (Int.toNat n) bay0), SBay.sat (List.getD (SSta.bays s)
 (Int.toNat n) bay0), SBay.travel (List.getD (SSta.bays s) (Int.toNat n) bay0), ()))))), [])) else none)) := by kernel_rfl
noncomputable def o20 (nk : ByteArray → Bool) (ok : D → ByteArray → Bool) (ix : D → ByteArray → Int) : Orc := Orc.cons 19 (ansP decS fun s => vB (nk s)) (Orc.cons 44 (ansD dDS (fun a => ok a.1.1 a.1.2.1) (fun a => vI (ix a.1.1 a.1.2.1)) fun _ => []) Orc.nil)
noncomputable def ann20 : Ann := annOf []
theorem b20 : Tryz.f20.body = some (bodyOf Tryz.f20) := by kernel_rfl
set_option maxRecDepth 100000 in
theorem ev20 (nk : ByteArray → Bool) (ok : D → ByteArray → Bool) (ix : D → ByteArray → Int) (l : List ByteArray) (s : ByteArray) (g : Nat) : callC Tryz.prog (o20 nk ok ix) ann20 g Tryz.f20 (bodyOf Tryz.f20) [.c (.d (busesD l)), vS s] [] =
 (bif !nk s then some (T.leaf (AV.c (C.d (D.v (Value.int IntKind.i64 (7 : Int)))), [])) else (bif ok (busesD l) s then (bif decide (ix (busesD l) s ≥ (0 : Int)) then some (T.leaf
 (AV.c (C.d (D.v (Value.int IntKind.i64 (8 : Int)))), [])) else some (T.leaf (AV.c (C.d (D.v (Value.int IntKind.i64 (0 : Int)))), []))) else none)) := by kernel_rfl
structure K8 where
  nk : ByteArray → Bool
  okn : (RSta × Int × Int × Int × Int × Unit) → Bool
  nm : (RSta × Int × Int × Int × Int × Unit) → D
  okd : D → ByteArray → Bool
  nd : D → ByteArray → Int
  okb : RSta → Int → Bool
  be : RSta → Int → Int
noncomputable def o8 (Z : K8) : Orc := Orc.cons 19 (ansP decS fun s => vB (Z.nk s)) (Orc.cons 21 (ansD dSI4 (fun a => Z.okn a.1) (fun a => .c (.d (Z.nm a.1))) fun _ => []) (Orc.cons 20 (ansD dDS (fun a => Z.okd a.1.1 a.1.2.1) (fun a => vI (Z.nd a.1.1 a.1.2.1)) fun _ => [])
  (Orc.cons 23 (inl Tryz.prog oOh na 1 Tryz.f23) (Orc.cons 24 (ansD dSI (fun a => Z.okb a.1.1 a.1.2.1) (fun a => vI (Z.be a.1.1 a.1.2.1)) fun _ => []) oOh))))
noncomputable def ann8 : Ann := annOf [(7, ⟨[1, 3, 4, 5, 6, 7], []⟩), (13, ⟨[1, 3, 4, 5, 6, 9], []⟩), (21, ⟨[1, 4, 3, 5, 6, 11], []⟩), (29, ⟨[1, 5, 4, 3, 6, 13], []⟩)]
noncomputable def L8_7 (Z : K8) (s : SSta) (g m : Nat) (i7 : Int) := LK Tryz.prog (o8 Z) ann8 (List.length (α := Nat × Blk) []) g Tryz.f9 7 m ⟨frm [(1, AV.c (C.ptr 0 0)), (3, AV.c (C.d (D.v (Value.int IntKind.i64 (↑(List.length (SSta.buses s)) : Int))))), (4, AV.c (C.d (D.v (Value.int IntKind.i64 (↑(List.length (SSta.lines s)) : Int))))), (5, AV.c (C.d (D.v (Value.int IntKind.i64 (↑(List.length (SSta.srcs s)) : Int))))), (6, AV.c (C.d (D.v (Value.int IntKind.i64 (↑(List.length (SSta.bays s)) : Int))))), (7, AV.c (C.d (D.v (Value.int IntKind.i64 i7))))] 0 Tryz.f9.ntmps, [(0, Blk.cells [C.d (D.v (Value.string (SSta.name s))), C.d (D.sl 1 (List.length (SSta.buses s)) fun i => busC (List.getD (SSta.buses s) i e0)), C.d (D.sl 5 (List.length (SSta.lines s)) fun i => lineC (List.getD (SSta.lines s) i line0)), C.d (D.sl 6 (List.length (SSta.srcs s)) fun i => srcC' (List.getD (SSta.srcs s) i src0)), C.d (D.sl 12 (List.length (SSta.bays s)) fun i => bayC (List.getD (SSta.bays s) i bay0))] 27)], 1⟩
noncomputable def L8_13 (Z : K8) (s : SSta) (g m : Nat) (i9 : Int) := LK Tryz.prog (o8 Z) ann8 (List.length (α := Nat × Blk) []) g Tryz.f9 13 m ⟨frm [(1, AV.c (C.ptr 0 0)), (3, AV.c (C.d (D.v (Value.int IntKind.i64 (↑(List.length (SSta.buses s)) : Int))))), (4, AV.c (C.d (D.v (Value.int IntKind.i64 (↑(List.length (SSta.lines s)) : Int))))), (5, AV.c (C.d (D.v (Value.int IntKind.i64 (↑(List.length (SSta.srcs s)) : Int))))), (6, AV.c (C.d (D.v (Value.int IntKind.i64 (↑(List.length (SSta.bays s)) : Int))))), (9, AV.c (C.d (D.v (Value.int IntKind.i64 i9))))] 0 Tryz.f9.ntmps, [(0, Blk.cells [C.d (D.v (Value.string (SSta.name s))), C.d (D.sl 1 (List.length (SSta.buses s)) fun i => busC (List.getD (SSta.buses s) i e0)), C.d (D.sl 5 (List.length (SSta.lines s)) fun i => lineC (List.getD (SSta.lines s) i line0)), C.d (D.sl 6 (List.length (SSta.srcs s)) fun i => srcC' (List.getD (SSta.srcs s) i src0)), C.d (D.sl 12 (List.length (SSta.bays s)) fun i => bayC (List.getD (SSta.bays s) i bay0))] 27)], 1⟩
noncomputable def L8_21 (Z : K8) (s : SSta) (g m : Nat) (i11 : Int) := LK Tryz.prog (o8 Z) ann8 (List.length (α := Nat × Blk) []) g Tryz.f9 21 m ⟨frm [(1, AV.c (C.ptr 0 0)), (3, AV.c (C.d (D.v (Value.int IntKind.i64 (↑(List.length (SSta.buses s)) : Int))))), (4, AV.c (C.d (D.v (Value.int IntKind.i64 (↑(List.length (SSta.lines s)) : Int))))), (5, AV.c (C.d (D.v (Value.int IntKind.i64 (↑(List.length (SSta.srcs s)) : Int))))), (6, AV.c (C.d (D.v (Value.int IntKind.i64 (↑(List.length (SSta.bays s)) : Int))))), (11, AV.c (C.d (D.v (Value.int IntKind.i64 i11))))] 0 Tryz.f9.ntmps, [(0, Blk.cells [C.d (D.v (Value.string (SSta.name s))), C.d (D.sl 1 (List.length (SSta.buses s)) fun i => busC (List.getD (SSta.buses s) i e0)), C.d (D.sl 5 (List.length (SSta.lines s)) fun i => lineC (List.getD (SSta.lines s) i line0)), C.d (D.sl 6 (List.length (SSta.srcs s)) fun i => srcC' (List.getD (SSta.srcs s) i src0)), C.d (D.sl 12 (List.length (SSta.bays s)) fun i => bayC (List.getD (SSta.bays s) i bay0))] 27)], 1⟩
noncomputable def L8_29 (Z : K8) (s : SSta) (g m : Nat) (i13 : Int) := LK Tryz.prog (o8 Z) ann8 (List.length (α := Nat × Blk) []) g Tryz.f9 29 m ⟨frm [(1, AV.c (C.ptr 0 0)), (3, AV.c (C.d (D.v (Value.int IntKind.i64 (↑(List.length (SSta.buses s)) : Int))))), (4, AV.c (C.d (D.v (Value.int IntKind.i64 (↑(List.length (SSta.lines s)) : Int))))), (5, AV.c (C.d (D.v (Value.int IntKind.i64 (↑(List.length (SSta.srcs s)) : Int))))), (6, AV.c (C.d (D.v (Value.int IntKind.i64 (↑(List.length (SSta.bays s)) : Int))))), (13, AV.c (C.d (D.v (Value.int IntKind.i64 i13))))] 0 Tryz.f9.ntmps, [(0, Blk.cells [C.d (D.v (Value.string (SSta.name s))), C.d (D.sl 1 (List.length (SSta.buses s)) fun i => busC (List.getD (SSta.buses s) i e0)), C.d (D.sl 5 (List.length (SSta.lines s)) fun i => lineC (List.getD (SSta.lines s) i line0)), C.d (D.sl 6 (List.length (SSta.srcs s)) fun i => srcC' (List.getD (SSta.srcs s) i src0)), C.d (D.sl 12 (List.length (SSta.bays s)) fun i => bayC (List.getD (SSta.bays s) i bay0))] 27)], 1⟩
theorem b8 : Tryz.f9.body = some (bodyOf Tryz.f9) := by kernel_rfl
set_option maxRecDepth 100000 in
theorem ev8 (Z : K8) (s : SSta) (g : Nat) : callC Tryz.prog (o8 Z) ann8 g Tryz.f9 (bodyOf Tryz.f9) [aSta s] [] =
 (bif !K8.nk Z (SSta.name s) then some (T.leaf (AV.c (C.d (D.v (Value.int IntKind.i64 (7 : Int)))), [])) else (bif decide ((↑(List.length (SSta.buses s)) : Int) < (1 : Int)) then
 some (T.leaf (AV.c (C.d (D.v (Value.int IntKind.i64 (3 : Int)))), [])) else (bif decide ((↑(List.length (SSta.buses s)) : Int) > (4 : Int)) then some (T.leaf (AV.c (C.d (D.v
 (Value.int IntKind.i64 (3 : Int)))), [])) else (bif decide ((↑(List.length (SSta.lines s)) : Int) > (6 : Int)) then some (T.leaf (AV.c (C.d (D.v (Value.int IntKind.i64 (3 : Int)))),
 [])) else (bif decide ((↑(List.length (SSta.srcs s)) : Int) > (4 : Int)) then some (T.leaf (AV.c (C.d (D.v (Value.int IntKind.i64 (3 : Int)))), [])) else (bif decide ((↑(List.length
 (SSta.bays s)) : Int) > (16 : Int)) then some (T.leaf (AV.c (C.d (D.v (Value.int IntKind.i64 (3 : Int)))), [])) else L8_7 Z s g g ((0 : Int)))))))) := by kernel_rfl
set_option maxRecDepth 100000 in
theorem st8_7 (Z : K8) (s : SSta) (g m : Nat) (i7 : Int) : L8_7 Z s g (m + 1) i7 =
 (bif decide (i7 < (↑(List.length (SSta.buses s)) : Int)) then (bif K8.okn Z ((SSta.name s, D.sl (1 : Nat) (List.length (SSta.buses s)) fun i => busC (List.getD (SSta.buses s) i e0),
 D.sl (5 : Nat) (List.length (SSta.lines s)) fun i => lineC (List.getD (SSta.lines s) i line0), D.sl (6 : Nat) (List.length (SSta.srcs s)) fun i => srcC' (List.getD (SSta.srcs s) i
 src0), D.sl (12 : Nat) (List.length (SSta.bays s)) fun i => bayC (List.getD (SSta.bays s) i bay0), ()), i7, (0 : Int), (0 : Int), (0 : Int), ()) then (bif decide ((0 : Int) ≤ i7) &&
 decide (i7 < (↑(List.length (SSta.buses s)) : Int)) then (bif K8.okd Z (K8.nm Z ((SSta.name s, D.sl (1 : Nat) (List.length (SSta.buses s)) fun i => busC (List.getD (SSta.buses s) i
 e0), D.sl (5 : Nat) (List.length (SSta.lines s)) fun i => lineC (List.getD (SSta.lines s) i line0), D.sl (6 : Nat) (List.length (SSta.srcs s)) fun i => srcC' (List.getD (SSta.srcs
 s) i src0), D.sl (12 : Nat) (List.length (SSta.bays s)) fun i => bayC (List.getD (SSta.bays s) i bay0), ()), i7, (0 : Int), (0 : Int), (0 : Int), ())) (List.getD (SSta.buses s)
 (Int.toNat i7) e0) then (bif K8.nd Z (K8.nm Z ((SSta.name s, D.sl (1 : Nat) (List.length (SSta.buses s)) fun i => busC (List.getD (SSta.buses s) i e0), D.sl (5 : Nat) (List.length
 (SSta.lines s)) fun i => lineC (List.getD (SSta.lines s) i line0), D.sl (6 : Nat) (List.length (SSta.srcs s)) fun i => srcC' (List.getD (SSta.srcs s) i src0), D.sl (12 : Nat)
 (List.length (SSta.bays s)) fun i => bayC (List.getD (SSta.bays s) i bay0), ()), i7, (0 : Int), (0 : Int), (0 : Int), ())) (List.getD (SSta.buses s) (Int.toNat i7) e0) != (0 : Int)
 then some (T.leaf (AV.c (C.d (D.v (Value.int IntKind.i64 (K8.nd Z (K8.nm Z ((SSta.name s, D.sl (1 : Nat) (List.length (SSta.buses s)) fun i => busC (List.getD (SSta.buses s) i e0),
 D.sl (5 : Nat) (List.length (SSta.lines s)) fun i => lineC (List.getD (SSta.lines s) i line0), D.sl (6 : Nat) (List.length (SSta.srcs s)) fun i => srcC' (List.getD (SSta.srcs s) i
 src0), D.sl (12 : Nat) (List.length (SSta.bays s)) fun i => bayC (List.getD (SSta.bays s) i bay0), ()), i7, (0 : Int), (0 : Int), (0 : Int), ())) (List.getD (SSta.buses s)
 (Int.toNat i7) e0))))), [])) else L8_7 Z s g m (IntKind.wrap IntKind.i64 (i7 + (1 : Int)))) else none) else none) else none) else L8_13 Z s g g ((0 : Int))) := by kernel_rfl
set_option maxRecDepth 100000 in
theorem st8_13 (Z : K8) (s : SSta) (g m : Nat) (i9 : Int) : L8_13 Z s g (m + 1) i9 =
 (bif decide (i9 < (↑(List.length (SSta.lines s)) : Int)) then (bif K8.okn Z ((SSta.name s, D.sl (1 : Nat) (List.length (SSta.buses s)) fun i => busC (List.getD (SSta.buses s) i e0),
 D.sl (5 : Nat) (List.length (SSta.lines s)) fun i => lineC (List.getD (SSta.lines s) i line0), D.sl (6 : Nat) (List.length (SSta.srcs s)) fun i => srcC' (List.getD (SSta.srcs s) i
 src0), D.sl (12 : Nat) (List.length (SSta.bays s)) fun i => bayC (List.getD (SSta.bays s) i bay0), ()), (↑(List.length (SSta.buses s)) : Int), i9, (0 : Int), (0 : Int), ()) then
 (bif decide ((0 : Int) ≤ i9) && decide (i9 < (↑(List.length (SSta.lines s)) : Int)) then (bif K8.okd Z (K8.nm Z ((SSta.name s, D.sl (1 : Nat) (List.length (SSta.buses s)) fun i =>
 busC (List.getD (SSta.buses s) i e0), D.sl (5 : Nat) (List.length (SSta.lines s)) fun i => lineC (List.getD (SSta.lines s) i line0), D.sl (6 : Nat) (List.length (SSta.srcs s)) fun i
 => srcC' (List.getD (SSta.srcs s) i src0), D.sl (12 : Nat) (List.length (SSta.bays s)) fun i => bayC (List.getD (SSta.bays s) i bay0), ()), (↑(List.length (SSta.buses s)) : Int),
 i9, (0 : Int), (0 : Int), ())) (SLine.name (List.getD (SSta.lines s) (Int.toNat i9) line0)) then (bif K8.nd Z (K8.nm Z ((SSta.name s, D.sl (1 : Nat) (List.length (SSta.buses s)) fun
 i => busC (List.getD (SSta.buses s) i e0), D.sl (5 : Nat) (List.length (SSta.lines s)) fun i => lineC (List.getD (SSta.lines s) i line0), D.sl (6 : Nat) (List.length (SSta.srcs s))
 fun i => srcC' (List.getD (SSta.srcs s) i src0), D.sl (12 : Nat) (List.length (SSta.bays s)) fun i => bayC (List.getD (SSta.bays s) i bay0), ()), (↑(List.length (SSta.buses s)) :
 Int), i9, (0 : Int), (0 : Int), ())) (SLine.name (List.getD (SSta.lines s) (Int.toNat i9) line0)) == (0 : Int) then (bif decide ((0 : Int) ≤ i9) && decide (i9 < (↑(List.length
 (SSta.lines s)) : Int)) then (bif decide (SLine.r1 (List.getD (SSta.lines s) (Int.toNat i9) line0) ≥ (0 : Int)) then (bif decide (SLine.r1 (List.getD (SSta.lines s) (Int.toNat i9)
 line0) ≤ (1000 : Int)) then (bif decide (SLine.x1 (List.getD (SSta.lines s) (Int.toNat i9) line0) ≥ (1 : Int)) then (bif !decide (SLine.x1 (List.getD (SSta.lines s) (Int.toNat i9)
 line0) ≤ (1000 : Int)) then some (T.leaf (AV.c (C.d (D.v (Value.int IntKind.i64 (2 : Int)))), [])) else (bif decide ((0 : Int) ≤ i9) && decide (i9 < (↑(List.length (SSta.lines s)) :
 Int)) then (bif decide (SLine.r0 (List.getD (SSta.lines s) (Int.toNat i9) line0) ≥ (0 : Int)) then (bif decide (SLine.r0 (List.getD (SSta.lines s) (Int.toNat i9) line0) ≤ (1000 :
 Int)) then (bif decide (SLine.x0 (List.getD (SSta.lines s) (Int.toNat i9) line0) ≥ (1 : Int)) then (bif !decide (SLine.x0 (List.getD (SSta.lines s) (Int.toNat i9) line0) ≤ (1000 :
 Int)) then some (T.leaf (AV.c (C.d (D.v (Value.int IntKind.i64 (2 : Int)))), [])) else (bif K8.nd Z (K8.nm Z ((SSta.name s, D.sl (1 : Nat) (List.length (SSta.buses s)) fun i => busC
 (List.getD (SSta.buses s) i e0), D.sl (5 : Nat) (List.length (SSta.lines s)) fun i => lineC (List.getD (SSta.lines s) i line0), D.sl (6 : Nat) (List.length (SSta.srcs s)) fun i =>
 srcC' (List.getD (SSta.srcs s) i src0), D.sl (12 : Nat) (List.length (SSta.bays s)) fun i => bayC (List.getD (SSta.bays s) i bay0), ()), (↑(List.length (SSta.buses s)) : Int), i9,
 (0 : Int), (0 : Int), ())) (SLine.name (List.getD (SSta.lines s) (Int.toNat i9) line0)) != (0 : Int) then some (T.leaf (AV.c (C.d (D.v (Value.int IntKind.i64 (K8.nd Z (K8.nm Z
 ((SSta.name s, D.sl (1 : Nat) (List.length (SSta.buses s)) fun i => busC (List.getD (SSta.buses s) i e0), D.sl (5 : Nat) (List.length (SSta.lines s)) fun i => lineC (List.getD
 (SSta.lines s) i line0), D.sl (6 : Nat) (List.length (SSta.srcs s)) fun i => srcC' (List.getD (SSta.srcs s) i src0), D.sl (12 : Nat) (List.length (SSta.bays s)) fun i => bayC
 (List.getD (SSta.bays s) i bay0), ()), (↑(List.length (SSta.buses s)) : Int), i9, (0 : Int), (0 : Int), ())) (SLine.name (List.getD (SSta.lines s) (Int.toNat i9) line0)))))), []))
 else L8_13 Z s g m (IntKind.wrap IntKind.i64 (i9 + (1 : Int))))) else some (T.leaf (AV.c (C.d (D.v (Value.int IntKind.i64 (2 : Int)))), []))) else some (T.leaf (AV.c (C.d (D.v
 (Value.int IntKind.i64 (2 : Int)))), []))) else some (T.leaf (AV.c (C.d (D.v (Value.int IntKind.i64 (2 : Int)))), []))) else none)) else some (T.leaf (AV.c (C.d (D.v (Value.int
 IntKind.i64 (2 : Int)))), []))) else some (T.leaf (AV.c (C.d (D.v (Value.int IntKind.i64 (2 : Int)))), []))) else some (T.leaf (AV.c (C.d (D.v (Value.int IntKind.i64 (2 : Int)))),
 []))) else none) else (bif K8.nd Z (K8.nm Z ((SSta.name s, D.sl (1 : Nat) (List.length (SSta.buses s)) fun i => busC (List.getD (SSta.buses s) i e0), D.sl (5 : Nat) (List.length
 (SSta.lines s)) fun i => lineC (List.getD (SSta.lines s) i line0), D.sl (6 : Nat) (List.length (SSta.srcs s)) fun i => srcC' (List.getD (SSta.srcs s) i src0), D.sl (12 : Nat)
 (List.length (SSta.bays s)) fun i => bayC (List.getD (SSta.bays s) i bay0), ()), (↑(List.length (SSta.buses s)) : Int), i9, (0 : Int), (0 : Int), ())) (SLine.name (List.getD
 (SSta.lines s) (Int.toNat i9) line0)) != (0 : Int) then some (T.leaf (AV.c (C.d (D.v (Value.int IntKind.i64 (K8.nd Z (K8.nm Z ((SSta.name s, D.sl (1 : Nat) (List.length (SSta.buses
 s)) fun i => busC (List.getD (SSta.buses s) i e0), D.sl (5 : Nat) (List.length (SSta.lines s)) fun i => lineC (List.getD (SSta.lines s) i line0), D.sl (6 : Nat) (List.length
 (SSta.srcs s)) fun i => srcC' (List.getD (SSta.srcs s) i src0), D.sl (12 : Nat) (List.length (SSta.bays s)) fun i => bayC (List.getD (SSta.bays s) i bay0), ()), (↑(List.length
 (SSta.buses s)) : Int), i9, (0 : Int), (0 : Int), ())) (SLine.name (List.getD (SSta.lines s) (Int.toNat i9) line0)))))), [])) else L8_13 Z s g m (IntKind.wrap IntKind.i64 (i9 + (1 :
 Int))))) else none) else none) else none) else L8_21 Z s g g ((0 : Int))) := by kernel_rfl
set_option maxRecDepth 100000 in
theorem st8_21 (Z : K8) (s : SSta) (g m : Nat) (i11 : Int) : L8_21 Z s g (m + 1) i11 =
 (bif decide (i11 < (↑(List.length (SSta.srcs s)) : Int)) then (bif K8.okn Z ((SSta.name s, D.sl (1 : Nat) (List.length (SSta.buses s)) fun i => busC (List.getD (SSta.buses s) i e0),
 D.sl (5 : Nat) (List.length (SSta.lines s)) fun i => lineC (List.getD (SSta.lines s) i line0), D.sl (6 : Nat) (List.length (SSta.srcs s)) fun i => srcC' (List.getD (SSta.srcs s) i
 src0), D.sl (12 : Nat) (List.length (SSta.bays s)) fun i => bayC (List.getD (SSta.bays s) i bay0), ()), (↑(List.length (SSta.buses s)) : Int), (↑(List.length (SSta.lines s)) : Int),
 i11, (0 : Int), ()) then (bif decide ((0 : Int) ≤ i11) && decide (i11 < (↑(List.length (SSta.srcs s)) : Int)) then (bif K8.okd Z (K8.nm Z ((SSta.name s, D.sl (1 : Nat) (List.length
 (SSta.buses s)) fun i => busC (List.getD (SSta.buses s) i e0), D.sl (5 : Nat) (List.length (SSta.lines s)) fun i => lineC (List.getD (SSta.lines s) i line0), D.sl (6 : Nat)
 (List.length (SSta.srcs s)) fun i => srcC' (List.getD (SSta.srcs s) i src0), D.sl (12 : Nat) (List.length (SSta.bays s)) fun i => bayC (List.getD (SSta.bays s) i bay0), ()),
 (↑(List.length (SSta.buses s)) : Int), (↑(List.length (SSta.lines s)) : Int), i11, (0 : Int), ())) (SSrc.name (List.getD (SSta.srcs s) (Int.toNat i11) src0)) then (bif K8.nd Z
 (K8.nm Z ((SSta.name s, D.sl (1 : Nat) (List.length (SSta.buses s)) fun i => busC (List.getD (SSta.buses s) i e0), D.sl (5 : Nat) (List.length (SSta.lines s)) fun i => lineC
 (List.getD (SSta.lines s) i line0), D.sl (6 : Nat) (List.length (SSta.srcs s)) fun i => srcC' (List.getD (SSta.srcs s) i src0), D.sl (12 : Nat) (List.length (SSta.bays s)) fun i =>
 bayC (List.getD (SSta.bays s) i bay0), ()), (↑(List.length (SSta.buses s)) : Int), (↑(List.length (SSta.lines s)) : Int), i11, (0 : Int), ())) (SSrc.name (List.getD (SSta.srcs s)
 (Int.toNat i11) src0)) == (0 : Int) then (bif decide ((0 : Int) ≤ i11) && decide (i11 < (↑(List.length (SSta.srcs s)) : Int)) then (bif decide (SSrc.emf (List.getD (SSta.srcs s)
 (Int.toNat i11) src0) ≥ (1 : Int)) then (bif decide (SSrc.emf (List.getD (SSta.srcs s) (Int.toNat i11) src0) ≤ (1000000 : Int)) then (bif decide (SSrc.r1 (List.getD (SSta.srcs s)
 (Int.toNat i11) src0) ≥ (0 : Int)) then (bif decide (SSrc.r1 (List.getD (SSta.srcs s) (Int.toNat i11) src0) ≤ (1000 : Int)) then (bif decide (SSrc.x1 (List.getD (SSta.srcs s)
 (Int.toNat i11) src0) ≥ (1 : Int)) then (bif decide (SSrc.x1 (List.getD (SSta.srcs s) (Int.toNat i11) src0) ≤ (1000 : Int)) then (bif decide (SSrc.r0 (List.getD (SSta.srcs s)
 (Int.toNat i11) src0) ≥ (0 : Int)) then (bif decide (SSrc.r0 (List.getD (SSta.srcs s) (Int.toNat i11) src0) ≤ (1000 : Int)) then (bif decide (SSrc.x0 (List.getD (SSta.srcs s)
 (Int.toNat i11) src0) ≥ (1 : Int)) then (bif !decide (SSrc.x0 (List.getD (SSta.srcs s) (Int.toNat i11) src0) ≤ (1000 : Int)) then some (T.leaf (AV.c (C.d (D.v (Value.int IntKind.i64
 (2 : Int)))), [])) else (bif K8.nd Z (K8.nm Z ((SSta.name s, D.sl (1 : Nat) (List.length (SSta.buses s)) fun i => busC (List.getD (SSta.buses s) i e0), D.sl (5 : Nat) (List.length
 (SSta.lines s)) fun i => lineC (List.getD (SSta.lines s) i line0), D.sl (6 : Nat) (List.length (SSta.srcs s)) fun i => srcC' (List.getD (SSta.srcs s) i src0), D.sl (12 : Nat)
 (List.length (SSta.bays s)) fun i => bayC (List.getD (SSta.bays s) i bay0), ()), (↑(List.length (SSta.buses s)) : Int), (↑(List.length (SSta.lines s)) : Int), i11, (0 : Int), ()))
 (SSrc.name (List.getD (SSta.srcs s) (Int.toNat i11) src0)) != (0 : Int) then some (T.leaf (AV.c (C.d (D.v (Value.int IntKind.i64 (K8.nd Z (K8.nm Z ((SSta.name s, D.sl (1 : Nat)
 (List.length (SSta.buses s)) fun i => busC (List.getD (SSta.buses s) i e0), D.sl (5 : Nat) (List.length (SSta.lines s)) fun i => lineC (List.getD (SSta.lines s) i line0), D.sl (6 :
 Nat) (List.length (SSta.srcs s)) fun i => srcC' (List.getD (SSta.srcs s) i src0), D.sl (12 : Nat) (List.length (SSta.bays s)) fun i => bayC (List.getD (SSta.bays s) i bay0), ()),
 (↑(List.length (SSta.buses s)) : Int), (↑(List.length (SSta.lines s)) : Int), i11, (0 : Int), ())) (SSrc.name (List.getD (SSta.srcs s) (Int.toNat i11) src0)))))), [])) else L8_21 Z
 s g m (IntKind.wrap IntKind.i64 (i11 + (1 : Int))))) else some (T.leaf (AV.c (C.d (D.v (Value.int IntKind.i64 (2 : Int)))), []))) else some (T.leaf (AV.c (C.d (D.v (Value.int
 IntKind.i64 (2 : Int)))), []))) else some (T.leaf (AV.c (C.d (D.v (Value.int IntKind.i64 (2 : Int)))), []))) else some (T.leaf (AV.c (C.d (D.v (Value.int IntKind.i64 (2 : Int)))),
 []))) else some (T.leaf (AV.c (C.d (D.v (Value.int IntKind.i64 (2 : Int)))), []))) else some (T.leaf (AV.c (C.d (D.v (Value.int IntKind.i64 (2 : Int)))), []))) else some (T.leaf
 (AV.c (C.d (D.v (Value.int IntKind.i64 (2 : Int)))), []))) else some (T.leaf (AV.c (C.d (D.v (Value.int IntKind.i64 (2 : Int)))), []))) else some (T.leaf (AV.c (C.d (D.v (Value.int
 IntKind.i64 (2 : Int)))), []))) else none) else (bif K8.nd Z (K8.nm Z ((SSta.name s, D.sl (1 : Nat) (List.length (SSta.buses s)) fun i => busC (List.getD (SSta.buses s) i e0), D.sl
 (5 : Nat) (List.length (SSta.lines s)) fun i => lineC (List.getD (SSta.lines s) i line0), D.sl (6 : Nat) (List.length (SSta.srcs s)) fun i => srcC' (List.getD (SSta.srcs s) i src0),
 D.sl (12 : Nat) (List.length (SSta.bays s)) fun i => bayC (List.getD (SSta.bays s) i bay0), ()), (↑(List.length (SSta.buses s)) : Int), (↑(List.length (SSta.lines s)) : Int), i11,
 (0 : Int), ())) (SSrc.name (List.getD (SSta.srcs s) (Int.toNat i11) src0)) != (0 : Int) then some (T.leaf (AV.c (C.d (D.v (Value.int IntKind.i64 (K8.nd Z (K8.nm Z ((SSta.name s,
 D.sl (1 : Nat) (List.length (SSta.buses s)) fun i => busC (List.getD (SSta.buses s) i e0), D.sl (5 : Nat) (List.length (SSta.lines s)) fun i => lineC (List.getD (SSta.lines s) i
 line0), D.sl (6 : Nat) (List.length (SSta.srcs s)) fun i => srcC' (List.getD (SSta.srcs s) i src0), D.sl (12 : Nat) (List.length (SSta.bays s)) fun i => bayC (List.getD (SSta.bays
 s) i bay0), ()), (↑(List.length (SSta.buses s)) : Int), (↑(List.length (SSta.lines s)) : Int), i11, (0 : Int), ())) (SSrc.name (List.getD (SSta.srcs s) (Int.toNat i11) src0)))))),
 [])) else L8_21 Z s g m (IntKind.wrap IntKind.i64 (i11 + (1 : Int))))) else none) else none) else none) else L8_29 Z s g g ((0 : Int))) := by kernel_rfl
set_option maxRecDepth 100000 in
theorem st8_29 (Z : K8) (s : SSta) (g m : Nat) (i13 : Int) : L8_29 Z s g (m + 1) i13 =
 (bif decide (i13 < (↑(List.length (SSta.bays s)) : Int)) then (bif K8.okn Z ((SSta.name s, D.sl (1 : Nat) (List.length (SSta.buses s)) fun i => busC (List.getD (SSta.buses s) i e0),
 D.sl (5 : Nat) (List.length (SSta.lines s)) fun i => lineC (List.getD (SSta.lines s) i line0), D.sl (6 : Nat) (List.length (SSta.srcs s)) fun i => srcC' (List.getD (SSta.srcs s) i
 src0), D.sl (12 : Nat) (List.length (SSta.bays s)) fun i => bayC (List.getD (SSta.bays s) i bay0), ()), (↑(List.length (SSta.buses s)) : Int), (↑(List.length (SSta.lines s)) : Int),
 (↑(List.length (SSta.srcs s)) : Int), i13, ()) then (bif decide ((0 : Int) ≤ i13) && decide (i13 < (↑(List.length (SSta.bays s)) : Int)) then (bif K8.okd Z (K8.nm Z ((SSta.name s,
 D.sl (1 : Nat) (List.length (SSta.buses s)) fun i => busC (List.getD (SSta.buses s) i e0), D.sl (5 : Nat) (List.length (SSta.lines s)) fun i => lineC (List.getD (SSta.lines s) i
 line0), D.sl (6 : Nat) (List.length (SSta.srcs s)) fun i => srcC' (List.getD (SSta.srcs s) i src0), D.sl (12 : Nat) (List.length (SSta.bays s)) fun i => bayC (List.getD (SSta.bays
 s) i bay0), ()), (↑(List.length (SSta.buses s)) : Int), (↑(List.length (SSta.lines s)) : Int), (↑(List.length (SSta.srcs s)) : Int), i13, ())) (SBay.name (List.getD (SSta.bays s)
 (Int.toNat i13) bay0)) then (bif K8.nd Z (K8.nm Z ((SSta.name s, D.sl (1 : Nat) (List.length (SSta.buses s)) fun i => busC (List.getD (SSta.buses s) i e0), D.sl (5 : Nat)
 (List.length (SSta.lines s)) fun i => lineC (List.getD (SSta.lines s) i line0), D.sl (6 : Nat) (List.length (SSta.srcs s)) fun i => srcC' (List.getD (SSta.srcs s) i src0), D.sl (12
 : Nat) (List.length (SSta.bays s)) fun i => bayC (List.getD (SSta.bays s) i bay0), ()), (↑(List.length (SSta.buses s)) : Int), (↑(List.length (SSta.lines s)) : Int), (↑(List.length
 (SSta.srcs s)) : Int), i13, ())) (SBay.name (List.getD (SSta.bays s) (Int.toNat i13) bay0)) == (0 : Int) then (bif K8.okb Z (SSta.name s, D.sl (1 : Nat) (List.length (SSta.buses s))
 fun i => busC (List.getD (SSta.buses s) i e0), D.sl (5 : Nat) (List.length (SSta.lines s)) fun i => lineC (List.getD (SSta.lines s) i line0), D.sl (6 : Nat) (List.length (SSta.srcs
 s)) fun i => srcC' (List.getD (SSta.srcs s) i src0), D.sl (12 : Nat) (List.length (SSta.bays s)) fun i => bayC (List.getD (SSta.bays s) i bay0), ()) i13 then (bif K8.be Z (SSta.name
 s, D.sl (1 : Nat) (List.length (SSta.buses s)) fun i => busC (List.getD (SSta.buses s) i e0), D.sl (5 : Nat) (List.length (SSta.lines s)) fun i => lineC (List.getD (SSta.lines s) i
 line0), D.sl (6 : Nat) (List.length (SSta.srcs s)) fun i => srcC' (List.getD (SSta.srcs s) i src0), D.sl (12 : Nat) (List.length (SSta.bays s)) fun i => bayC (List.getD (SSta.bays
 s) i bay0), ()) i13 != (0 : Int) then some (T.leaf (AV.c (C.d (D.v (Value.int IntKind.i64 (K8.be Z (SSta.name s, D.sl (1 : Nat) (List.length (SSta.buses s)) fun i => busC (List.getD
 (SSta.buses s) i e0), D.sl (5 : Nat) (List.length (SSta.lines s)) fun i => lineC (List.getD (SSta.lines s) i line0), D.sl (6 : Nat) (List.length (SSta.srcs s)) fun i => srcC'
 (List.getD (SSta.srcs s) i src0), D.sl (12 : Nat) (List.length (SSta.bays s)) fun i => bayC (List.getD (SSta.bays s) i bay0), ()) i13)))), [])) else L8_29 Z s g m (IntKind.wrap
 IntKind.i64 (i13 + (1 : Int)))) else none) else (bif K8.nd Z (K8.nm Z ((SSta.name s, D.sl (1 : Nat) (List.length (SSta.buses s)) fun i => busC (List.getD (SSta.buses s) i e0), D.sl
 (5 : Nat) (List.length (SSta.lines s)) fun i => lineC (List.getD (SSta.lines s) i line0), D.sl (6 : Nat) (List.length (SSta.srcs s)) fun i => srcC' (List.getD (SSta.srcs s) i src0),
 D.sl (12 : Nat) (List.length (SSta.bays s)) fun i => bayC (List.getD (SSta.bays s) i bay0), ()), (↑(List.length (SSta.buses s)) : Int), (↑(List.length (SSta.lines s)) : Int),
 (↑(List.length (SSta.srcs s)) : Int), i13, ())) (SBay.name (List.getD (SSta.bays s) (Int.toNat i13) bay0)) != (0 : Int) then some (T.leaf (AV.c (C.d (D.v (Value.int IntKind.i64
 (K8.nd Z (K8.nm Z ((SSta.name s, D.sl (1 : Nat) (List.length (SSta.buses s)) fun i => busC (List.getD (SSta.buses s) i e0), D.sl (5 : Nat) (List.length (SSta.lines s)) fun i =>
 lineC (List.getD (SSta.lines s) i line0), D.sl (6 : Nat) (List.length (SSta.srcs s)) fun i => srcC' (List.getD (SSta.srcs s) i src0), D.sl (12 : Nat) (List.length (SSta.bays s)) fun
 i => bayC (List.getD (SSta.bays s) i bay0), ()), (↑(List.length (SSta.buses s)) : Int), (↑(List.length (SSta.lines s)) : Int), (↑(List.length (SSta.srcs s)) : Int), i13, ()))
 (SBay.name (List.getD (SSta.bays s) (Int.toNat i13) bay0)))))), [])) else L8_29 Z s g m (IntKind.wrap IntKind.i64 (i13 + (1 : Int))))) else none) else none) else none) else some
 (T.leaf (AV.c (C.d (D.v (Value.int IntKind.i64 (0 : Int)))), []))) := by kernel_rfl
end Go.Proofs.YtngoglhlhlfknaaGreat.st
namespace Go.Proofs.YtngoglhlhlfknaaGreat.st
open Go.RowKit Go.Eb
set_option maxRecDepth 100000

noncomputable def ann21 : Ann := annOf [(3, ⟨[5, 4, 3, 2, 12, 11], []⟩), (7, ⟨[5, 4, 3, 13, 11], []⟩), (11, ⟨[5, 4, 14, 11], []⟩)]
noncomputable def L21_3 (s : SSta) (nb nl ns nq : Int) (g m : Nat) (n1 : Nat) (f1 : Nat → List D) (i12 : Int) := LK Tryz.prog Orc.nil ann21 (List.length (α := Nat × Blk) []) g Tryz.f21 3 m ⟨frm [(2, AV.c (C.d (D.v (Value.int IntKind.i64 nl)))), (3, AV.c (C.d (D.v (Value.int IntKind.i64 ns)))), (4, AV.c (C.d (D.v (Value.int IntKind.i64 nq)))), (5, AV.c (C.ptr 0 0)), (11, AV.c (C.row 1 1 n1)), (12, AV.c (C.d (D.v (Value.int IntKind.i64 i12))))] 0 Tryz.f21.ntmps, [(0, Blk.cells [C.d (D.v (Value.string (SSta.name s))), C.d (D.sl 1 (List.length (SSta.buses s)) fun i => busC (List.getD (SSta.buses s) i e0)), C.d (D.sl 5 (List.length (SSta.lines s)) fun i => lineC (List.getD (SSta.lines s) i line0)), C.d (D.sl 6 (List.length (SSta.srcs s)) fun i => srcC' (List.getD (SSta.srcs s) i src0)), C.d (D.sl 12 (List.length (SSta.bays s)) fun i => bayC (List.getD (SSta.bays s) i bay0))] 27), (1, Blk.row n1 f1 1 9)], 2⟩
noncomputable def L21_7 (s : SSta) (nb nl ns nq : Int) (g m : Nat) (n1 : Nat) (f1 : Nat → List D) (i13 : Int) := LK Tryz.prog Orc.nil ann21 (List.length (α := Nat × Blk) []) g Tryz.f21 7 m ⟨frm [(3, AV.c (C.d (D.v (Value.int IntKind.i64 ns)))), (4, AV.c (C.d (D.v (Value.int IntKind.i64 nq)))), (5, AV.c (C.ptr 0 0)), (11, AV.c (C.row 1 1 n1)), (13, AV.c (C.d (D.v (Value.int IntKind.i64 i13))))] 0 Tryz.f21.ntmps, [(0, Blk.cells [C.d (D.v (Value.string (SSta.name s))), C.d (D.sl 1 (List.length (SSta.buses s)) fun i => busC (List.getD (SSta.buses s) i e0)), C.d (D.sl 5 (List.length (SSta.lines s)) fun i => lineC (List.getD (SSta.lines s) i line0)), C.d (D.sl 6 (List.length (SSta.srcs s)) fun i => srcC' (List.getD (SSta.srcs s) i src0)), C.d (D.sl 12 (List.length (SSta.bays s)) fun i => bayC (List.getD (SSta.bays s) i bay0))] 27), (1, Blk.row n1 f1 1 9)], 2⟩
noncomputable def L21_11 (s : SSta) (nb nl ns nq : Int) (g m : Nat) (n1 : Nat) (f1 : Nat → List D) (i14 : Int) := LK Tryz.prog Orc.nil ann21 (List.length (α := Nat × Blk) []) g Tryz.f21 11 m ⟨frm [(4, AV.c (C.d (D.v (Value.int IntKind.i64 nq)))), (5, AV.c (C.ptr 0 0)), (11, AV.c (C.row 1 1 n1)), (14, AV.c (C.d (D.v (Value.int IntKind.i64 i14))))] 0 Tryz.f21.ntmps, [(0, Blk.cells [C.d (D.v (Value.string (SSta.name s))), C.d (D.sl 1 (List.length (SSta.buses s)) fun i => busC (List.getD (SSta.buses s) i e0)), C.d (D.sl 5 (List.length (SSta.lines s)) fun i => lineC (List.getD (SSta.lines s) i line0)), C.d (D.sl 6 (List.length (SSta.srcs s)) fun i => srcC' (List.getD (SSta.srcs s) i src0)), C.d (D.sl 12 (List.length (SSta.bays s)) fun i => bayC (List.getD (SSta.bays s) i bay0))] 27), (1, Blk.row n1 f1 1 9)], 2⟩
theorem b21 : Tryz.f21.body = some (bodyOf Tryz.f21) := by kernel_rfl
set_option maxRecDepth 100000 in
theorem ev21 (s : SSta) (nb nl ns nq : Int) (g : Nat) : callC Tryz.prog Orc.nil ann21 g Tryz.f21 (bodyOf Tryz.f21) [aSta s, vI nb, vI nl, vI ns, vI nq] [] =
 (bif decide ((0 : Int) ≤ (↑(0 : Nat) : Int)) && decide ((↑(0 : Nat) : Int) ≤ nb) && decide (nb ≤ (↑(List.length (SSta.buses s)) : Int)) then (bif decide (((0 : Nat) + (Int.toNat nb
 - Int.toNat (↑(0 : Nat) : Int))) * (16 : Nat) ≤ (140737488355328 : Nat)) && decide ((0 : Nat) + (Int.toNat nb - Int.toNat (↑(0 : Nat) : Int)) ≤ (9223372036854775807 : Nat)) then
 L21_3 s nb nl ns nq g g ((0 : Nat) + (Int.toNat nb - Int.toNat (↑(0 : Nat) : Int))) (appF (0 : Nat) (chunk [] ((0 : Nat) + (1 : Nat))) fun i => busC (List.getD (SSta.buses s)
 (Int.toNat (↑(0 : Nat) : Int) + i) e0)) ((0 : Int)) else none) else none) := by kernel_rfl
set_option maxRecDepth 100000 in
theorem st21_3 (s : SSta) (nb nl ns nq : Int) (g m : Nat) (n1 : Nat) (f1 : Nat → List D) (i12 : Int) : L21_3 s nb nl ns nq g (m + 1) n1 f1 i12 =
 (bif decide (i12 < nl) then (bif decide ((0 : Int) ≤ i12) && decide (i12 < (↑(List.length (SSta.lines s)) : Int)) then (bif decide ((n1 + (1 : Nat)) * (16 : Nat) ≤ (140737488355328
 : Nat)) && decide (n1 + (1 : Nat) ≤ (9223372036854775807 : Nat)) then L21_3 s nb nl ns nq g m (n1 + (1 : Nat)) (appF n1 f1 (chunk [dS (SLine.name (List.getD (SSta.lines s)
 (Int.toNat i12) line0))] ((0 : Nat) + (1 : Nat)))) (IntKind.wrap IntKind.i64 (i12 + (1 : Int))) else none) else none) else L21_7 s nb nl ns nq g g n1 f1 ((0 : Int))) := by kernel_rfl
set_option maxRecDepth 100000 in
theorem st21_7 (s : SSta) (nb nl ns nq : Int) (g m : Nat) (n1 : Nat) (f1 : Nat → List D) (i13 : Int) : L21_7 s nb nl ns nq g (m + 1) n1 f1 i13 =
 (bif decide (i13 < ns) then (bif decide ((0 : Int) ≤ i13) && decide (i13 < (↑(List.length (SSta.srcs s)) : Int)) then (bif decide ((n1 + (1 : Nat)) * (16 : Nat) ≤ (140737488355328 :
 Nat)) && decide (n1 + (1 : Nat) ≤ (9223372036854775807 : Nat)) then L21_7 s nb nl ns nq g m (n1 + (1 : Nat)) (appF n1 f1 (chunk [dS (SSrc.name (List.getD (SSta.srcs s) (Int.toNat
 i13) src0))] ((0 : Nat) + (1 : Nat)))) (IntKind.wrap IntKind.i64 (i13 + (1 : Int))) else none) else none) else L21_11 s nb nl ns nq g g n1 f1 ((0 : Int))) := by kernel_rfl
set_option maxRecDepth 100000 in
theorem st21_11 (s : SSta) (nb nl ns nq : Int) (g m : Nat) (n1 : Nat) (f1 : Nat → List D) (i14 : Int) : L21_11 s nb nl ns nq g (m + 1) n1 f1 i14 =
 (bif decide (i14 < nq) then (bif decide ((0 : Int) ≤ i14) && decide (i14 < (↑(List.length (SSta.bays s)) : Int)) then (bif decide ((n1 + (1 : Nat)) * (16 : Nat) ≤ (140737488355328 :
 Nat)) && decide (n1 + (1 : Nat) ≤ (9223372036854775807 : Nat)) then L21_11 s nb nl ns nq g m (n1 + (1 : Nat)) (appF n1 f1 (chunk [dS (SBay.name (List.getD (SSta.bays s) (Int.toNat
 i14) bay0))] ((0 : Nat) + (1 : Nat)))) (IntKind.wrap IntKind.i64 (i14 + (1 : Int))) else none) else none) else some (T.leaf (AV.c (C.row ((0 : Nat)) ((1 : Nat)) n1), [((0 : Nat),
 Blk.row n1 f1 ((1 : Nat)) ((9 : Nat)))]))) := by kernel_rfl
end Go.Proofs.YtngoglhlhlfknaaGreat.st
namespace Go.Proofs.YtngoglhlhlfknaaGreat.st
open Go.RowKit Go.Eb
set_option maxRecDepth 100000

theorem b46 : Tryz.f44.body = some (bodyOf Tryz.f44) := by kernel_rfl
def idxF (s : ByteArray) : Nat → List ByteArray → Int
  | _, [] => -1
  | i, x :: r => bif x.toList == s.toList then (i : Int) else idxF s (i + 1) r
theorem strEq' (a b : ByteArray) : (a.toList == b.toList) = (b.data.toList == a.data.toList) := by
  rw [ByteArray.toList_eq, ByteArray.toList_eq, Bool.beq_comm]
theorem idxF_ge (s : ByteArray) : ∀ (l : List ByteArray) (i : Nat), decide (idxF s i l ≥ 0) = inB l s
  | [], i => rfl
  | x :: r, i => by
    have ih := idxF_ge s r (i + 1)
    unfold inB at ih ⊢
    simp only [idxF, List.any_cons, strEq']
    cases (s.data.toList == x.data.toList) with
    | true => simp only [cond_true, Bool.true_or]; exact decide_eq_true (by omega)
    | false => simp only [cond_false, Bool.false_or]; exact ih
theorem lp46 (l : List ByteArray) (s : ByteArray) (g : Nat) (hl : l.length ≤ 9223372036854775807) : ∀ (m k : Nat), k ≤ l.length → l.length - k < m → L46 l s g m k = some (.leaf (vI (idxF s k (l.drop k)), []))
  | 0, k, _, h => by omega
  | m + 1, k, hk, h => by
    rw [st46]
    by_cases hlt : k < l.length
    · have ih := lp46 l s g hl m (k + 1) (by omega) (by omega)
      rw [drop_at' (d := e0) hlt]
      simp only [lt1 hlt, ge0, tn, Bool.and_self, cond_true, nx hlt hl, ih, idxF]
      cases ((l.getD k e0).toList == s.toList) <;> rfl
    · rw [lt0 hlt, List.drop_of_length_le (by omega)]
      rfl
theorem c46 (l : List ByteArray) (s : ByteArray) (hl : l.length ≤ 9223372036854775807) : CX Tryz.prog 44 [.c (.d (busesD l)), vS s] [] (vI (idxF s 0 l)) [] := by
  obtain ⟨g, hg⟩ : ∃ g, l.length < g := ⟨l.length + 1, by omega⟩
  exact cx_of (Orc.nil_ok _) Tryz.func44 b46 rfl ((ev46 l s g).trans (lp46 l s g hl g 0 (by omega) (by omega)))

noncomputable def okDS (x : D) (_ : ByteArray) : Bool := okE busesD x && decide ((theE busesD x).length ≤ 9223372036854775807)
noncomputable def ixDS (x : D) (s : ByteArray) : Int := idxF s 0 (theE busesD x)
theorem s20 : OrcS Tryz.prog (o20 nameOk okDS ixDS) := by
  refine .cons (.p decS_ok c16) (.cons (.d fun a ha => ?_) .nil)
  unfold okDS at ha
  simp only [Bool.and_eq_true, decide_eq_true_eq] at ha
  exact (c46 (theE busesD a.1.1) a.1.2.1 ha.2).ge (.cons (theE_de ha.1) (.cons (.refl _) .nil)) (.refl _)
theorem c20 (l : List ByteArray) (s : ByteArray) (hl : l.length ≤ 9223372036854775807) : CX Tryz.prog 20 [.c (.d (busesD l)), vS s] [] (vI (namErr l s)) [] := by
  refine cx_of s20.ok Tryz.func20 b20 rfl ((ev20 nameOk okDS ixDS l s 1).trans ?_)
  have e1 : okDS (busesD l) s = true := by unfold okDS; rw [(the_list busC_inj l).1, (the_list busC_inj l).2]; simp [hl]
  have e2 : ixDS (busesD l) s = idxF s 0 l := by unfold ixDS; rw [(the_list busC_inj l).2]
  rw [e1, e2, idxF_ge]
  unfold namErr
  cases nameOk s <;> cases inB l s <;> rfl

/-- a loop that puts names into a row -/
theorem app_loop {α : Type} {nm : α → ByteArray} {d0 : α} {l : List α} {q : Nat} {L : Nat → Nat → (Nat → List D) → Int → Option (T (AV × Hp))} {E : Nat → (Nat → List D) → Option (T (AV × Hp))} (hq : q ≤ l.length) (hq2 : q ≤ 900)
    (hst : ∀ (m k n : Nat) (f : Nat → List D), k < q → n ≤ 9000 → L (m + 1) n f k = L m (n + 1) (appF n f (chunk (busC (nm (l.getD k d0))) 1)) ((k + 1 : Nat) : Int)) (hend : ∀ m n f, L (m + 1) n f q = E n f) :
    ∀ (m k n : Nat) (f : Nat → List D) (acc : List ByteArray), RL busC e0 n f acc → k ≤ q → q - k < m → acc.length + (q - k) ≤ 9000 → ∃ n' f', RL busC e0 n' f' (acc ++ ((l.take q).drop k).map nm) ∧ L m n f k = E n' f'
  | 0, k, n, f, acc, _, _, h, _ => by omega
  | m + 1, k, n, f, acc, hr, hk, h, hb => by
    by_cases e : k = q
    · subst e
      rw [hend, List.drop_of_length_le (by simp; omega)]
      exact ⟨n, f, by simpa using hr, rfl⟩
    · have hlt : k < q := by omega
      rw [hst m k n f hlt (by have := hr.len; omega)]
      have ht : k < (l.take q).length := by simp; omega
      have hg : (l.take q).getD k d0 = l.getD k d0 := by simp [List.getD, hlt]
      rw [drop_at' (d := d0) ht, hg]
      obtain ⟨n', f', h1, h2⟩ := app_loop hq hq2 hst hend m (k + 1) (n + 1) (appF n f (chunk (busC (nm (l.getD k d0))) 1)) (acc ++ [nm (l.getD k d0)]) (hr.app' rfl) (by omega) (by omega) (by simp; omega)
      exact ⟨n', f', by simpa using h1, h2⟩

def namesOf (s : SSta) (nb nl ns nq : Nat) : List ByteArray := s.buses.take nb ++ (s.lines.take nl).map SLine.name ++ (s.srcs.take ns).map SSrc.name ++ (s.bays.take nq).map SBay.name
theorem apOk {n : Nat} (h : n ≤ 9000) : (decide ((n + 1) * 16 ≤ 140737488355328) && decide (n + 1 ≤ 9223372036854775807)) = true := by
  rw [decide_eq_true (by omega), decide_eq_true (by omega)]; rfl
theorem c21 (s : SSta) (nb nl ns nq : Nat) (h1 : nb ≤ s.buses.length) (h2 : nl ≤ s.lines.length) (h3 : ns ≤ s.srcs.length) (h4 : nq ≤ s.bays.length) (g1 : nb ≤ 900) (g2 : nl ≤ 900) (g3 : ns ≤ 900) (g4 : nq ≤ 900) :
    CX Tryz.prog 21 [aSta s, vI nb, vI nl, vI ns, vI nq] [] (.c (.d (busesD (namesOf s nb nl ns nq)))) [] := by
  obtain ⟨g, hg⟩ : ∃ g, 900 < g := ⟨901, by omega⟩
  have lt1' : ∀ {k n : Nat}, k < n → decide ((k : Int) < (n : Int)) = true := lt1
  have p4 := fun n f acc (hr : RL busC e0 n f acc) (hb : acc.length ≤ 8000) => app_loop (nm := SBay.name) (d0 := bay0) (l := s.bays) (q := nq) (L := fun m n f i => L21_11 s nb nl ns nq g m n f i) (E := fun n f => some (.leaf (.c (.row 0 1 n), [(0, .row n f 1 9)]))) h4 g4
    (fun m k n f hk hn => by
      rw [st21_11]
      simp only [lt1 hk, lt1 (show k < s.bays.length by omega), ge0, tn, Bool.and_self, cond_true, nx hk (by omega), apOk hn]
      rfl)
    (fun m n f => by rw [st21_11, lt0 (Nat.lt_irrefl _)]; rfl) g 0 n f acc hr (by omega) (by omega) (by omega)
  have p3 := fun n f acc (hr : RL busC e0 n f acc) (hb : acc.length ≤ 7000) => app_loop (nm := SSrc.name) (d0 := src0) (l := s.srcs) (q := ns) (L := fun m n f i => L21_7 s nb nl ns nq g m n f i) (E := fun n f => L21_11 s nb nl ns nq g g n f 0) h3 g3
    (fun m k n f hk hn => by
      rw [st21_7]
      simp only [lt1 hk, lt1 (show k < s.srcs.length by omega), ge0, tn, Bool.and_self, cond_true, nx hk (by omega), apOk hn]
      rfl)
    (fun m n f => by rw [st21_7, lt0 (Nat.lt_irrefl _)]; rfl) g 0 n f acc hr (by omega) (by omega) (by omega)
  have p2 := fun n f acc (hr : RL busC e0 n f acc) (hb : acc.length ≤ 6000) => app_loop (nm := SLine.name) (d0 := line0) (l := s.lines) (q := nl) (L := fun m n f i => L21_3 s nb nl ns nq g m n f i) (E := fun n f => L21_7 s nb nl ns nq g g n f 0) h2 g2
    (fun m k n f hk hn => by
      rw [st21_3]
      simp only [lt1 hk, lt1 (show k < s.lines.length by omega), ge0, tn, Bool.and_self, cond_true, nx hk (by omega), apOk hn]
      rfl)
    (fun m n f => by rw [st21_3, lt0 (Nat.lt_irrefl _)]; rfl) g 0 n f acc hr (by omega) (by omega) (by omega)
  have hr0 : RL busC e0 (0 + (Int.toNat (nb : Int) - Int.toNat ((0 : Nat) : Int))) (appF 0 (chunk [] (0 + 1)) fun i => busC (s.buses.getD (Int.toNat ((0 : Nat) : Int) + i) e0)) (s.buses.take nb) := by
    have : RL busC e0 nb (fun i => busC (s.buses.getD (Int.toNat ((0 : Nat) : Int) + i) e0)) (s.buses.take nb) := .eq (by simp; omega) fun i hi => by
      have e : (s.buses.take nb).getD i e0 = s.buses.getD i e0 := by simp [List.getD, hi]
      rw [e]; simp
    have h := (RL.nil (c := busC) (d0 := e0) (chunk [] (0 + 1))).cat this
    simpa using h
  obtain ⟨n2, f2, r2, q2⟩ := p2 _ _ _ hr0 (by simp; omega)
  obtain ⟨n3, f3, r3, q3⟩ := p3 _ _ _ r2 (by simp; omega)
  obtain ⟨n4, f4, r4, q4⟩ := p4 _ _ _ r3 (by simp; omega)
  have hev := ev21 s nb nl ns nq g
  have e1 : (decide ((0 : Int) ≤ ((0 : Nat) : Int)) && decide (((0 : Nat) : Int) ≤ (nb : Int)) && decide ((nb : Int) ≤ (s.buses.length : Int))) = true := by
    rw [decide_eq_true (by omega), decide_eq_true (by omega), decide_eq_true (by omega)]; rfl
  have e2 : (decide ((0 + (Int.toNat (nb : Int) - Int.toNat ((0 : Nat) : Int))) * 16 ≤ 140737488355328) && decide (0 + (Int.toNat (nb : Int) - Int.toNat ((0 : Nat) : Int)) ≤ 9223372036854775807)) = true := by
    rw [decide_eq_true (by omega), decide_eq_true (by omega)]; rfl
  rw [e1, e2] at hev
  simp only [cond_true] at hev
  have hc := cr_of (Orc.nil_ok Tryz.prog) Tryz.func21 b21 rfl (hev.trans (q2.trans (q3.trans q4)))
  have hd := hc.data (y := .c (.d (.sl 1 n4 f4))) rfl
  refine (CX.of_cr Tryz.func21 b21 hd).le ?_ (.refl _)
  have r4' : RL busC e0 n4 f4 (namesOf s nb nl ns nq) := by unfold namesOf; simpa using r4
  exact r4'.de
end Go.Proofs.YtngoglhlhlfknaaGreat.st
namespace Go.Proofs.YtngoglhlhlfknaaGreat.st
open Go.RowKit Go.Eb
set_option maxRecDepth 100000

theorem bOr (a b : Bool) : (bif a then lB false else lB b) = lB (!a && b) := by cases a <;> rfl
theorem sBe : OrcS Tryz.prog oBe := .cons (.inl .nil Tryz.func45 (by kernel_rfl)) .nil
theorem sOh : OrcS Tryz.prog oOh := .cons (.inl sBe Tryz.func22 (by kernel_rfl)) sBe
theorem c49 (x : SBay) : CX Tryz.prog 47 [aBay x] [] (vB (rngOk x)) [] := by
  refine cx_of sOh.ok Tryz.func47 b49 rfl ((ev49 x 1).trans ?_)
  unfold rngOk impOk within
  cases h3 : (x.kind == 3) with
  | true =>
    cases h1 : (x.kind == 1) with
    | true => simp at h1 h3; omega
    | false =>
      simp only [cond_true, cond_false, fNot, bAnd, bOr, neN, Bool.and_true]
      refine congrArg lB ?_
      rw [Bool.eq_iff_iff]
      simp only [Bool.and_eq_true, decide_eq_true_eq, beq_iff_eq, Bool.not_eq_true', bne_iff_ne, ne_eq, Bool.not_not, Bool.or_eq_true, Bool.and_eq_false_iff, decide_eq_false_iff_not, beq_eq_false_iff_ne, Bool.not_eq_false', Bool.not_and, Bool.not_or]
      omega
  | false =>
    cases h1 : (x.kind == 1) with
    | true =>
      simp only [cond_true, cond_false, fNot, bAnd, bOr, neN, Bool.and_true]
      refine congrArg lB ?_
      rw [Bool.eq_iff_iff]
      simp only [Bool.and_eq_true, decide_eq_true_eq, beq_iff_eq, Bool.not_eq_true', bne_iff_ne, ne_eq, Bool.not_not, Bool.or_eq_true, Bool.and_eq_false_iff, decide_eq_false_iff_not, beq_eq_false_iff_ne, Bool.not_eq_false', Bool.not_and, Bool.not_or]
      omega
    | false =>
      simp only [cond_true, cond_false, fNot, bAnd, bOr, neN, Bool.and_true]
      refine congrArg lB ?_
      rw [Bool.eq_iff_iff]
      simp only [Bool.and_eq_true, decide_eq_true_eq, beq_iff_eq, Bool.not_eq_true', bne_iff_ne, ne_eq, Bool.not_not, Bool.or_eq_true, Bool.and_eq_false_iff, decide_eq_false_iff_not, beq_eq_false_iff_ne, Bool.not_eq_false', Bool.not_and, Bool.not_or]
      omega

theorem bge (b : Int) (n : Nat) : (decide (b < 0) || decide (b ≥ (n : Int))) = !within b 0 ((n : Int) - 1) := by
  unfold within
  rw [Bool.eq_iff_iff]
  simp only [Bool.or_eq_true, decide_eq_true_eq, Bool.not_eq_true', Bool.and_eq_false_iff, decide_eq_false_iff_not]
  omega
theorem lp50 (s : SSta) (x : SBay) (hl : x.links.length ≤ 9223372036854775807) (g : Nat) : ∀ (m k : Nat), k ≤ x.links.length → x.links.length - k < m → L50_5 s x g m k = lI (linkErr s.buses.length x.kind (prevB x.links k) (x.links.drop k)) []
  | 0, k, _, h => by omega
  | m + 1, k, hk, h => by
    rw [st50_5]
    by_cases hlt : k < x.links.length
    · have ih := lp50 s x hl g m (k + 1) (by omega) (by omega)
      rw [drop_at' (d := link0) hlt]
      simp only [lt1 hlt, ge0, tn, Bool.and_self, cond_true, nx hlt (by omega), ih, linkErr, fOr, bge]
      cases k with
      | zero =>
        simp only [prevB, List.getD_cons_zero]
        generalize within (x.links.getD 0 link0).bus 0 ((s.buses.length : Int) - 1) = b1
        generalize ((x.links.getD 0 link0).pos != 1) = b3
        generalize ((x.links.getD 0 link0).pos != 0) = b4
        generalize (x.kind == 3) = b5
        cases b1 <;> cases b3 <;> cases b4 <;> cases b5 <;> rfl
      | succ k =>
        have e1 : IntKind.wrap IntKind.i64 (((k + 1 : Nat) : Int) - 1) = (k : Int) := by rw [wrap_id (by omega) (by omega)]; omega
        have e2 : decide (((k + 1 : Nat) : Int) > 0) = true := by rw [gt0]; simp
        have e3 : decide ((k : Int) < (x.links.length : Int)) = true := lt1 (by omega)
        have e4 : (some (x.links.getD k link0).bus == some (x.links.getD (k + 1) link0).bus) = ((x.links.getD (k + 1) link0).bus == (x.links.getD k link0).bus) := by
          show ((x.links.getD k link0).bus == (x.links.getD (k + 1) link0).bus) = _
          exact Bool.beq_comm
        simp only [prevB, e1, e2, e3, e4, ge0, tn, Bool.and_self, cond_true]
        generalize within (x.links.getD (k + 1) link0).bus 0 ((s.buses.length : Int) - 1) = b1
        generalize ((x.links.getD (k + 1) link0).pos != 1) = b3
        generalize ((x.links.getD (k + 1) link0).pos != 0) = b4
        generalize (x.kind == 3) = b5
        generalize ((x.links.getD (k + 1) link0).bus == (x.links.getD k link0).bus) = b6
        cases b1 <;> cases b3 <;> cases b4 <;> cases b5 <;> cases b6 <;> rfl
    · rw [lt0 hlt, List.drop_of_length_le (by omega)]
      rfl
theorem c50 (s : SSta) (x : SBay) (hl : x.links.length ≤ 9223372036854775807) : CX Tryz.prog 48 [aSta s, aBay x] [] (vI (linksErr s.buses.length x)) [] := by
  obtain ⟨g, hg⟩ : ∃ g, x.links.length < g := ⟨x.links.length + 1, by omega⟩
  refine cx_of (Orc.nil_ok _) Tryz.func48 b50 rfl ((ev50 s x g).trans ?_)
  have e0 : L50_5 s x g g 0 = lI (linkErr s.buses.length x.kind none x.links) [] := lp50 s x hl g g 0 (by omega) (by omega)
  rw [e0, len_lt1, len_gt2, len_ne2]
  unfold linksErr
  generalize decide (x.links.length < 1) = b1
  generalize decide (2 < x.links.length) = b2
  generalize (x.kind == 3) = b3
  generalize (x.links.length != 2) = b4
  cases b1 <;> cases b2 <;> cases b3 <;> cases b4 <;> rfl
end Go.Proofs.YtngoglhlhlfknaaGreat.st
namespace Go.Proofs.YtngoglhlhlfknaaGreat.se
open Go.RowKit Go.Eb
set_option maxRecDepth 100000

noncomputable def oB3 : Orc := Orc.cons 131 (ansP dec3 fun a => vB (within a.1 a.2.1 a.2.2)) Orc.nil
noncomputable def oNu (okr zo : List AV → Bool) : Orc := Orc.cons 130 (ansG okr fun x => vB (zo x)) (Orc.cons 132 (ansP decE fun a => vB (elOk a.1 a.2.1 a.2.2.1 a.2.2.2)) oB3)
set_option maxRecDepth 100000 in
theorem evBt_t (a b c : Int) : callC Tryz.prog Orc.nil na 5 Tryz.f131 (bodyOf Tryz.f131) [vI a, vI b, vI c] [] =
 (bif decide (a ≥ b) then some (T.leaf (AV.c (C.d (D.v (Value.bool (decide (a ≤ c))))), [])) else some (T.leaf (AV.c (C.d (D.v (Value.bool false))), []))) := by kernel_rfl
noncomputable def evBt_v (a b c : Int) : Bool :=
 (bif decide (a ≥ b) then ((decide (a ≤ c))) else (false))
set_option maxRecDepth 100000 in
theorem evBt (a b c : Int) : callC Tryz.prog Orc.nil na 5 Tryz.f131 (bodyOf Tryz.f131) [vI a, vI b, vI c] [] = some (.leaf (vB (evBt_v a b c), [])) := by
  rw [evBt_t]
  unfold evBt_v
  simp only [bLeaf]
set_option maxRecDepth 100000 in
theorem evEm_t (o : Bool) (a b c : Int) : callC Tryz.prog oB3 na 5 Tryz.f132 (bodyOf Tryz.f132) [.agg [.d (dB o), .d (dI a), .d (dI b)], vI c] [] =
 (bif !o then some (T.leaf (AV.c (C.d (D.v (Value.bool (o == false && (a == (0 : Int) && (b == (0 : Int) && true)))))), [])) else (bif within a (1 : Int) (16383 : Int) then some
 (T.leaf (AV.c (C.d (D.v (Value.bool (within b c (500 : Int))))), [])) else some (T.leaf (AV.c (C.d (D.v (Value.bool false))), [])))) := by kernel_rfl
noncomputable def evEm_v (o : Bool) (a b c : Int) : Bool :=
 (bif !o then ((o == false && (a == (0 : Int) && (b == (0 : Int) && true)))) else (bif within a (1 : Int) (16383 : Int) then ((within b c (500 : Int))) else (false)))
set_option maxRecDepth 100000 in
theorem evEm (o : Bool) (a b c : Int) : callC Tryz.prog oB3 na 5 Tryz.f132 (bodyOf Tryz.f132) [.agg [.d (dB o), .d (dI a), .d (dI b)], vI c] [] = some (.leaf (vB (evEm_v o a b c), [])) := by
  rw [evEm_t]
  unfold evEm_v
  simp only [bLeaf]
set_option maxRecDepth 100000 in
theorem ev88_t (r : SRel) : callC Tryz.prog oB3 na 5 Tryz.f88 (bodyOf Tryz.f88) [aRel r] [] =
 (bif !SRel.kind r == (1 : Int) then (bif !(SRel.zon0 r == false && (SRel.zfw0 r == false && (SRel.zx0 r == (0 : Int) && (SRel.zr0 r == (0 : Int) && (SRel.zl0 r == (0 : Int) &&
 (SRel.zd0 r == (0 : Int) && true))))) && (SRel.zon1 r == false && (SRel.zfw1 r == false && (SRel.zx1 r == (0 : Int) && (SRel.zr1 r == (0 : Int) && (SRel.zl1 r == (0 : Int) &&
 (SRel.zd1 r == (0 : Int) && true))))) && (SRel.zon2 r == false && (SRel.zfw2 r == false && (SRel.zx2 r == (0 : Int) && (SRel.zr2 r == (0 : Int) && (SRel.zl2 r == (0 : Int) &&
 (SRel.zd2 r == (0 : Int) && true))))) && true))) then some (T.leaf (AV.c (C.d (D.v (Value.bool true))), [])) else (bif SRel.min r != (0 : Int) then some (T.leaf (AV.c (C.d (D.v
 (Value.bool true))), [])) else (bif SRel.kre r != (0 : Int) then some (T.leaf (AV.c (C.d (D.v (Value.bool true))), [])) else (bif SRel.kim r != (0 : Int) then some (T.leaf (AV.c
 (C.d (D.v (Value.bool true))), [])) else (bif SRel.scheme r != (0 : Int) then some (T.leaf (AV.c (C.d (D.v (Value.bool true))), [])) else (bif SRel.wait r != (0 : Int) then some
 (T.leaf (AV.c (C.d (D.v (Value.bool true))), [])) else (bif SRel.guard r != (0 : Int) then some (T.leaf (AV.c (C.d (D.v (Value.bool true))), [])) else (bif SRel.shots r != (0 : Int)
 then some (T.leaf (AV.c (C.d (D.v (Value.bool true))), [])) else (bif SRel.dead r != (0 : Int) then some (T.leaf (AV.c (C.d (D.v (Value.bool true))), [])) else (bif SRel.reclaim r
 != (0 : Int) then some (T.leaf (AV.c (C.d (D.v (Value.bool true))), [])) else (bif !SRel.kind r == (2 : Int) then (bif !(SRel.uon r == false && (SRel.upk r == (0 : Int) && (SRel.udl
 r == (0 : Int) && true))) then some (T.leaf (AV.c (C.d (D.v (Value.bool true))), [])) else (bif !(SRel.oon r == false && (SRel.opk r == (0 : Int) && (SRel.odl r == (0 : Int) &&
 true))) then some (T.leaf (AV.c (C.d (D.v (Value.bool true))), [])) else (bif SRel.kind r == (4 : Int) then (bif !(SRel.don r == false && (SRel.dpk r == (0 : Int) && (SRel.ddl r ==
 (0 : Int) && true))) then some (T.leaf (AV.c (C.d (D.v (Value.bool true))), [])) else (bif !(SRel.ion r == false && (SRel.ipk r == (0 : Int) && (SRel.idl r == (0 : Int) && true)))
 then some (T.leaf (AV.c (C.d (D.v (Value.bool true))), [])) else (bif !(SRel.fon r == false && (SRel.fpk r == (0 : Int) && (SRel.fdl r == (0 : Int) && true))) then some (T.leaf
 (AV.c (C.d (D.v (Value.bool true))), [])) else (bif !SRel.kind r == (4 : Int) then (bif SRel.diff r != (0 : Int) then some (T.leaf (AV.c (C.d (D.v (Value.bool true))), [])) else
 (bif SRel.num r != (0 : Int) then some (T.leaf (AV.c (C.d (D.v (Value.bool true))), [])) else (bif SRel.den r != (0 : Int) then some (T.leaf (AV.c (C.d (D.v (Value.bool true))),
 [])) else some (T.leaf (AV.c (C.d (D.v (Value.bool (SRel.harm r != (0 : Int))))), []))))) else some (T.leaf (AV.c (C.d (D.v (Value.bool false))), [])))))) else (bif !SRel.kind r ==
 (4 : Int) then (bif SRel.diff r != (0 : Int) then some (T.leaf (AV.c (C.d (D.v (Value.bool true))), [])) else (bif SRel.num r != (0 : Int) then some (T.leaf (AV.c (C.d (D.v
 (Value.bool true))), [])) else (bif SRel.den r != (0 : Int) then some (T.leaf (AV.c (C.d (D.v (Value.bool true))), [])) else some (T.leaf (AV.c (C.d (D.v (Value.bool (SRel.harm r !=
 (0 : Int))))), []))))) else some (T.leaf (AV.c (C.d (D.v (Value.bool false))), [])))))) else (bif SRel.kind r == (4 : Int) then (bif !(SRel.don r == false && (SRel.dpk r == (0 :
 Int) && (SRel.ddl r == (0 : Int) && true))) then some (T.leaf (AV.c (C.d (D.v (Value.bool true))), [])) else (bif !(SRel.ion r == false && (SRel.ipk r == (0 : Int) && (SRel.idl r ==
 (0 : Int) && true))) then some (T.leaf (AV.c (C.d (D.v (Value.bool true))), [])) else (bif !(SRel.fon r == false && (SRel.fpk r == (0 : Int) && (SRel.fdl r == (0 : Int) && true)))
 then some (T.leaf (AV.c (C.d (D.v (Value.bool true))), [])) else (bif !SRel.kind r == (4 : Int) then (bif SRel.diff r != (0 : Int) then some (T.leaf (AV.c (C.d (D.v (Value.bool
 true))), [])) else (bif SRel.num r != (0 : Int) then some (T.leaf (AV.c (C.d (D.v (Value.bool true))), [])) else (bif SRel.den r != (0 : Int) then some (T.leaf (AV.c (C.d (D.v
 (Value.bool true))), [])) else some (T.leaf (AV.c (C.d (D.v (Value.bool (SRel.harm r != (0 : Int))))), []))))) else some (T.leaf (AV.c (C.d (D.v (Value.bool false))), [])))))) else
 (bif !SRel.kind r == (4 : Int) then (bif SRel.diff r != (0 : Int) then some (T.leaf (AV.c (C.d (D.v (Value.bool true))), [])) else (bif SRel.num r != (0 : Int) then some (T.leaf
 (AV.c (C.d (D.v (Value.bool true))), [])) else (bif SRel.den r != (0 : Int) then some (T.leaf (AV.c (C.d (D.v (Value.bool true))), [])) else some (T.leaf (AV.c (C.d (D.v (Value.bool
 (SRel.harm r != (0 : Int))))), []))))) else some (T.leaf (AV.c (C.d (D.v (Value.bool false))), []))))))))))))))) else (bif !SRel.kind r == (2 : Int) then (bif !(SRel.uon r == false
 && (SRel.upk r == (0 : Int) && (SRel.udl r == (0 : Int) && true))) then some (T.leaf (AV.c (C.d (D.v (Value.bool true))), [])) else (bif !(SRel.oon r == false && (SRel.opk r == (0 :
 Int) && (SRel.odl r == (0 : Int) && true))) then some (T.leaf (AV.c (C.d (D.v (Value.bool true))), [])) else (bif SRel.kind r == (4 : Int) then (bif !(SRel.don r == false &&
 (SRel.dpk r == (0 : Int) && (SRel.ddl r == (0 : Int) && true))) then some (T.leaf (AV.c (C.d (D.v (Value.bool true))), [])) else (bif !(SRel.ion r == false && (SRel.ipk r == (0 :
 Int) && (SRel.idl r == (0 : Int) && true))) then some (T.leaf (AV.c (C.d (D.v (Value.bool true))), [])) else (bif !(SRel.fon r == false && (SRel.fpk r == (0 : Int) && (SRel.fdl r ==
 (0 : Int) && true))) then some (T.leaf (AV.c (C.d (D.v (Value.bool true))), [])) else (bif !SRel.kind r == (4 : Int) then (bif SRel.diff r != (0 : Int) then some (T.leaf (AV.c (C.d
 (D.v (Value.bool true))), [])) else (bif SRel.num r != (0 : Int) then some (T.leaf (AV.c (C.d (D.v (Value.bool true))), [])) else (bif SRel.den r != (0 : Int) then some (T.leaf
 (AV.c (C.d (D.v (Value.bool true))), [])) else some (T.leaf (AV.c (C.d (D.v (Value.bool (SRel.harm r != (0 : Int))))), []))))) else some (T.leaf (AV.c (C.d (D.v (Value.bool
 false))), [])))))) else (bif !SRel.kind r == (4 : Int) then (bif SRel.diff r != (0 : Int) then some (T.leaf (AV.c (C.d (D.v (Value.bool true))), [])) else (bif SRel.num r != (0 :
 Int) then some (T.leaf (AV.c (C.d (D.v (Value.bool true))), [])) else (bif SRel.den r != (0 : Int) then some (T.leaf (AV.c (C.d (D.v (Value.bool true))), [])) else some (T.leaf
 (AV.c (C.d (D.v (Value.bool (SRel.harm r != (0 : Int))))), []))))) else some (T.leaf (AV.c (C.d (D.v (Value.bool false))), [])))))) else (bif SRel.kind r == (4 : Int) then (bif
 !(SRel.don r == false && (SRel.dpk r == (0 : Int) && (SRel.ddl r == (0 : Int) && true))) then some (T.leaf (AV.c (C.d (D.v (Value.bool true))), [])) else (bif !(SRel.ion r == false
 && (SRel.ipk r == (0 : Int) && (SRel.idl r == (0 : Int) && true))) then some (T.leaf (AV.c (C.d (D.v (Value.bool true))), [])) else (bif !(SRel.fon r == false && (SRel.fpk r == (0 :
 Int) && (SRel.fdl r == (0 : Int) && true))) then some (T.leaf (AV.c (C.d (D.v (Value.bool true))), [])) else (bif !SRel.kind r == (4 : Int) then (bif SRel.diff r != (0 : Int) then
 some (T.leaf (AV.c (C.d (D.v (Value.bool true))), [])) else (bif SRel.num r != (0 : Int) then some (T.leaf (AV.c (C.d (D.v (Value.bool true))), [])) else (bif SRel.den r != (0 :
 Int) then some (T.leaf (AV.c (C.d (D.v (Value.bool true))), [])) else some (T.leaf (AV.c (C.d (D.v (Value.bool (SRel.harm r != (0 : Int))))), []))))) else some (T.leaf (AV.c (C.d
 (D.v (Value.bool false))), [])))))) else (bif !SRel.kind r == (4 : Int) then (bif SRel.diff r != (0 : Int) then some (T.leaf (AV.c (C.d (D.v (Value.bool true))), [])) else (bif
 SRel.num r != (0 : Int) then some (T.leaf (AV.c (C.d (D.v (Value.bool true))), [])) else (bif SRel.den r != (0 : Int) then some (T.leaf (AV.c (C.d (D.v (Value.bool true))), []))
 else some (T.leaf (AV.c (C.d (D.v (Value.bool (SRel.harm r != (0 : Int))))), []))))) else some (T.leaf (AV.c (C.d (D.v (Value.bool false))), [])))))) := by kernel_rfl
noncomputable def ev88_v (r : SRel) : Bool :=
 (bif !SRel.kind r == (1 : Int) then (bif !(SRel.zon0 r == false && (SRel.zfw0 r == false && (SRel.zx0 r == (0 : Int) && (SRel.zr0 r == (0 : Int) && (SRel.zl0 r == (0 : Int) &&
 (SRel.zd0 r == (0 : Int) && true))))) && (SRel.zon1 r == false && (SRel.zfw1 r == false && (SRel.zx1 r == (0 : Int) && (SRel.zr1 r == (0 : Int) && (SRel.zl1 r == (0 : Int) &&
 (SRel.zd1 r == (0 : Int) && true))))) && (SRel.zon2 r == false && (SRel.zfw2 r == false && (SRel.zx2 r == (0 : Int) && (SRel.zr2 r == (0 : Int) && (SRel.zl2 r == (0 : Int) &&
 (SRel.zd2 r == (0 : Int) && true))))) && true))) then (true) else (bif SRel.min r != (0 : Int) then (true) else (bif SRel.kre r != (0 : Int) then (true) else (bif SRel.kim r != (0 :
 Int) then (true) else (bif SRel.scheme r != (0 : Int) then (true) else (bif SRel.wait r != (0 : Int) then (true) else (bif SRel.guard r != (0 : Int) then (true) else (bif SRel.shots
 r != (0 : Int) then (true) else (bif SRel.dead r != (0 : Int) then (true) else (bif SRel.reclaim r != (0 : Int) then (true) else (bif !SRel.kind r == (2 : Int) then (bif !(SRel.uon
 r == false && (SRel.upk r == (0 : Int) && (SRel.udl r == (0 : Int) && true))) then (true) else (bif !(SRel.oon r == false && (SRel.opk r == (0 : Int) && (SRel.odl r == (0 : Int) &&
 true))) then (true) else (bif SRel.kind r == (4 : Int) then (bif !(SRel.don r == false && (SRel.dpk r == (0 : Int) && (SRel.ddl r == (0 : Int) && true))) then (true) else (bif
 !(SRel.ion r == false && (SRel.ipk r == (0 : Int) && (SRel.idl r == (0 : Int) && true))) then (true) else (bif !(SRel.fon r == false && (SRel.fpk r == (0 : Int) && (SRel.fdl r == (0
 : Int) && true))) then (true) else (bif !SRel.kind r == (4 : Int) then (bif SRel.diff r != (0 : Int) then (true) else (bif SRel.num r != (0 : Int) then (true) else (bif SRel.den r
 != (0 : Int) then (true) else ((SRel.harm r != (0 : Int)))))) else (false))))) else (bif !SRel.kind r == (4 : Int) then (bif SRel.diff r != (0 : Int) then (true) else (bif SRel.num
 r != (0 : Int) then (true) else (bif SRel.den r != (0 : Int) then (true) else ((SRel.harm r != (0 : Int)))))) else (false))))) else (bif SRel.kind r == (4 : Int) then (bif
 !(SRel.don r == false && (SRel.dpk r == (0 : Int) && (SRel.ddl r == (0 : Int) && true))) then (true) else (bif !(SRel.ion r == false && (SRel.ipk r == (0 : Int) && (SRel.idl r == (0
 : Int) && true))) then (true) else (bif !(SRel.fon r == false && (SRel.fpk r == (0 : Int) && (SRel.fdl r == (0 : Int) && true))) then (true) else (bif !SRel.kind r == (4 : Int) then
 (bif SRel.diff r != (0 : Int) then (true) else (bif SRel.num r != (0 : Int) then (true) else (bif SRel.den r != (0 : Int) then (true) else ((SRel.harm r != (0 : Int)))))) else
 (false))))) else (bif !SRel.kind r == (4 : Int) then (bif SRel.diff r != (0 : Int) then (true) else (bif SRel.num r != (0 : Int) then (true) else (bif SRel.den r != (0 : Int) then
 (true) else ((SRel.harm r != (0 : Int)))))) else (false)))))))))))))) else (bif !SRel.kind r == (2 : Int) then (bif !(SRel.uon r == false && (SRel.upk r == (0 : Int) && (SRel.udl r
 == (0 : Int) && true))) then (true) else (bif !(SRel.oon r == false && (SRel.opk r == (0 : Int) && (SRel.odl r == (0 : Int) && true))) then (true) else (bif SRel.kind r == (4 : Int)
 then (bif !(SRel.don r == false && (SRel.dpk r == (0 : Int) && (SRel.ddl r == (0 : Int) && true))) then (true) else (bif !(SRel.ion r == false && (SRel.ipk r == (0 : Int) &&
 (SRel.idl r == (0 : Int) && true))) then (true) else (bif !(SRel.fon r == false && (SRel.fpk r == (0 : Int) && (SRel.fdl r == (0 : Int) && true))) then (true) else (bif !SRel.kind r
 == (4 : Int) then (bif SRel.diff r != (0 : Int) then (true) else (bif SRel.num r != (0 : Int) then (true) else (bif SRel.den r != (0 : Int) then (true) else ((SRel.harm r != (0 :
 Int)))))) else (false))))) else (bif !SRel.kind r == (4 : Int) then (bif SRel.diff r != (0 : Int) then (true) else (bif SRel.num r != (0 : Int) then (true) else (bif SRel.den r !=
 (0 : Int) then (true) else ((SRel.harm r != (0 : Int)))))) else (false))))) else (bif SRel.kind r == (4 : Int) then (bif !(SRel.don r == false && (SRel.dpk r == (0 : Int) &&
 (SRel.ddl r == (0 : Int) && true))) then (true) else (bif !(SRel.ion r == false && (SRel.ipk r == (0 : Int) && (SRel.idl r == (0 : Int) && true))) then (true) else (bif !(SRel.fon r
 == false && (SRel.fpk r == (0 : Int) && (SRel.fdl r == (0 : Int) && true))) then (true) else (bif !SRel.kind r == (4 : Int) then (bif SRel.diff r != (0 : Int) then (true) else (bif
 SRel.num r != (0 : Int) then (true) else (bif SRel.den r != (0 : Int) then (true) else ((SRel.harm r != (0 : Int)))))) else (false))))) else (bif !SRel.kind r == (4 : Int) then (bif
 SRel.diff r != (0 : Int) then (true) else (bif SRel.num r != (0 : Int) then (true) else (bif SRel.den r != (0 : Int) then (true) else ((SRel.harm r != (0 : Int)))))) else
 (false)))))
set_option maxRecDepth 100000 in
theorem ev88 (r : SRel) : callC Tryz.prog oB3 na 5 Tryz.f88 (bodyOf Tryz.f88) [aRel r] [] = some (.leaf (vB (ev88_v r), [])) := by
  rw [ev88_t]
  unfold ev88_v
  simp only [bLeaf]
set_option maxRecDepth 100000 in
theorem ev130_t (r : SRel) : callC Tryz.prog oB3 na 5 Tryz.f130 (bodyOf Tryz.f130) [aRel r] [] =
 (bif !SRel.zon0 r then (bif !(SRel.zon0 r == false && (SRel.zfw0 r == false && (SRel.zx0 r == (0 : Int) && (SRel.zr0 r == (0 : Int) && (SRel.zl0 r == (0 : Int) && (SRel.zd0 r == (0
 : Int) && true)))))) then some (T.leaf (AV.c (C.d (D.v (Value.bool false))), [])) else (bif !SRel.zon1 r then (bif !(SRel.zon1 r == false && (SRel.zfw1 r == false && (SRel.zx1 r ==
 (0 : Int) && (SRel.zr1 r == (0 : Int) && (SRel.zl1 r == (0 : Int) && (SRel.zd1 r == (0 : Int) && true)))))) then some (T.leaf (AV.c (C.d (D.v (Value.bool false))), [])) else (bif
 !SRel.zon2 r then (bif !(SRel.zon2 r == false && (SRel.zfw2 r == false && (SRel.zx2 r == (0 : Int) && (SRel.zr2 r == (0 : Int) && (SRel.zl2 r == (0 : Int) && (SRel.zd2 r == (0 :
 Int) && true)))))) then some (T.leaf (AV.c (C.d (D.v (Value.bool false))), [])) else (bif SRel.min r == (0 : Int) then (bif SRel.kre r == (0 : Int) then some (T.leaf (AV.c (C.d (D.v
 (Value.bool (SRel.kim r == (0 : Int))))), [])) else some (T.leaf (AV.c (C.d (D.v (Value.bool false))), []))) else some (T.leaf (AV.c (C.d (D.v (Value.bool false))), [])))) else (bif
 !within (SRel.zx2 r) (1 : Int) (4000 : Int) then some (T.leaf (AV.c (C.d (D.v (Value.bool false))), [])) else (bif !within (SRel.zr2 r) (0 : Int) (4000 : Int) then some (T.leaf
 (AV.c (C.d (D.v (Value.bool false))), [])) else (bif !within (SRel.zl2 r) (0 : Int) (4000 : Int) then some (T.leaf (AV.c (C.d (D.v (Value.bool false))), [])) else (bif !within
 (SRel.zd2 r) (0 : Int) (500 : Int) then some (T.leaf (AV.c (C.d (D.v (Value.bool false))), [])) else (bif within (SRel.min r) (1 : Int) (16383 : Int) then (bif within (SRel.kre r)
 (-200 : Int) (200 : Int) then some (T.leaf (AV.c (C.d (D.v (Value.bool (within (SRel.kim r) (-200 : Int) (200 : Int))))), [])) else some (T.leaf (AV.c (C.d (D.v (Value.bool
 false))), []))) else some (T.leaf (AV.c (C.d (D.v (Value.bool false))), []))))))))) else (bif !within (SRel.zx1 r) (1 : Int) (4000 : Int) then some (T.leaf (AV.c (C.d (D.v
 (Value.bool false))), [])) else (bif !within (SRel.zr1 r) (0 : Int) (4000 : Int) then some (T.leaf (AV.c (C.d (D.v (Value.bool false))), [])) else (bif !within (SRel.zl1 r) (0 :
 Int) (4000 : Int) then some (T.leaf (AV.c (C.d (D.v (Value.bool false))), [])) else (bif !within (SRel.zd1 r) (0 : Int) (500 : Int) then some (T.leaf (AV.c (C.d (D.v (Value.bool
 false))), [])) else (bif !SRel.zon2 r then (bif !(SRel.zon2 r == false && (SRel.zfw2 r == false && (SRel.zx2 r == (0 : Int) && (SRel.zr2 r == (0 : Int) && (SRel.zl2 r == (0 : Int)
 && (SRel.zd2 r == (0 : Int) && true)))))) then some (T.leaf (AV.c (C.d (D.v (Value.bool false))), [])) else (bif within (SRel.min r) (1 : Int) (16383 : Int) then (bif within
 (SRel.kre r) (-200 : Int) (200 : Int) then some (T.leaf (AV.c (C.d (D.v (Value.bool (within (SRel.kim r) (-200 : Int) (200 : Int))))), [])) else some (T.leaf (AV.c (C.d (D.v
 (Value.bool false))), []))) else some (T.leaf (AV.c (C.d (D.v (Value.bool false))), [])))) else (bif !within (SRel.zx2 r) (1 : Int) (4000 : Int) then some (T.leaf (AV.c (C.d (D.v
 (Value.bool false))), [])) else (bif !within (SRel.zr2 r) (0 : Int) (4000 : Int) then some (T.leaf (AV.c (C.d (D.v (Value.bool false))), [])) else (bif !within (SRel.zl2 r) (0 :
 Int) (4000 : Int) then some (T.leaf (AV.c (C.d (D.v (Value.bool false))), [])) else (bif !within (SRel.zd2 r) (0 : Int) (500 : Int) then some (T.leaf (AV.c (C.d (D.v (Value.bool
 false))), [])) else (bif within (SRel.min r) (1 : Int) (16383 : Int) then (bif within (SRel.kre r) (-200 : Int) (200 : Int) then some (T.leaf (AV.c (C.d (D.v (Value.bool (within
 (SRel.kim r) (-200 : Int) (200 : Int))))), [])) else some (T.leaf (AV.c (C.d (D.v (Value.bool false))), []))) else some (T.leaf (AV.c (C.d (D.v (Value.bool false))),
 [])))))))))))))) else (bif !within (SRel.zx0 r) (1 : Int) (4000 : Int) then some (T.leaf (AV.c (C.d (D.v (Value.bool false))), [])) else (bif !within (SRel.zr0 r) (0 : Int) (4000 :
 Int) then some (T.leaf (AV.c (C.d (D.v (Value.bool false))), [])) else (bif !within (SRel.zl0 r) (0 : Int) (4000 : Int) then some (T.leaf (AV.c (C.d (D.v (Value.bool false))), []))
 else (bif !within (SRel.zd0 r) (0 : Int) (500 : Int) then some (T.leaf (AV.c (C.d (D.v (Value.bool false))), [])) else (bif !SRel.zon1 r then (bif !(SRel.zon1 r == false &&
 (SRel.zfw1 r == false && (SRel.zx1 r == (0 : Int) && (SRel.zr1 r == (0 : Int) && (SRel.zl1 r == (0 : Int) && (SRel.zd1 r == (0 : Int) && true)))))) then some (T.leaf (AV.c (C.d (D.v
 (Value.bool false))), [])) else (bif !SRel.zon2 r then (bif !(SRel.zon2 r == false && (SRel.zfw2 r == false && (SRel.zx2 r == (0 : Int) && (SRel.zr2 r == (0 : Int) && (SRel.zl2 r ==
 (0 : Int) && (SRel.zd2 r == (0 : Int) && true)))))) then some (T.leaf (AV.c (C.d (D.v (Value.bool false))), [])) else (bif within (SRel.min r) (1 : Int) (16383 : Int) then (bif
 within (SRel.kre r) (-200 : Int) (200 : Int) then some (T.leaf (AV.c (C.d (D.v (Value.bool (within (SRel.kim r) (-200 : Int) (200 : Int))))), [])) else some (T.leaf (AV.c (C.d (D.v
 (Value.bool false))), []))) else some (T.leaf (AV.c (C.d (D.v (Value.bool false))), [])))) else (bif !within (SRel.zx2 r) (1 : Int) (4000 : Int) then some (T.leaf (AV.c (C.d (D.v
 (Value.bool false))), [])) else (bif !within (SRel.zr2 r) (0 : Int) (4000 : Int) then some (T.leaf (AV.c (C.d (D.v (Value.bool false))), [])) else (bif !within (SRel.zl2 r) (0 :
 Int) (4000 : Int) then some (T.leaf (AV.c (C.d (D.v (Value.bool false))), [])) else (bif !within (SRel.zd2 r) (0 : Int) (500 : Int) then some (T.leaf (AV.c (C.d (D.v (Value.bool
 false))), [])) else (bif within (SRel.min r) (1 : Int) (16383 : Int) then (bif within (SRel.kre r) (-200 : Int) (200 : Int) then some (T.leaf (AV.c (C.d (D.v (Value.bool (within
 (SRel.kim r) (-200 : Int) (200 : Int))))), [])) else some (T.leaf (AV.c (C.d (D.v (Value.bool false))), []))) else some (T.leaf (AV.c (C.d (D.v (Value.bool false))), [])))))))))
 else (bif !within (SRel.zx1 r) (1 : Int) (4000 : Int) then some (T.leaf (AV.c (C.d (D.v (Value.bool false))), [])) else (bif !within (SRel.zr1 r) (0 : Int) (4000 : Int) then some
 (T.leaf (AV.c (C.d (D.v (Value.bool false))), [])) else (bif !within (SRel.zl1 r) (0 : Int) (4000 : Int) then some (T.leaf (AV.c (C.d (D.v (Value.bool false))), [])) else (bif
 !within (SRel.zd1 r) (0 : Int) (500 : Int) then some (T.leaf (AV.c (C.d (D.v (Value.bool false))), [])) else (bif !SRel.zon2 r then (bif !(SRel.zon2 r == false && (SRel.zfw2 r ==
 false && (SRel.zx2 r == (0 : Int) && (SRel.zr2 r == (0 : Int) && (SRel.zl2 r == (0 : Int) && (SRel.zd2 r == (0 : Int) && true)))))) then some (T.leaf (AV.c (C.d (D.v (Value.bool
 false))), [])) else (bif within (SRel.min r) (1 : Int) (16383 : Int) then (bif within (SRel.kre r) (-200 : Int) (200 : Int) then some (T.leaf (AV.c (C.d (D.v (Value.bool (within
 (SRel.kim r) (-200 : Int) (200 : Int))))), [])) else some (T.leaf (AV.c (C.d (D.v (Value.bool false))), []))) else some (T.leaf (AV.c (C.d (D.v (Value.bool false))), [])))) else
 (bif !within (SRel.zx2 r) (1 : Int) (4000 : Int) then some (T.leaf (AV.c (C.d (D.v (Value.bool false))), [])) else (bif !within (SRel.zr2 r) (0 : Int) (4000 : Int) then some (T.leaf
 (AV.c (C.d (D.v (Value.bool false))), [])) else (bif !within (SRel.zl2 r) (0 : Int) (4000 : Int) then some (T.leaf (AV.c (C.d (D.v (Value.bool false))), [])) else (bif !within
 (SRel.zd2 r) (0 : Int) (500 : Int) then some (T.leaf (AV.c (C.d (D.v (Value.bool false))), [])) else (bif within (SRel.min r) (1 : Int) (16383 : Int) then (bif within (SRel.kre r)
 (-200 : Int) (200 : Int) then some (T.leaf (AV.c (C.d (D.v (Value.bool (within (SRel.kim r) (-200 : Int) (200 : Int))))), [])) else some (T.leaf (AV.c (C.d (D.v (Value.bool
 false))), []))) else some (T.leaf (AV.c (C.d (D.v (Value.bool false))), [])))))))))))))))))) := by kernel_rfl
noncomputable def ev130_v (r : SRel) : Bool :=
 (bif !SRel.zon0 r then (bif !(SRel.zon0 r == false && (SRel.zfw0 r == false && (SRel.zx0 r == (0 : Int) && (SRel.zr0 r == (0 : Int) && (SRel.zl0 r == (0 : Int) && (SRel.zd0 r == (0
 : Int) && true)))))) then (false) else (bif !SRel.zon1 r then (bif !(SRel.zon1 r == false && (SRel.zfw1 r == false && (SRel.zx1 r == (0 : Int) && (SRel.zr1 r == (0 : Int) &&
 (SRel.zl1 r == (0 : Int) && (SRel.zd1 r == (0 : Int) && true)))))) then (false) else (bif !SRel.zon2 r then (bif !(SRel.zon2 r == false && (SRel.zfw2 r == false && (SRel.zx2 r == (0
 : Int) && (SRel.zr2 r == (0 : Int) && (SRel.zl2 r == (0 : Int) && (SRel.zd2 r == (0 : Int) && true)))))) then (false) else (bif SRel.min r == (0 : Int) then (bif SRel.kre r == (0 :
 Int) then ((SRel.kim r == (0 : Int))) else (false)) else (false))) else (bif !within (SRel.zx2 r) (1 : Int) (4000 : Int) then (false) else (bif !within (SRel.zr2 r) (0 : Int) (4000
 : Int) then (false) else (bif !within (SRel.zl2 r) (0 : Int) (4000 : Int) then (false) else (bif !within (SRel.zd2 r) (0 : Int) (500 : Int) then (false) else (bif within (SRel.min
 r) (1 : Int) (16383 : Int) then (bif within (SRel.kre r) (-200 : Int) (200 : Int) then ((within (SRel.kim r) (-200 : Int) (200 : Int))) else (false)) else (false)))))))) else (bif
 !within (SRel.zx1 r) (1 : Int) (4000 : Int) then (false) else (bif !within (SRel.zr1 r) (0 : Int) (4000 : Int) then (false) else (bif !within (SRel.zl1 r) (0 : Int) (4000 : Int)
 then (false) else (bif !within (SRel.zd1 r) (0 : Int) (500 : Int) then (false) else (bif !SRel.zon2 r then (bif !(SRel.zon2 r == false && (SRel.zfw2 r == false && (SRel.zx2 r == (0
 : Int) && (SRel.zr2 r == (0 : Int) && (SRel.zl2 r == (0 : Int) && (SRel.zd2 r == (0 : Int) && true)))))) then (false) else (bif within (SRel.min r) (1 : Int) (16383 : Int) then (bif
 within (SRel.kre r) (-200 : Int) (200 : Int) then ((within (SRel.kim r) (-200 : Int) (200 : Int))) else (false)) else (false))) else (bif !within (SRel.zx2 r) (1 : Int) (4000 : Int)
 then (false) else (bif !within (SRel.zr2 r) (0 : Int) (4000 : Int) then (false) else (bif !within (SRel.zl2 r) (0 : Int) (4000 : Int) then (false) else (bif !within (SRel.zd2 r) (0
 : Int) (500 : Int) then (false) else (bif within (SRel.min r) (1 : Int) (16383 : Int) then (bif within (SRel.kre r) (-200 : Int) (200 : Int) then ((within (SRel.kim r) (-200 : Int)
 (200 : Int))) else (false)) else (false))))))))))))) else (bif !within (SRel.zx0 r) (1 : Int) (4000 : Int) then (false) else (bif !within (SRel.zr0 r) (0 : Int) (4000 : Int) then
 (false) else (bif !within (SRel.zl0 r) (0 : Int) (4000 : Int) then (false) else (bif !within (SRel.zd0 r) (0 : Int) (500 : Int) then (false) else (bif !SRel.zon1 r then (bif
 !(SRel.zon1 r == false && (SRel.zfw1 r == false && (SRel.zx1 r == (0 : Int) && (SRel.zr1 r == (0 : Int) && (SRel.zl1 r == (0 : Int) && (SRel.zd1 r == (0 : Int) && true)))))) then
 (false) else (bif !SRel.zon2 r then (bif !(SRel.zon2 r == false && (SRel.zfw2 r == false && (SRel.zx2 r == (0 : Int) && (SRel.zr2 r == (0 : Int) && (SRel.zl2 r == (0 : Int) &&
 (SRel.zd2 r == (0 : Int) && true)))))) then (false) else (bif within (SRel.min r) (1 : Int) (16383 : Int) then (bif within (SRel.kre r) (-200 : Int) (200 : Int) then ((within
 (SRel.kim r) (-200 : Int) (200 : Int))) else (false)) else (false))) else (bif !within (SRel.zx2 r) (1 : Int) (4000 : Int) then (false) else (bif !within (SRel.zr2 r) (0 : Int)
 (4000 : Int) then (false) else (bif !within (SRel.zl2 r) (0 : Int) (4000 : Int) then (false) else (bif !within (SRel.zd2 r) (0 : Int) (500 : Int) then (false) else (bif within
 (SRel.min r) (1 : Int) (16383 : Int) then (bif within (SRel.kre r) (-200 : Int) (200 : Int) then ((within (SRel.kim r) (-200 : Int) (200 : Int))) else (false)) else (false))))))))
 else (bif !within (SRel.zx1 r) (1 : Int) (4000 : Int) then (false) else (bif !within (SRel.zr1 r) (0 : Int) (4000 : Int) then (false) else (bif !within (SRel.zl1 r) (0 : Int) (4000
 : Int) then (false) else (bif !within (SRel.zd1 r) (0 : Int) (500 : Int) then (false) else (bif !SRel.zon2 r then (bif !(SRel.zon2 r == false && (SRel.zfw2 r == false && (SRel.zx2 r
 == (0 : Int) && (SRel.zr2 r == (0 : Int) && (SRel.zl2 r == (0 : Int) && (SRel.zd2 r == (0 : Int) && true)))))) then (false) else (bif within (SRel.min r) (1 : Int) (16383 : Int)
 then (bif within (SRel.kre r) (-200 : Int) (200 : Int) then ((within (SRel.kim r) (-200 : Int) (200 : Int))) else (false)) else (false))) else (bif !within (SRel.zx2 r) (1 : Int)
 (4000 : Int) then (false) else (bif !within (SRel.zr2 r) (0 : Int) (4000 : Int) then (false) else (bif !within (SRel.zl2 r) (0 : Int) (4000 : Int) then (false) else (bif !within
 (SRel.zd2 r) (0 : Int) (500 : Int) then (false) else (bif within (SRel.min r) (1 : Int) (16383 : Int) then (bif within (SRel.kre r) (-200 : Int) (200 : Int) then ((within (SRel.kim
 r) (-200 : Int) (200 : Int))) else (false)) else (false)))))))))))))))))
set_option maxRecDepth 100000 in
theorem ev130 (r : SRel) : callC Tryz.prog oB3 na 5 Tryz.f130 (bodyOf Tryz.f130) [aRel r] [] = some (.leaf (vB (ev130_v r), [])) := by
  rw [ev130_t]
  unfold ev130_v
  simp only [bLeaf]
set_option maxRecDepth 100000 in
theorem ev90_t (r : SRel) : callC Tryz.prog oB3 na 5 Tryz.f90 (bodyOf Tryz.f90) [aRel r] [] =
 (bif SRel.zon0 r then (bif SRel.zon1 r then (bif SRel.scheme r == (1 : Int) then (bif !SRel.zfw0 r then some (T.leaf (AV.c (C.d (D.v (Value.bool true))), [])) else some (T.leaf
 (AV.c (C.d (D.v (Value.bool !SRel.zfw1 r))), []))) else (bif SRel.scheme r == (2 : Int) then some (T.leaf (AV.c (C.d (D.v (Value.bool !SRel.zfw1 r))), [])) else (bif SRel.scheme r
 == (3 : Int) then (bif !SRel.zfw1 r then some (T.leaf (AV.c (C.d (D.v (Value.bool true))), [])) else (bif !SRel.zon2 r then some (T.leaf (AV.c (C.d (D.v (Value.bool true))), []))
 else some (T.leaf (AV.c (C.d (D.v (Value.bool (SRel.zfw2 r)))), [])))) else some (T.leaf (AV.c (C.d (D.v (Value.bool false))), []))))) else (bif SRel.scheme r == (1 : Int) then (bif
 !SRel.zfw0 r then some (T.leaf (AV.c (C.d (D.v (Value.bool true))), [])) else some (T.leaf (AV.c (C.d (D.v (Value.bool true))), []))) else (bif SRel.scheme r == (2 : Int) then some
 (T.leaf (AV.c (C.d (D.v (Value.bool true))), [])) else (bif SRel.scheme r == (3 : Int) then some (T.leaf (AV.c (C.d (D.v (Value.bool true))), [])) else some (T.leaf (AV.c (C.d (D.v
 (Value.bool false))), [])))))) else (bif SRel.zon1 r then (bif SRel.scheme r == (1 : Int) then some (T.leaf (AV.c (C.d (D.v (Value.bool true))), [])) else (bif SRel.scheme r == (2 :
 Int) then some (T.leaf (AV.c (C.d (D.v (Value.bool !SRel.zfw1 r))), [])) else (bif SRel.scheme r == (3 : Int) then (bif !SRel.zfw1 r then some (T.leaf (AV.c (C.d (D.v (Value.bool
 true))), [])) else (bif !SRel.zon2 r then some (T.leaf (AV.c (C.d (D.v (Value.bool true))), [])) else some (T.leaf (AV.c (C.d (D.v (Value.bool (SRel.zfw2 r)))), [])))) else some
 (T.leaf (AV.c (C.d (D.v (Value.bool false))), []))))) else (bif SRel.scheme r == (1 : Int) then some (T.leaf (AV.c (C.d (D.v (Value.bool true))), [])) else (bif SRel.scheme r == (2
 : Int) then some (T.leaf (AV.c (C.d (D.v (Value.bool true))), [])) else (bif SRel.scheme r == (3 : Int) then some (T.leaf (AV.c (C.d (D.v (Value.bool true))), [])) else some (T.leaf
 (AV.c (C.d (D.v (Value.bool false))), []))))))) := by kernel_rfl
noncomputable def ev90_v (r : SRel) : Bool :=
 (bif SRel.zon0 r then (bif SRel.zon1 r then (bif SRel.scheme r == (1 : Int) then (bif !SRel.zfw0 r then (true) else (!SRel.zfw1 r)) else (bif SRel.scheme r == (2 : Int) then
 (!SRel.zfw1 r) else (bif SRel.scheme r == (3 : Int) then (bif !SRel.zfw1 r then (true) else (bif !SRel.zon2 r then (true) else ((SRel.zfw2 r)))) else (false)))) else (bif
 SRel.scheme r == (1 : Int) then (bif !SRel.zfw0 r then (true) else (true)) else (bif SRel.scheme r == (2 : Int) then (true) else (bif SRel.scheme r == (3 : Int) then (true) else
 (false))))) else (bif SRel.zon1 r then (bif SRel.scheme r == (1 : Int) then (true) else (bif SRel.scheme r == (2 : Int) then (!SRel.zfw1 r) else (bif SRel.scheme r == (3 : Int) then
 (bif !SRel.zfw1 r then (true) else (bif !SRel.zon2 r then (true) else ((SRel.zfw2 r)))) else (false)))) else (bif SRel.scheme r == (1 : Int) then (true) else (bif SRel.scheme r ==
 (2 : Int) then (true) else (bif SRel.scheme r == (3 : Int) then (true) else (false))))))
set_option maxRecDepth 100000 in
theorem ev90 (r : SRel) : callC Tryz.prog oB3 na 5 Tryz.f90 (bodyOf Tryz.f90) [aRel r] [] = some (.leaf (vB (ev90_v r), [])) := by
  rw [ev90_t]
  unfold ev90_v
  simp only [bLeaf]
noncomputable def ann89 : Ann := annOf [(100003, ⟨[1], []⟩), (100005, ⟨[1], []⟩), (100007, ⟨[1], []⟩), (100009, ⟨[1], []⟩), (100011, ⟨[1], []⟩), (100013, ⟨[1], []⟩)]
noncomputable def L89_3 (okr zo : List AV → Bool) (r : SRel) (g m : Nat)  := GK Tryz.prog (oNu okr zo) ann89 (List.length (α := Nat × Blk) []) g Tryz.f89 3 m ⟨frm [(1, AV.c (C.ptr 0 0))] 0 Tryz.f89.ntmps, [(0, Blk.cells (List.map C.d (relC r)) 57)], 1⟩
noncomputable def L89_5 (okr zo : List AV → Bool) (r : SRel) (g m : Nat)  := GK Tryz.prog (oNu okr zo) ann89 (List.length (α := Nat × Blk) []) g Tryz.f89 5 m ⟨frm [(1, AV.c (C.ptr 0 0))] 0 Tryz.f89.ntmps, [(0, Blk.cells (List.map C.d (relC r)) 57)], 1⟩
noncomputable def L89_7 (okr zo : List AV → Bool) (r : SRel) (g m : Nat)  := GK Tryz.prog (oNu okr zo) ann89 (List.length (α := Nat × Blk) []) g Tryz.f89 7 m ⟨frm [(1, AV.c (C.ptr 0 0))] 0 Tryz.f89.ntmps, [(0, Blk.cells (List.map C.d (relC r)) 57)], 1⟩
noncomputable def L89_9 (okr zo : List AV → Bool) (r : SRel) (g m : Nat)  := GK Tryz.prog (oNu okr zo) ann89 (List.length (α := Nat × Blk) []) g Tryz.f89 9 m ⟨frm [(1, AV.c (C.ptr 0 0))] 0 Tryz.f89.ntmps, [(0, Blk.cells (List.map C.d (relC r)) 57)], 1⟩
noncomputable def L89_11 (okr zo : List AV → Bool) (r : SRel) (g m : Nat)  := GK Tryz.prog (oNu okr zo) ann89 (List.length (α := Nat × Blk) []) g Tryz.f89 11 m ⟨frm [(1, AV.c (C.ptr 0 0))] 0 Tryz.f89.ntmps, [(0, Blk.cells (List.map C.d (relC r)) 57)], 1⟩
noncomputable def L89_13 (okr zo : List AV → Bool) (r : SRel) (g m : Nat)  := GK Tryz.prog (oNu okr zo) ann89 (List.length (α := Nat × Blk) []) g Tryz.f89 13 m ⟨frm [(1, AV.c (C.ptr 0 0))] 0 Tryz.f89.ntmps, [(0, Blk.cells (List.map C.d (relC r)) 57)], 1⟩
theorem b89 : Tryz.f89.body = some (bodyOf Tryz.f89) := by kernel_rfl
set_option maxRecDepth 100000 in
theorem ev89 (okr zo : List AV → Bool) (r : SRel) (g : Nat) : callC Tryz.prog (oNu okr zo) ann89 g Tryz.f89 (bodyOf Tryz.f89) [aRel r] [] =
 (bif okr [AV.agg (List.map C.d (relC r))] then (bif !zo [AV.agg (List.map C.d (relC r))] then some (T.leaf (AV.c (C.d (D.v (Value.bool false))), [])) else (bif !within (SRel.scheme
 r) (0 : Int) (3 : Int) then some (T.leaf (AV.c (C.d (D.v (Value.bool false))), [])) else (bif !within (SRel.guard r) (0 : Int) (50 : Int) then some (T.leaf (AV.c (C.d (D.v
 (Value.bool false))), [])) else (bif SRel.scheme r == (0 : Int) then (bif SRel.guard r != (0 : Int) then some (T.leaf (AV.c (C.d (D.v (Value.bool false))), [])) else L89_3 okr zo r
 g g) else L89_3 okr zo r g g)))) else none) := by kernel_rfl
set_option maxRecDepth 100000 in
theorem st89_3 (okr zo : List AV → Bool) (r : SRel) (g m : Nat) : L89_3 okr zo r g (m + 1) =
 (bif SRel.scheme r == (3 : Int) then (bif !within (SRel.wait r) (1 : Int) (50 : Int) then some (T.leaf (AV.c (C.d (D.v (Value.bool false))), [])) else (bif SRel.scheme r != (3 :
 Int) then (bif SRel.wait r != (0 : Int) then some (T.leaf (AV.c (C.d (D.v (Value.bool false))), [])) else L89_5 okr zo r g g) else L89_5 okr zo r g g)) else (bif SRel.scheme r != (3
 : Int) then (bif SRel.wait r != (0 : Int) then some (T.leaf (AV.c (C.d (D.v (Value.bool false))), [])) else L89_5 okr zo r g g) else L89_5 okr zo r g g)) := by kernel_rfl
set_option maxRecDepth 100000 in
theorem st89_5 (okr zo : List AV → Bool) (r : SRel) (g m : Nat) : L89_5 okr zo r g (m + 1) =
 (bif !elOk (SRel.don r) (SRel.dpk r) (SRel.ddl r) (0 : Int) then some (T.leaf (AV.c (C.d (D.v (Value.bool false))), [])) else (bif !elOk (SRel.uon r) (SRel.upk r) (SRel.udl r) (0 :
 Int) then some (T.leaf (AV.c (C.d (D.v (Value.bool false))), [])) else (bif !elOk (SRel.oon r) (SRel.opk r) (SRel.odl r) (0 : Int) then some (T.leaf (AV.c (C.d (D.v (Value.bool
 false))), [])) else (bif !elOk (SRel.fon r) (SRel.fpk r) (SRel.fdl r) (1 : Int) then some (T.leaf (AV.c (C.d (D.v (Value.bool false))), [])) else L89_7 okr zo r g g)))) := by kernel_rfl
set_option maxRecDepth 100000 in
theorem st89_7 (okr zo : List AV → Bool) (r : SRel) (g m : Nat) : L89_7 okr zo r g (m + 1) =
 (bif SRel.ion r then (bif !within (SRel.ipk r) (1 : Int) (16383 : Int) then some (T.leaf (AV.c (C.d (D.v (Value.bool false))), [])) else (bif !within (SRel.idl r) (1 : Int) (1000 :
 Int) then some (T.leaf (AV.c (C.d (D.v (Value.bool false))), [])) else (bif !SRel.ion r then (bif !(SRel.ion r == false && (SRel.ipk r == (0 : Int) && (SRel.idl r == (0 : Int) &&
 true))) then some (T.leaf (AV.c (C.d (D.v (Value.bool false))), [])) else L89_9 okr zo r g g) else L89_9 okr zo r g g))) else (bif !SRel.ion r then (bif !(SRel.ion r == false &&
 (SRel.ipk r == (0 : Int) && (SRel.idl r == (0 : Int) && true))) then some (T.leaf (AV.c (C.d (D.v (Value.bool false))), [])) else L89_9 okr zo r g g) else L89_9 okr zo r g g)) := by kernel_rfl
set_option maxRecDepth 100000 in
theorem st89_9 (okr zo : List AV → Bool) (r : SRel) (g m : Nat) : L89_9 okr zo r g (m + 1) =
 (bif !within (SRel.shots r) (0 : Int) (3 : Int) then some (T.leaf (AV.c (C.d (D.v (Value.bool false))), [])) else (bif SRel.shots r == (0 : Int) then (bif SRel.dead r != (0 : Int)
 then some (T.leaf (AV.c (C.d (D.v (Value.bool false))), [])) else (bif SRel.reclaim r != (0 : Int) then some (T.leaf (AV.c (C.d (D.v (Value.bool false))), [])) else (bif decide
 (SRel.shots r > (0 : Int)) then (bif !within (SRel.dead r) (1 : Int) (100 : Int) then some (T.leaf (AV.c (C.d (D.v (Value.bool false))), [])) else (bif !within (SRel.reclaim r) (1 :
 Int) (1000 : Int) then some (T.leaf (AV.c (C.d (D.v (Value.bool false))), [])) else L89_11 okr zo r g g)) else L89_11 okr zo r g g))) else (bif decide (SRel.shots r > (0 : Int))
 then (bif !within (SRel.dead r) (1 : Int) (100 : Int) then some (T.leaf (AV.c (C.d (D.v (Value.bool false))), [])) else (bif !within (SRel.reclaim r) (1 : Int) (1000 : Int) then
 some (T.leaf (AV.c (C.d (D.v (Value.bool false))), [])) else L89_11 okr zo r g g)) else L89_11 okr zo r g g))) := by kernel_rfl
set_option maxRecDepth 100000 in
theorem st89_11 (okr zo : List AV → Bool) (r : SRel) (g m : Nat) : L89_11 okr zo r g (m + 1) =
 (bif !within (SRel.diff r) (0 : Int) (16383 : Int) then some (T.leaf (AV.c (C.d (D.v (Value.bool false))), [])) else (bif SRel.diff r == (0 : Int) then (bif SRel.num r != (0 : Int)
 then some (T.leaf (AV.c (C.d (D.v (Value.bool false))), [])) else (bif SRel.den r != (0 : Int) then some (T.leaf (AV.c (C.d (D.v (Value.bool false))), [])) else (bif SRel.harm r !=
 (0 : Int) then some (T.leaf (AV.c (C.d (D.v (Value.bool false))), [])) else L89_13 okr zo r g g))) else L89_13 okr zo r g g)) := by kernel_rfl
set_option maxRecDepth 100000 in
theorem st89_13 (okr zo : List AV → Bool) (r : SRel) (g m : Nat) : L89_13 okr zo r g (m + 1) =
 (bif SRel.diff r == (0 : Int) then some (T.leaf (AV.c (C.d (D.v (Value.bool true))), [])) else (bif within (SRel.den r) (1 : Int) (100 : Int) then (bif within (SRel.num r) (0 : Int)
 (SRel.den r) then some (T.leaf (AV.c (C.d (D.v (Value.bool (within (SRel.harm r) (0 : Int) (100 : Int))))), [])) else some (T.leaf (AV.c (C.d (D.v (Value.bool false))), []))) else
 some (T.leaf (AV.c (C.d (D.v (Value.bool false))), [])))) := by kernel_rfl
end Go.Proofs.YtngoglhlhlfknaaGreat.se
namespace Go.Proofs.YtngoglhlhlfknaaGreat.se
open Go.RowKit Go.Eb Go.Proofs.YtngoglhlhlfknaaGreat.st
set_option maxRecDepth 100000

theorem bIx : Tryz.f44.body = some (bodyOf Tryz.f44) := by kernel_rfl
theorem sIx {r : Orc} (h : OrcS Tryz.prog r) : OrcS Tryz.prog (oIx (okG eIx cIx) (fun x => idxF (theT eIx x).2 0 (theT eIx x).1) r) :=
  .cons (.lt (r := fun (a : List ByteArray × ByteArray) => vI (idxF a.2 0 a.1)) Tryz.func44 bIx (fun _ => rfl) fun a h => c46 a.1 a.2 (lenOk_le h)) h
/-! reserved -/
theorem cSelf (a b : Bool) : (bif a then (bif a then true else false) else b) = bif a then true else b := by cases a <;> rfl
theorem res_eq (s : ByteArray) : ev133_v s = ev115_v s := by
  have h : ∀ a : ByteArray, (a.toList == s.toList) = (s.toList == a.toList) := fun a => Bool.beq_comm ..
  unfold ev133_v ev115_v
  simp only [h, cSelf]
theorem c133 (s : ByteArray) : CX Tryz.prog 133 [vS s] [] (vB (ev115_v s)) [] := by
  have hs : OrcS Tryz.prog (Orc.cons 44 (inl Tryz.prog Orc.nil na 20 Tryz.f44) Orc.nil) := .cons (.inl .nil Tryz.func44 bIx) .nil
  have := cx_of hs.ok Tryz.func133 (by kernel_rfl) rfl (ev133 s)
  rw [res_eq] at this
  exact this

/-! many -/
theorem c91 (r : SRel) (hr : okRel r = true) : CX Tryz.prog 91 [aRel r] [] (vB (!countsOk r)) [] := by
  obtain ⟨h1, h2, h3, h4, h5⟩ := okRel_len hr
  obtain ⟨g, hg⟩ : ∃ g, r.sets.length < g := ⟨r.sets.length + 1, by omega⟩
  refine cx_of (Orc.nil_ok _) Tryz.func91 b91 rfl ((ev91 r g).trans ?_)
  have l1 := anyL_loop (p := setBad) (l := r.sets) (d0 := set0) (L := fun m i => L91_4 r g m i) (A := lB true) (B := lB false) (fun m k hk => by
    rw [st91_4, lt1 hk, ge0, tn, nx hk h2]
    unfold setBad
    have e1 : decide (((r.sets.getD k set0).sigs.length : Int) < 1) = !decide (1 ≤ (r.sets.getD k set0).sigs.length) := by
      rw [Bool.eq_iff_iff, decide_eq_true_eq, Bool.not_eq_true', decide_eq_false_iff_not]; omega
    have e2 : decide (((r.sets.getD k set0).sigs.length : Int) > 24) = !decide ((r.sets.getD k set0).sigs.length ≤ 24) := by
      rw [Bool.eq_iff_iff, decide_eq_true_eq, Bool.not_eq_true', decide_eq_false_iff_not]; omega
    rw [e1, e2]
    cases decide (1 ≤ (r.sets.getD k set0).sigs.length) <;> cases decide ((r.sets.getD k set0).sigs.length ≤ 24) <;> rfl) (fun m => by rw [st91_4, lt0 (Nat.lt_irrefl _)]; rfl) g 0 (by omega) (by omega)
  have e1 : L91_4 r g g 0 = _ := l1
  have g1 : ∀ n k : Nat, decide ((n : Int) > (k : Int)) = !decide (n ≤ k) := fun n k => by
    rw [Bool.eq_iff_iff, decide_eq_true_eq, Bool.not_eq_true', decide_eq_false_iff_not]; omega
  have g16 := g1 r.rules.length 16
  have g4 := g1 r.sets.length 4
  have g4' := g1 r.pubs.length 4
  have g24 := g1 r.subs.length 24
  have f16 : decide ((r.rules.length : Int) > 16) = !decide (r.rules.length ≤ 16) := g16
  have f4 : decide ((r.sets.length : Int) > 4) = !decide (r.sets.length ≤ 4) := g4
  have f4' : decide ((r.pubs.length : Int) > 4) = !decide (r.pubs.length ≤ 4) := g4'
  have f24 : decide ((r.subs.length : Int) > 24) = !decide (r.subs.length ≤ 24) := g24
  rw [e1, f16, f4, f4', f24]
  simp only [List.drop_zero]
  unfold countsOk
  cases decide (r.rules.length ≤ 16) <;> cases decide (r.sets.length ≤ 4) <;> cases decide (r.pubs.length ≤ 4) <;> cases decide (r.subs.length ≤ 24) <;> cases r.sets.any setBad <;> rfl

/-! place -/
theorem lp87 (s : SSta) (b : List SRel) (r : SRel) (g : Nat) (hb : b.length ≤ 9223372036854775807) (hg : b.length < g) : L87_16 s b r g g 0 = lN (seenB (b.map SRel.bay) r.bay) := by
  have l1 := anyL_loop (p := fun x : SRel => x.bay == r.bay) (l := b) (d0 := rel0) (L := fun m i => L87_16 s b r g m i) (A := lN 12) (B := lN 0) (fun m k hk => by
    rw [st87_16, lt1 hk, ge0, tn, nx hk hb]; rfl) (fun m => by rw [st87_16, lt0 (Nat.lt_irrefl _)]; rfl) g 0 (by omega) (by omega)
  have e1 : L87_16 s b r g g 0 = _ := l1
  rw [e1]
  simp only [List.drop_zero]
  unfold seenB
  rw [List.any_map]
  have e2 : (b.any fun x => x.bay == r.bay) = b.any ((fun m => r.bay == m) ∘ SRel.bay) := by
    congr 1; funext x; exact Bool.beq_comm ..
  rw [e2]
  cases b.any ((fun m => r.bay == m) ∘ SRel.bay) <;> rfl
theorem c87 (s : SSta) (b : List SRel) (r : SRel) (hs : s.bays.length ≤ 9223372036854775807) (hb : lenOk b = true) : CX Tryz.prog 87 [aSta s, .c (.d (relsD b)), aRel r] [] (vI (placeErr s.bays (b.map SRel.bay) r)) [] := by
  obtain ⟨g, hg⟩ : ∃ g, b.length < g := ⟨b.length + 1, by omega⟩
  refine cx_of (Orc.nil_ok _) Tryz.func87 b87 rfl ((ev87 s b r g).trans ?_)
  rw [lp87 s b r g (lenOk_le hb) hg]
  have w : within r.bay 0 ((s.bays.length : Int) - 1) = (!decide (r.bay < 0) && !decide (r.bay ≥ (s.bays.length : Int))) := by
    unfold within
    by_cases h1 : r.bay < 0
    · rw [decide_eq_true h1, decide_eq_false (by omega)]; rfl
    · by_cases h2 : r.bay ≥ (s.bays.length : Int)
      · rw [decide_eq_false h1, decide_eq_true h2, decide_eq_false (show ¬ r.bay ≤ (s.bays.length : Int) - 1 by omega)]; simp
      · rw [decide_eq_false h1, decide_eq_false h2, decide_eq_true (show r.bay ≤ (s.bays.length : Int) - 1 by omega), decide_eq_true (show r.bay ≥ 0 by omega)]; rfl
  have i : r.bay < (0 : Int) ∨ r.bay ≥ (s.bays.length : Int) ∨ (decide ((0 : Int) ≤ r.bay) && decide (r.bay < (s.bays.length : Int))) = true := by
    by_cases h1 : r.bay < 0
    · exact .inl h1
    · by_cases h2 : r.bay ≥ (s.bays.length : Int)
      · exact .inr (.inl h2)
      · refine .inr (.inr ?_); rw [decide_eq_true (by omega), decide_eq_true (by omega)]; rfl
  unfold placeErr placeK
  rw [w]
  generalize seenB (b.map SRel.bay) r.bay = sb
  generalize (s.bays.getD r.bay.toNat bay0).kind = kd
  rcases i with h | h | h
  · rw [decide_eq_true h]
    cases (r.kind == 1) <;> cases (r.kind == 2) <;> cases (r.kind == 3) <;> cases (r.kind == 4) <;> cases (r.bay != -1) <;> rfl
  · rw [decide_eq_true h]
    cases decide (r.bay < 0) <;> cases (r.kind == 1) <;> cases (r.kind == 2) <;> cases (r.kind == 3) <;> cases (r.kind == 4) <;> cases (r.bay != -1) <;> rfl
  · rw [h]
    cases decide (r.bay < 0) <;> cases decide (r.bay ≥ (s.bays.length : Int)) <;> cases (r.kind == 1) <;> cases (r.kind == 2) <;> cases (r.kind == 3) <;> cases (r.kind == 4) <;> cases (r.bay != -1) <;> cases (kd != 1) <;> cases (kd != 2) <;> cases (kd != 3) <;> rfl

/-! rules -/
noncomputable abbrev ix2 : List AV → Int := fun x => idxF (theT eIx x).2 0 (theT eIx x).1
noncomputable abbrev ok2 : List AV → Bool := okG eIx cIx
theorem ix_ge {n : Nat} {f : Nat → List D} {l : List ByteArray} (hr : RL busC e0 n f l) (hn : n ≤ 9000) (s : ByteArray) : ok2 [.c (.d (.sl 1 n f)), vS s] = true ∧ decide (ix2 [.c (.d (.sl 1 n f)), vS s] ≥ 0) = inB l s := by
  obtain ⟨h1, h2⟩ := ix_okr hr hn s
  refine ⟨h1, ?_⟩
  unfold ix2
  rw [h2, idxF_ge]
theorem s92 : OrcS Tryz.prog (o92 nameOk ev115_v ok2 ix2) := sIx (.cons (.p decS_ok c16) (.cons (.p decS_ok c133) .nil))
theorem lp92i (r : SRel) (g mo n : Nat) (f : Nat → List D) (k : Nat) (hs : (r.rules.getD k rule0).text.size ≤ 120) (hk : k < r.rules.length) (hl : r.rules.length ≤ 9000) (hn : n ≤ 9000) : ∀ (m j : Nat), j ≤ (r.rules.getD k rule0).text.size → (r.rules.getD k rule0).text.size - j < m →
    L92_13 nameOk ev115_v ok2 ix2 r g mo m n f k j = bif ((r.rules.getD k rule0).text.data.toList.drop j).any badByte then lN 5 else L92_3 nameOk ev115_v ok2 ix2 r g mo (n + 1) (appF n f (chunk (busC (r.rules.getD k rule0).name) 1)) ((k + 1 : Nat) : Int)
  | 0, j, _, h => by omega
  | m + 1, j, hj, h => by
    rw [st92_13, tn]
    have ih := lp92i r g mo n f k hs hk hl hn m (j + 1)
    generalize hx : r.rules.getD k rule0 = x at ih hs hj h ⊢
    by_cases hlt : j < x.text.size
    · have hlt' : j < x.text.data.toList.length := by simpa using hlt
      rw [drop_at' (d := 0) hlt', lt1 hlt, ge0, tn, nx hlt (by omega), ih (by omega) (by omega)]
      simp only [tt, cond_true, List.any_cons, badByte]
      generalize decide (((x.text.data.toList.getD j 0).toNat : Int) < 32) = a1
      generalize decide (((x.text.data.toList.getD j 0).toNat : Int) > 126) = a2
      generalize (((x.text.data.toList.getD j 0).toNat : Int) == 34) = a3
      cases a1 <;> cases a2 <;> cases a3 <;> rfl
    · rw [lt0 hlt, List.drop_of_length_le (by simp; omega), apOk16 hn, nx hk (by omega)]
      rfl
theorem c92 (r : SRel) (h1 : r.rules.length ≤ 9000) : CX Tryz.prog 92 [aRel r] [] (vI (eRules r.rules)) [] := by
  obtain ⟨g, g1, g2⟩ : ∃ g, r.rules.length < g ∧ 120 < g := ⟨r.rules.length + 121, by omega, by omega⟩
  refine cx_of s92.ok Tryz.func92 b92 rfl ((ev92 _ _ _ _ r g).trans ?_)
  have key := seenr_loop (valid := ruleOk) (key := SRule.name) (rest := fun x => textErr x.text) (l := r.rules) (d0 := rule0) (L := fun m n f i => L92_3 nameOk ev115_v ok2 ix2 r g m n f i) (NX := lN 0) h1 (fun m k n f seen hk hr hn => by
    obtain ⟨q1, q2⟩ := ix_ge hr hn (r.rules.getD k rule0).name
    show L92_3 nameOk ev115_v ok2 ix2 r g (m + 1) n f k = _
    rw [st92_3, lt1 hk, ge0, tn]
    have q1' : ok2 [AV.c (C.d (D.sl 1 n f)), AV.c (C.d (D.v (Value.string (r.rules.getD k rule0).name)))] = true := q1
    have q2' : decide (ix2 [AV.c (C.d (D.sl 1 n f)), AV.c (C.d (D.v (Value.string (r.rules.getD k rule0).name)))] ≥ 0) = inB seen (r.rules.getD k rule0).name := q2
    rw [q1', q2']
    have hi := fun hs => lp92i r g m n f k hs hk h1 hn g 0 (by omega) (by omega)
    unfold ruleOk textErr
    simp only [tt, cond_true]
    have e120 : decide (((r.rules.getD k rule0).text.size : Int) > 120) = decide (120 < (r.rules.getD k rule0).text.size) := by
      rw [Bool.eq_iff_iff, decide_eq_true_eq, decide_eq_true_eq]; omega
    rw [e120]
    cases nameOk (r.rules.getD k rule0).name with
    | false => rfl
    | true =>
      cases ev115_v (r.rules.getD k rule0).name with
      | true => rfl
      | false =>
        cases inB seen (r.rules.getD k rule0).name with
        | true => rfl
        | false =>
          by_cases hs : 120 < (r.rules.getD k rule0).text.size
          · rw [decide_eq_true hs]; rfl
          · have hi' : L92_13 nameOk ev115_v ok2 ix2 r g m g n f k 0 = _ := hi (by omega)
            rw [decide_eq_false hs]
            simp only [Bool.not_true, Bool.not_false, Bool.and_self, cond_true, cond_false]
            refine Eq.trans hi' ?_
            simp only [List.drop_zero]
            cases ((r.rules.getD k rule0).text.data.toList.any badByte) <;> rfl) (fun m n f => by show L92_3 nameOk ev115_v ok2 ix2 r g (m + 1) n f (r.rules.length : Nat) = _; rw [st92_3, lt0 (Nat.lt_irrefl _)]; rfl) g 0 0 (fun _ => []) [] (.nil _) rfl (by omega) (by omega)
  refine Eq.trans (b := bif eRules r.rules != 0 then lN (eRules r.rules) else lN 0) key ?_
  cases hz : (eRules r.rules != 0) with
  | true => rfl
  | false =>
    have : eRules r.rules = 0 := by simpa using hz
    rw [this]; rfl

/-! lists -/
theorem cBt (a : Int × Int × Int) : CX Tryz.prog 131 [vI a.1, vI a.2.1, vI a.2.2] [] (vB (within a.1 a.2.1 a.2.2)) [] := by
  refine cx_of (Orc.nil_ok _) Tryz.func131 (by kernel_rfl) rfl ((evBt a.1 a.2.1 a.2.2).trans ?_)
  unfold evBt_v within
  cases decide (a.1 ≥ a.2.1) <;> rfl
theorem s93 : OrcS Tryz.prog (o93 nameOk ok2 ix2) := sIx (.cons (.p decS_ok c16) (.cons (.p dec3_ok cBt) .nil))
theorem lp93i (r : SRel) (g mo n : Nat) (f : Nat → List D) (k : Nat) (seen : List ByteArray) (hr : RL busC e0 n f seen) (hk : k < r.sets.length) (hl : r.sets.length ≤ 9000) (hn : n ≤ 9000) (hs : okSet (r.sets.getD k set0) = true) (hg : (r.sets.getD k set0).sigs.length < g) :
    L93_9 nameOk ok2 ix2 r g mo g n f k 0 = bif !(r.sets.getD k set0).sigs.all nameOk then lN 7 else bif inB seen (r.sets.getD k set0).name then lN 8 else L93_3 nameOk ok2 ix2 r g mo (n + 1) (appF n f (chunk (busC (r.sets.getD k set0).name) 1)) ((k + 1 : Nat) : Int) := by
  have hS := lenOk_le hs
  obtain ⟨q1, q2⟩ := ix_ge hr hn (r.sets.getD k set0).name
  have q1' : ok2 [AV.c (C.d (D.sl 1 n f)), AV.c (C.d (D.v (Value.string (r.sets.getD k set0).name)))] = true := q1
  have q2' : decide (ix2 [AV.c (C.d (D.sl 1 n f)), AV.c (C.d (D.v (Value.string (r.sets.getD k set0).name)))] ≥ 0) = inB seen (r.sets.getD k set0).name := q2
  have l1 := anyL_loop (p := fun s => !nameOk s) (l := (r.sets.getD k set0).sigs) (d0 := e0) (L := fun m i => L93_9 nameOk ok2 ix2 r g mo m n f k i) (A := lN 7) (B := bif inB seen (r.sets.getD k set0).name then lN 8 else L93_3 nameOk ok2 ix2 r g mo (n + 1) (appF n f (chunk (busC (r.sets.getD k set0).name) 1)) ((k + 1 : Nat) : Int)) (fun m j hj => by
    show L93_9 nameOk ok2 ix2 r g mo (m + 1) n f k j = _
    rw [st93_9, tn, lt1 hj, ge0, tn, nx hj hS]; rfl) (fun m => by
    show L93_9 nameOk ok2 ix2 r g mo (m + 1) n f k ((r.sets.getD k set0).sigs.length : Nat) = _
    rw [st93_9, tn, lt0 (Nat.lt_irrefl _), q1', q2', apOk16 hn, nx hk (by omega)]; rfl) g 0 (by omega) (by omega)
  have e1 : L93_9 nameOk ok2 ix2 r g mo g n f k 0 = _ := l1
  rw [e1]
  simp only [List.drop_zero]
  rw [← anyAll, Bool.not_not]
theorem int_eq (x : SPub) : ev123_v x = bif !within x.fst 1 100 then 2 else bif !within x.max x.fst 1000 then 2 else 0 := by
  unfold ev123_v within
  cases decide (x.fst ≥ 1) <;> cases decide (x.fst ≤ 100) <;> cases decide (x.max ≥ x.fst) <;> cases decide (x.max ≤ 1000) <;> rfl
noncomputable def refLists (r : SRel) : Int := bif eSets r.sets != 0 then eSets r.sets else bif ePubs r.pubs != 0 then ePubs r.pubs else eSubs r.subs
theorem k93c (r : SRel) (g : Nat) (h3 : r.subs.length ≤ 9000) (g3 : r.subs.length < g) : L93_30 nameOk ok2 ix2 r g g 0 (fun _ => []) 0 = bif eSubs r.subs != 0 then lN (eSubs r.subs) else lN 0 := by
  have kc := seenr_loop (valid := subOk) (key := SSub.loc) (rest := rest0) (l := r.subs) (d0 := sub0) (L := fun m n f i => L93_30 nameOk ok2 ix2 r g m n f i) (NX := lN 0) h3 (fun m k n f seen hk hr hn => by
    obtain ⟨q1, q2⟩ := ix_ge hr hn (r.subs.getD k sub0).loc
    have q1' : ok2 [AV.c (C.d (D.sl 1 n f)), AV.c (C.d (D.v (Value.string (r.subs.getD k sub0).loc)))] = true := q1
    have q2' : decide (ix2 [AV.c (C.d (D.sl 1 n f)), AV.c (C.d (D.v (Value.string (r.subs.getD k sub0).loc)))] ≥ 0) = inB seen (r.subs.getD k sub0).loc := q2
    have st := st93_30 nameOk ok2 ix2 r g m n f k
    rw [lt1 hk, ge0, tn, q1', q2', apOk16 hn, nx hk (by omega)] at st
    refine Eq.trans st ?_
    unfold subOk
    simp only [tt, cond_true]
    generalize L93_30 nameOk ok2 ix2 r g m = LL
    cases nameOk (r.subs.getD k sub0).loc <;> cases nameOk (r.subs.getD k sub0).dev <;> cases nameOk (r.subs.getD k sub0).set <;> cases nameOk (r.subs.getD k sub0).sig <;> rfl) (fun m n f => by
    have st := st93_30 nameOk ok2 ix2 r g m n f (r.subs.length : Nat)
    rw [lt0 (Nat.lt_irrefl _)] at st
    rw [cond_false] at st
    exact st) g 0 0 (fun _ => []) [] (.nil _) rfl (by omega) (by omega)
  exact kc
theorem k93b (r : SRel) (g : Nat) (h2 : r.pubs.length ≤ 9000) (g2 : r.pubs.length < g) : L93_18 nameOk ok2 ix2 r g g 0 (fun _ => []) 0 = bif ePubs r.pubs != 0 then lN (ePubs r.pubs) else L93_30 nameOk ok2 ix2 r g g 0 (fun _ => []) 0 := by
  have kb := seenr_loop (valid := pubOk) (key := SPub.set) (rest := ev123_v) (l := r.pubs) (d0 := pub0) (L := fun m n f i => L93_18 nameOk ok2 ix2 r g m n f i) (NX := L93_30 nameOk ok2 ix2 r g g 0 (fun _ => []) 0) h2 (fun m k n f seen hk hr hn => by
    obtain ⟨q1, q2⟩ := ix_ge hr hn (r.pubs.getD k pub0).set
    have q1' : ok2 [AV.c (C.d (D.sl 1 n f)), AV.c (C.d (D.v (Value.string (r.pubs.getD k pub0).set)))] = true := q1
    have q2' : decide (ix2 [AV.c (C.d (D.sl 1 n f)), AV.c (C.d (D.v (Value.string (r.pubs.getD k pub0).set)))] ≥ 0) = inB seen (r.pubs.getD k pub0).set := q2
    have st := st93_18 nameOk ok2 ix2 r g m n f k
    rw [lt1 hk, ge0, tn, q1', q2', apOk16 hn, nx hk (by omega)] at st
    refine Eq.trans st ?_
    rw [int_eq]
    unfold pubOk
    simp only [tt, cond_true]
    generalize L93_18 nameOk ok2 ix2 r g m = LL
    generalize L93_30 nameOk ok2 ix2 r g g 0 (fun x => []) 0 = MM
    cases nameOk (r.pubs.getD k pub0).set <;> cases within (r.pubs.getD k pub0).fst 1 100 <;> cases within (r.pubs.getD k pub0).max (r.pubs.getD k pub0).fst 1000 <;> rfl) (fun m n f => by
    have st := st93_18 nameOk ok2 ix2 r g m n f (r.pubs.length : Nat)
    rw [lt0 (Nat.lt_irrefl _)] at st
    rw [cond_false] at st
    exact st) g 0 0 (fun _ => []) [] (.nil _) rfl (by omega) (by omega)
  exact kb
theorem k93a (r : SRel) (g : Nat) (h1 : r.sets.length ≤ 9000) (g1 : r.sets.length < g) (g4 : ∀ k, (r.sets.getD k set0).sigs.length < g) (hs : r.sets.all okSet = true) : L93_3 nameOk ok2 ix2 r g g 0 (fun _ => []) 0 = bif eSets r.sets != 0 then lN (eSets r.sets) else L93_18 nameOk ok2 ix2 r g g 0 (fun _ => []) 0 := by
  have ka := seenr_loop (valid := setOk) (key := SSet.name) (rest := rest0) (l := r.sets) (d0 := set0) (L := fun m n f i => L93_3 nameOk ok2 ix2 r g m n f i) (NX := L93_18 nameOk ok2 ix2 r g g 0 (fun _ => []) 0) h1 (fun m k n f seen hk hr hn => by
    have hi : L93_9 nameOk ok2 ix2 r g m g n f k 0 = _ := lp93i r g m n f k seen hr hk h1 hn (all_getD hs rfl k) (g4 k)
    have st := st93_3 nameOk ok2 ix2 r g m n f k
    rw [lt1 hk, ge0, tn, hi] at st
    refine Eq.trans st ?_
    unfold setOk
    simp only [tt, cond_true]
    generalize L93_3 nameOk ok2 ix2 r g m = LL
    generalize L93_18 nameOk ok2 ix2 r g g 0 (fun x => []) 0 = MM
    cases nameOk (r.sets.getD k set0).name <;> cases (r.sets.getD k set0).sigs.all nameOk <;> rfl) (fun m n f => by
    have st := st93_3 nameOk ok2 ix2 r g m n f (r.sets.length : Nat)
    rw [lt0 (Nat.lt_irrefl _)] at st
    rw [cond_false] at st
    exact st) g 0 0 (fun _ => []) [] (.nil _) rfl (by omega) (by omega)
  exact ka
theorem c93 (r : SRel) (h1 : r.sets.length ≤ 9000) (h2 : r.pubs.length ≤ 9000) (h3 : r.subs.length ≤ 9000) (hs : r.sets.all okSet = true) : CX Tryz.prog 93 [aRel r] [] (vI (refLists r)) [] := by
  obtain ⟨g, g1, g2, g3, g4⟩ : ∃ g, r.sets.length < g ∧ r.pubs.length < g ∧ r.subs.length < g ∧ ∀ k, (r.sets.getD k set0).sigs.length < g := by
    have key : ∀ l : List SSet, ∃ g, ∀ k, (l.getD k set0).sigs.length < g := by
      intro l
      induction l with
      | nil => exact ⟨1, fun k => by simp [set0]⟩
      | cons x t ih =>
        obtain ⟨g, hg⟩ := ih
        refine ⟨g + x.sigs.length + 1, fun k => ?_⟩
        cases k with
        | zero => simp only [List.getD_cons_zero]; omega
        | succ k => have := hg k; simp only [List.getD_cons_succ]; omega
    obtain ⟨g, hg⟩ := key r.sets
    exact ⟨g + r.sets.length + r.pubs.length + r.subs.length + 1, by omega, by omega, by omega, fun k => by have := hg k; omega⟩
  refine cx_of s93.ok Tryz.func93 b93 rfl ((ev93 _ _ _ r g).trans ?_)
  have ec := k93c r g h3 g3
  have eb := k93b r g h2 g2
  have ea := k93a r g h1 g1 g4 hs
  refine Eq.trans ea ?_
  rw [eb, ec]
  unfold refLists
  have z : ∀ n : Int, (bif n != 0 then lN n else lN 0) = lN n := fun n => by
    cases h : (n != 0) with
    | true => rfl
    | false => have : n = 0 := by simpa using h
               rw [this]; rfl
  rw [z]
  cases (eSets r.sets != 0) <;> cases (ePubs r.pubs != 0) <;> rfl
end Go.Proofs.YtngoglhlhlfknaaGreat.se
namespace Go.Proofs.YtngoglhlhlfknaaGreat.se
open Go.RowKit Go.Eb
set_option maxRecDepth 100000

theorem tAnd (a b : Bool) : (bif a then b else false) = (a && b) := by cases a <;> rfl
theorem tNand (a b : Bool) : (bif !a then true else b) = !(a && !b) := by cases a <;> cases b <;> rfl
theorem tNot (a b : Bool) : (bif !a then false else b) = (a && b) := by cases a <;> rfl
theorem tOr (a b : Bool) : (bif a then true else b) = (a || b) := by cases a <;> rfl
theorem neI (a b : Int) : (a != b) = !(a == b) := rfl
/-! what a kind does not use -/
def zLine (r : SRel) : Bool :=
  ((r.zon0 == false && (r.zfw0 == false && (r.zx0 == 0 && (r.zr0 == 0 && (r.zl0 == 0 && (r.zd0 == 0 && true)))))) &&
    ((r.zon1 == false && (r.zfw1 == false && (r.zx1 == 0 && (r.zr1 == 0 && (r.zl1 == 0 && (r.zd1 == 0 && true)))))) &&
      ((r.zon2 == false && (r.zfw2 == false && (r.zx2 == 0 && (r.zr2 == 0 && (r.zl2 == 0 && (r.zd2 == 0 && true)))))) && true))) &&
  (r.min == 0 && (r.kre == 0 && (r.kim == 0 && (r.scheme == 0 && (r.wait == 0 && (r.guard == 0 && (r.shots == 0 && (r.dead == 0 && r.reclaim == 0))))))))
def zSrc (r : SRel) : Bool := (r.uon == false && (r.upk == 0 && (r.udl == 0 && true))) && (r.oon == false && (r.opk == 0 && (r.odl == 0 && true)))
def zBus (r : SRel) : Bool := (r.don == false && (r.dpk == 0 && (r.ddl == 0 && true))) && ((r.ion == false && (r.ipk == 0 && (r.idl == 0 && true))) && (r.fon == false && (r.fpk == 0 && (r.fdl == 0 && true))))
def zDif (r : SRel) : Bool := r.diff == 0 && (r.num == 0 && (r.den == 0 && r.harm == 0))
def usedOk (r : SRel) : Bool := (r.kind == 1 || zLine r) && ((r.kind == 2 || zSrc r) && (bif r.kind == 4 then zBus r else zDif r))
theorem used_eq (r : SRel) : ev78_v r = usedOk r := by
  unfold ev78_v usedOk zLine zSrc zBus zDif
  simp only [neI]
  generalize (r.kind == 1) = k1
  generalize (r.kind == 2) = k2
  generalize (r.kind == 4) = k4
  cases k1 <;> cases k2 <;> cases k4 <;> simp only [cond_true, cond_false, Bool.not_true, Bool.not_false, tAnd, Bool.and_assoc, Bool.true_and, Bool.and_true, Bool.false_and, Bool.and_false, Bool.true_or, Bool.false_or, Bool.cond_self]
theorem foreign_eq (r : SRel) : ev88_v r = !usedOk r := by
  unfold ev88_v usedOk zLine zSrc zBus zDif
  simp only [neI]
  generalize (r.kind == 1) = k1
  generalize (r.kind == 2) = k2
  generalize (r.kind == 4) = k4
  cases k1 <;> cases k2 <;> cases k4 <;> simp only [cond_true, cond_false, Bool.not_true, Bool.not_false, tNand, Bool.not_not, Bool.and_assoc, Bool.true_and, Bool.and_true, Bool.false_and, Bool.and_false, Bool.true_or, Bool.false_or, Bool.cond_self]
/-! zones -/
theorem zones_eq (r : SRel) : ev130_v r = ev79_v r := rfl
/-! what a scheme lacks -/
theorem missing_eq (r : SRel) : ev90_v r = !ev83_v r := by
  unfold ev90_v ev83_v
  generalize (r.scheme == 1) = k1
  generalize (r.scheme == 2) = k2
  generalize (r.scheme == 3) = k3
  generalize r.zon0 = a
  generalize r.zfw0 = b
  generalize r.zon1 = c
  generalize r.zfw1 = d
  generalize r.zon2 = e
  generalize r.zfw2 = f
  cases k1 <;> cases k2 <;> cases k3 <;> cases a <;> cases b <;> cases c <;> cases d <;> cases e <;> cases f <;> rfl

/-! numbers -/
def nSch (r : SRel) : Bool := within r.scheme 0 3 && (within r.guard 0 50 && !(r.scheme == 0 && r.guard != 0))
def nWait (r : SRel) : Bool := bif r.scheme == 3 then within r.wait 1 50 else r.wait == 0
def nEl (r : SRel) : Bool := elOk r.don r.dpk r.ddl 0 && (elOk r.uon r.upk r.udl 0 && (elOk r.oon r.opk r.odl 0 && elOk r.fon r.fpk r.fdl 1))
def nInv (r : SRel) : Bool := bif r.ion then within r.ipk 1 16383 && within r.idl 1 1000 else r.ipk == 0 && r.idl == 0
def nRec (r : SRel) : Bool := within r.shots 0 3 && (bif r.shots == 0 then r.dead == 0 && r.reclaim == 0 else within r.dead 1 100 && within r.reclaim 1 1000)
def nDif (r : SRel) : Bool := bif r.diff == 0 then r.num == 0 && (r.den == 0 && r.harm == 0) else within r.diff 0 16383 && (within r.den 1 100 && (within r.num 0 r.den && within r.harm 0 100))
theorem g13 (okr zo : List AV → Bool) (r : SRel) : L89_13 okr zo r 1 1 = lB (bif r.diff == 0 then true else within r.den 1 100 && (within r.num 0 r.den && within r.harm 0 100)) := by
  rw [st89_13]
  cases (r.diff == 0) <;> cases within r.den 1 100 <;> cases within r.num 0 r.den <;> rfl
theorem g11 (okr zo : List AV → Bool) (r : SRel) : L89_11 okr zo r 1 1 = lB (nDif r) := by
  rw [st89_11, g13]
  unfold nDif
  by_cases h : r.diff = 0
  · rw [h]
    simp only [neI]
    have w : within 0 0 16383 = true := rfl
    rw [w]
    cases (r.num == 0) <;> cases (r.den == 0) <;> cases (r.harm == 0) <;> rfl
  · have h' : (r.diff == 0) = false := by simpa using h
    rw [h']
    cases within r.diff 0 16383 <;> rfl
theorem g9 (okr zo : List AV → Bool) (r : SRel) : L89_9 okr zo r 1 1 = lB (nRec r && nDif r) := by
  rw [st89_9, g11]
  unfold nRec
  by_cases h : r.shots = 0
  · rw [h]
    simp only [neI]
    have w : within 0 0 3 = true := rfl
    have w2 : decide ((0 : Int) > 0) = false := rfl
    rw [w, w2]
    cases (r.dead == 0) <;> cases (r.reclaim == 0) <;> rfl
  · have h' : (r.shots == 0) = false := by simpa using h
    rw [h']
    by_cases h2 : r.shots > 0
    · rw [decide_eq_true h2]
      cases within r.shots 0 3 <;> cases within r.dead 1 100 <;> cases within r.reclaim 1 1000 <;> rfl
    · have w : within r.shots 0 3 = false := by unfold within; rw [decide_eq_false (by omega)]; rfl
      rw [w]
      rfl
theorem g7 (okr zo : List AV → Bool) (r : SRel) : L89_7 okr zo r 1 1 = lB (nInv r && (nRec r && nDif r)) := by
  rw [st89_7, g9]
  unfold nInv
  generalize (nRec r && nDif r) = q
  cases r.ion <;> cases within r.ipk 1 16383 <;> cases within r.idl 1 1000 <;> cases (r.ipk == 0) <;> cases (r.idl == 0) <;> rfl
theorem g5 (okr zo : List AV → Bool) (r : SRel) : L89_5 okr zo r 1 1 = lB (nEl r && (nInv r && (nRec r && nDif r))) := by
  rw [st89_5, g7]
  unfold nEl
  generalize (nInv r && (nRec r && nDif r)) = q
  cases elOk r.don r.dpk r.ddl 0 <;> cases elOk r.uon r.upk r.udl 0 <;> cases elOk r.oon r.opk r.odl 0 <;> cases elOk r.fon r.fpk r.fdl 1 <;> rfl
theorem g3 (okr zo : List AV → Bool) (r : SRel) : L89_3 okr zo r 1 1 = lB (nWait r && (nEl r && (nInv r && (nRec r && nDif r)))) := by
  rw [st89_3, g5]
  unfold nWait
  generalize (nEl r && (nInv r && (nRec r && nDif r))) = q
  simp only [neI]
  cases (r.scheme == 3) <;> cases within r.wait 1 50 <;> cases (r.wait == 0) <;> rfl
def nums (r : SRel) : Bool := nSch r && (nWait r && (nEl r && (nInv r && (nRec r && nDif r))))
theorem g1 (okr zo : List AV → Bool) (r : SRel) (h1 : okr [aRel r] = true) : callC Tryz.prog (oNu okr zo) ann89 1 Tryz.f89 (bodyOf Tryz.f89) [aRel r] [] = lB (zo [aRel r] && nums r) := by
  refine (ev89 okr zo r 1).trans ?_
  rw [h1, g3]
  unfold nums nSch
  generalize (nWait r && (nEl r && (nInv r && (nRec r && nDif r)))) = q
  simp only [neI]
  cases zo [aRel r] <;> cases within r.scheme 0 3 <;> cases within r.guard 0 50 <;> cases (r.scheme == 0) <;> cases (r.guard == 0) <;> rfl
/-! the program's numbers are these -/
theorem e80 (r : SRel) : ev80_v r = (nSch r && nWait r) := by
  unfold ev80_v nSch nWait
  simp only [neI]
  by_cases h : r.guard = 0
  · rw [h]
    have w : within 0 0 50 = true := rfl
    rw [w]
    cases within r.scheme 0 3 <;> cases (r.scheme == 3) <;> cases within r.wait 1 50 <;> cases (r.scheme == 0) <;> cases (r.wait == 0) <;> rfl
  · have h' : (r.guard == 0) = false := by simpa using h
    rw [h']
    cases within r.scheme 0 3 <;> cases (r.scheme == 3) <;> cases within r.wait 1 50 <;> cases (r.scheme == 0) <;> cases (r.wait == 0) <;> cases within r.guard 0 50 <;> rfl
theorem e81 (r : SRel) : ev81_v r = (nInv r && nEl r) := by
  unfold ev81_v nInv nEl
  cases r.ion <;> cases within r.ipk 1 16383 <;> cases within r.idl 1 1000 <;> cases (r.ipk == 0) <;> cases (r.idl == 0) <;> cases elOk r.don r.dpk r.ddl 0 <;> cases elOk r.uon r.upk r.udl 0 <;> cases elOk r.oon r.opk r.odl 0 <;> rfl
theorem within_pos (n k : Int) (h : (n == 0) = false) : within n 1 k = within n 0 k := by
  have h' : n ≠ 0 := by simpa using h
  unfold within
  by_cases h1 : n ≥ 1
  · rw [decide_eq_true h1, decide_eq_true (show n ≥ 0 by omega)]
  · rw [decide_eq_false h1, decide_eq_false (show ¬ n ≥ 0 by omega)]
theorem e82 (r : SRel) : ev82_v r = (nRec r && nDif r) := by
  unfold ev82_v nRec nDif
  simp only [neI]
  have hs : (r.shots == 0) = true → within r.shots 0 3 = true := fun h => by
    have : r.shots = 0 := by simpa using h
    rw [this]; rfl
  have hs2 := within_pos r.shots 3
  have hd2 := within_pos r.diff 16383
  cases a : (r.shots == 0) with
  | true =>
    rw [hs a]
    cases b : (r.diff == 0) with
    | true => cases (r.dead == 0) <;> cases (r.reclaim == 0) <;> cases (r.num == 0) <;> cases (r.den == 0) <;> rfl
    | false =>
      rw [hd2 b]
      cases (r.dead == 0) <;> cases (r.reclaim == 0) <;> cases within r.diff 0 16383 <;> cases within r.den 1 100 <;> cases within r.num 0 r.den <;> rfl
  | false =>
    rw [hs2 a]
    cases b : (r.diff == 0) with
    | true => cases within r.shots 0 3 <;> cases within r.dead 1 100 <;> cases within r.reclaim 1 1000 <;> cases (r.num == 0) <;> cases (r.den == 0) <;> rfl
    | false =>
      rw [hd2 b]
      cases within r.shots 0 3 <;> cases within r.dead 1 100 <;> cases within r.reclaim 1 1000 <;> cases within r.diff 0 16383 <;> cases within r.den 1 100 <;> cases within r.num 0 r.den <;> rfl
theorem nums_eq (r : SRel) : nums r = (ev80_v r && (ev81_v r && ev82_v r)) := by
  rw [e80, e81, e82]
  unfold nums
  cases nSch r <;> cases nWait r <;> cases nEl r <;> cases nInv r <;> rfl
end Go.Proofs.YtngoglhlhlfknaaGreat.se
namespace Go.Proofs.YtngoglhlhlfknaaGreat.se
open Go.RowKit Go.Eb
set_option maxRecDepth 100000

structure KOn where
  okn : List AV → Bool
  nm : List AV → List ByteArray
  oki : List AV → Bool
  ix : List AV → Int
  okp : List AV → Bool
  pl : List AV → Int
  okr : List AV → Bool
  fo : List AV → Bool
  nu : List AV → Bool
  mi : List AV → Bool
  ma : List AV → Bool
  oku : List AV → Bool
  ru : List AV → Int
  li : List AV → Int
noncomputable def oOn (Z : KOn) (nk : ByteArray → Bool) : Orc := Orc.cons 19 (ansP decS fun s => vB (nk s)) (Orc.cons 86 (ansG Z.okn fun x => .c (.d (busesD (Z.nm x)))) (Orc.cons 44 (ansL Z.oki fun x => vI (Z.ix x)) (Orc.cons 87 (ansG Z.okp fun x => vI (Z.pl x))
  (Orc.cons 88 (ansG Z.okr fun x => vB (Z.fo x)) (Orc.cons 89 (ansG Z.okr fun x => vB (Z.nu x)) (Orc.cons 90 (ansG Z.okr fun x => vB (Z.mi x)) (Orc.cons 91 (ansG Z.okr fun x => vB (Z.ma x))
  (Orc.cons 92 (ansG Z.oku fun x => vI (Z.ru x)) (Orc.cons 93 (ansG Z.oku fun x => vI (Z.li x)) Orc.nil)))))))))
noncomputable def annon7 : Ann := annOf [(6, ⟨[5, 1, 3, 7], []⟩)]
noncomputable def Lon7_6 (Z : KOn) (nk : ByteArray → Bool) (s : SSta) (b : List SRel) (r : SRel) (g m : Nat) (i7 : Int) := LK Tryz.prog (oOn Z nk) annon7 (List.length (α := Nat × Blk) []) g Tryz.f34 6 m ⟨frm [(1, AV.c (C.d (listD 53 relC rel0 b))), (3, AV.c (C.ptr 0 0)), (5, AV.c (C.ptr 1 0)), (7, AV.c (C.d (D.v (Value.int IntKind.i64 i7))))] 0 Tryz.f34.ntmps, [(0, Blk.cells (List.map C.d (staC s)) 27), (1, Blk.cells (List.map C.d (relC r)) 57)], 2⟩
theorem bon7 : Tryz.f34.body = some (bodyOf Tryz.f34) := by kernel_rfl
set_option maxRecDepth 100000 in
theorem evon7 (Z : KOn) (nk : ByteArray → Bool) (s : SSta) (b : List SRel) (r : SRel) (g : Nat) : callC Tryz.prog (oOn Z nk) annon7 g Tryz.f34 (bodyOf Tryz.f34) [aSta s, .c (.d (relsD b)), aRel r] [] =
 (bif !nk (SRel.name r) then some (T.leaf (AV.c (C.d (D.v (Value.int IntKind.i64 (7 : Int)))), [])) else (bif KOn.okn Z [AV.agg (List.map C.d (staC s))] then (bif KOn.oki Z [AV.c
 (C.d (listD ((1 : Nat)) busC e0 (KOn.nm Z [AV.agg (List.map C.d (staC s))]))), AV.c (C.d (D.v (Value.string (SRel.name r))))] then (bif decide (KOn.ix Z [AV.c (C.d (listD ((1 :
 Nat)) busC e0 (KOn.nm Z [AV.agg (List.map C.d (staC s))]))), AV.c (C.d (D.v (Value.string (SRel.name r))))] ≥ (0 : Int)) then some (T.leaf (AV.c (C.d (D.v (Value.int IntKind.i64 (8
 : Int)))), [])) else Lon7_6 Z nk s b r g g ((0 : Int))) else none) else none)) := by kernel_rfl
set_option maxRecDepth 100000 in
theorem ston7_6 (Z : KOn) (nk : ByteArray → Bool) (s : SSta) (b : List SRel) (r : SRel) (g m : Nat) (i7 : Int) : Lon7_6 Z nk s b r g (m + 1) i7 =
 (bif decide (i7 < (↑(List.length b) : Int)) then (bif decide ((0 : Int) ≤ i7) && decide (i7 < (↑(List.length b) : Int)) then (bif ByteArray.toList (SRel.name (List.getD b (Int.toNat
 i7) rel0)) == ByteArray.toList (SRel.name r) then some (T.leaf (AV.c (C.d (D.v (Value.int IntKind.i64 (8 : Int)))), [])) else Lon7_6 Z nk s b r g m (IntKind.wrap IntKind.i64 (i7 +
 (1 : Int)))) else none) else (bif KOn.okp Z [AV.agg (List.map C.d (staC s)), AV.c (C.d (listD ((53 : Nat)) relC rel0 b)), AV.agg (List.map C.d (relC r))] then (bif KOn.pl Z [AV.agg
 (List.map C.d (staC s)), AV.c (C.d (listD ((53 : Nat)) relC rel0 b)), AV.agg (List.map C.d (relC r))] != (0 : Int) then some (T.leaf (AV.c (C.d (D.v (Value.int IntKind.i64 (KOn.pl Z
 [AV.agg (List.map C.d (staC s)), AV.c (C.d (listD ((53 : Nat)) relC rel0 b)), AV.agg (List.map C.d (relC r))])))), [])) else (bif KOn.okr Z [AV.agg (List.map C.d (relC r))] then
 (bif KOn.fo Z [AV.agg (List.map C.d (relC r))] then some (T.leaf (AV.c (C.d (D.v (Value.int IntKind.i64 (12 : Int)))), [])) else (bif KOn.okr Z [AV.agg (List.map C.d (relC r))] then
 (bif !KOn.nu Z [AV.agg (List.map C.d (relC r))] then some (T.leaf (AV.c (C.d (D.v (Value.int IntKind.i64 (2 : Int)))), [])) else (bif KOn.okr Z [AV.agg (List.map C.d (relC r))] then
 (bif KOn.mi Z [AV.agg (List.map C.d (relC r))] then some (T.leaf (AV.c (C.d (D.v (Value.int IntKind.i64 (11 : Int)))), [])) else (bif KOn.okr Z [AV.agg (List.map C.d (relC r))] then
 (bif KOn.ma Z [AV.agg (List.map C.d (relC r))] then some (T.leaf (AV.c (C.d (D.v (Value.int IntKind.i64 (3 : Int)))), [])) else (bif KOn.oku Z [AV.agg (List.map C.d (relC r))] then
 (bif KOn.ru Z [AV.agg (List.map C.d (relC r))] != (0 : Int) then some (T.leaf (AV.c (C.d (D.v (Value.int IntKind.i64 (KOn.ru Z [AV.agg (List.map C.d (relC r))])))), [])) else (bif
 KOn.oku Z [AV.agg (List.map C.d (relC r))] then some (T.leaf (AV.c (C.d (D.v (Value.int IntKind.i64 (KOn.li Z [AV.agg (List.map C.d (relC r))])))), [])) else none)) else none)) else
 none)) else none)) else none)) else none)) else none)) := by kernel_rfl
noncomputable def oCk (oko : List AV → Bool) (on : List AV → Int) : Orc := Orc.cons 34 (ansG oko fun x => vI (on x)) Orc.nil
noncomputable def annck7 : Ann := annOf [(2, ⟨[6, 1, 2], []⟩)]
noncomputable def Lck7_2 (oko : List AV → Bool) (on : List AV → Int) (s : SSta) (l : List SRel) (g m : Nat) (i6 : Int) := LK Tryz.prog (oCk oko on) annck7 (List.length (α := Nat × Blk) []) g Tryz.f15 2 m ⟨frm [(1, AV.c (C.d (listD 53 relC rel0 l))), (2, AV.c (C.ptr 0 0)), (6, AV.c (C.d (D.v (Value.int IntKind.i64 i6))))] 0 Tryz.f15.ntmps, [(0, Blk.cells (List.map C.d (staC s)) 27)], 1⟩
theorem bck7 : Tryz.f15.body = some (bodyOf Tryz.f15) := by kernel_rfl
set_option maxRecDepth 100000 in
theorem evck7 (oko : List AV → Bool) (on : List AV → Int) (s : SSta) (l : List SRel) (g : Nat) : callC Tryz.prog (oCk oko on) annck7 g Tryz.f15 (bodyOf Tryz.f15) [aSta s, .c (.d (relsD l))] [] =
 Lck7_2 oko on s l g g ((0 : Int)) := by kernel_rfl
set_option maxRecDepth 100000 in
theorem stck7_2 (oko : List AV → Bool) (on : List AV → Int) (s : SSta) (l : List SRel) (g m : Nat) (i6 : Int) : Lck7_2 oko on s l g (m + 1) i6 =
 (bif decide (i6 < (↑(List.length l) : Int)) then (bif decide ((0 : Int) ≤ (↑(0 : Nat) : Int)) && decide ((↑(0 : Nat) : Int) ≤ i6) && decide (i6 ≤ (↑(List.length l) : Int)) then (bif
 decide ((0 : Int) ≤ i6) && decide (i6 < (↑(List.length l) : Int)) then (bif oko [AV.agg (List.map C.d (staC s)), AV.c (C.d (D.sl ((53 : Nat)) (Int.toNat i6 - Int.toNat (↑(0 : Nat) :
 Int)) fun i => relC (List.getD l (Int.toNat (↑(0 : Nat) : Int) + i) rel0))), AV.agg (List.map C.d (relC (List.getD l (Int.toNat i6) rel0)))] then (bif on [AV.agg (List.map C.d (staC
 s)), AV.c (C.d (D.sl ((53 : Nat)) (Int.toNat i6 - Int.toNat (↑(0 : Nat) : Int)) fun i => relC (List.getD l (Int.toNat (↑(0 : Nat) : Int) + i) rel0))), AV.agg (List.map C.d (relC
 (List.getD l (Int.toNat i6) rel0)))] != (0 : Int) then some (T.leaf (AV.tup [(false, [C.d (D.v (Value.int IntKind.i64 i6))]), (false, [C.d (D.v (Value.int IntKind.i64 (on [AV.agg
 (List.map C.d (staC s)), AV.c (C.d (D.sl ((53 : Nat)) (Int.toNat i6 - Int.toNat (↑(0 : Nat) : Int)) fun i => relC (List.getD l (Int.toNat (↑(0 : Nat) : Int) + i) rel0))), AV.agg
 (List.map C.d (relC (List.getD l (Int.toNat i6) rel0)))])))])], [])) else Lck7_2 oko on s l g m (IntKind.wrap IntKind.i64 (i6 + (1 : Int)))) else none) else none) else none) else
 some (T.leaf (AV.tup [(false, [C.d (D.v (Value.int IntKind.i64 (0 : Int)))]), (false, [C.d (D.v (Value.int IntKind.i64 (0 : Int)))])], []))) := by kernel_rfl
end Go.Proofs.YtngoglhlhlfknaaGreat.se
namespace Go.Proofs.YtngoglhlhlfknaaGreat.st
open Go.RowKit Go.Eb
set_option maxRecDepth 100000

noncomputable def o9n (okn : List AV → Bool) (nm : List AV → List ByteArray) : Orc := Orc.cons 21 (ansG okn fun x => .c (.d (busesD (nm x)))) Orc.nil
noncomputable def ann9n : Ann := annOf []
theorem b9n : Tryz.f86.body = some (bodyOf Tryz.f86) := by kernel_rfl
set_option maxRecDepth 100000 in
theorem ev9n (okn : List AV → Bool) (nm : List AV → List ByteArray) (s : SSta) (g : Nat) : callC Tryz.prog (o9n okn nm) ann9n g Tryz.f86 (bodyOf Tryz.f86) [aSta s] [] =
 (bif okn [AV.agg (List.map C.d (staC s)), AV.c (C.d (D.v (Value.int IntKind.i64 (↑(List.length (SSta.buses s)) : Int)))), AV.c (C.d (D.v (Value.int IntKind.i64 (↑(List.length
 (SSta.lines s)) : Int)))), AV.c (C.d (D.v (Value.int IntKind.i64 (↑(List.length (SSta.srcs s)) : Int)))), AV.c (C.d (D.v (Value.int IntKind.i64 (↑(List.length (SSta.bays s)) :
 Int))))] then some (T.leaf (AV.c (C.d (listD ((1 : Nat)) busC e0 (nm [AV.agg (List.map C.d (staC s)), AV.c (C.d (D.v (Value.int IntKind.i64 (↑(List.length (SSta.buses s)) : Int)))),
 AV.c (C.d (D.v (Value.int IntKind.i64 (↑(List.length (SSta.lines s)) : Int)))), AV.c (C.d (D.v (Value.int IntKind.i64 (↑(List.length (SSta.srcs s)) : Int)))), AV.c (C.d (D.v
 (Value.int IntKind.i64 (↑(List.length (SSta.bays s)) : Int))))]))), [])) else none) := by kernel_rfl
end Go.Proofs.YtngoglhlhlfknaaGreat.st
namespace Go.Proofs.YtngoglhlhlfknaaGreat.st
open Go.RowKit Go.Eb
set_option maxRecDepth 100000

abbrev eN5 := en5 aSta vN vN vN vN
theorem eN5_inj : InjT eN5 := en5_inj aSta_inj vN_inj vN_inj vN_inj vN_inj
def c5 (a : SSta × Nat × Nat × Nat × Nat) : Bool := (decide (a.2.1 ≤ a.1.buses.length) && (decide (a.2.2.1 ≤ a.1.lines.length) && (decide (a.2.2.2.1 ≤ a.1.srcs.length) && decide (a.2.2.2.2 ≤ a.1.bays.length)))) && (decide (a.2.1 ≤ 900) && (decide (a.2.2.1 ≤ 900) && (decide (a.2.2.2.1 ≤ 900) && decide (a.2.2.2.2 ≤ 900))))
def nm5 (a : SSta × Nat × Nat × Nat × Nat) : List ByteArray := namesOf a.1 a.2.1 a.2.2.1 a.2.2.2.1 a.2.2.2.2
theorem s9n : OrcS Tryz.prog (o9n (okG eN5 c5) fun x => nm5 (theT eN5 x)) := by
  refine .cons (.t' (r := fun a => .c (.d (busesD (nm5 a)))) fun a h => ?_) .nil
  unfold c5 at h
  simp only [Bool.and_eq_true, decide_eq_true_eq] at h
  exact c21 a.1 a.2.1 a.2.2.1 a.2.2.2.1 a.2.2.2.2 h.1.1 h.1.2.1 h.1.2.2.1 h.1.2.2.2 h.2.1 h.2.2.1 h.2.2.2.1 h.2.2.2.2
theorem cNm (s : SSta) (h1 : s.buses.length ≤ 900) (h2 : s.lines.length ≤ 900) (h3 : s.srcs.length ≤ 900) (h4 : s.bays.length ≤ 900) : CX Tryz.prog 86 [aSta s] [] (.c (.d (busesD (namesS s)))) [] := by
  refine cx_of s9n.ok Tryz.func86 b9n rfl ((ev9n _ _ s 1).trans ?_)
  have k := okG_enc eN5_inj (c := c5) (s, s.buses.length, s.lines.length, s.srcs.length, s.bays.length) (by unfold c5; simp only [h1, h2, h3, h4, Nat.le_refl, decide_true, tt])
  have t := theT_enc eN5_inj (s, s.buses.length, s.lines.length, s.srcs.length, s.bays.length)
  have e : nm5 (s, s.buses.length, s.lines.length, s.srcs.length, s.bays.length) = namesS s := by unfold nm5 namesOf namesS; simp
  simp only [en5, vN] at k t
  rw [k, t, e]
  rfl
end Go.Proofs.YtngoglhlhlfknaaGreat.st
namespace Go.Proofs.YtngoglhlhlfknaaGreat.se
open Go.RowKit Go.Eb Go.Proofs.YtngoglhlhlfknaaGreat.st
set_option maxRecDepth 100000

/-! pure parts -/
theorem cEm (a : Bool × Int × Int × Int) : CX Tryz.prog 132 [.agg [.d (dB a.1), .d (dI a.2.1), .d (dI a.2.2.1)], vI a.2.2.2] [] (vB (elOk a.1 a.2.1 a.2.2.1 a.2.2.2)) [] := by
  have hs : OrcS Tryz.prog oB3 := .cons (.p dec3_ok cBt) .nil
  refine cx_of hs.ok Tryz.func132 (by kernel_rfl) rfl ((evEm a.1 a.2.1 a.2.2.1 a.2.2.2).trans ?_)
  unfold evEm_v elOk
  cases a.1 <;> cases (a.2.1 == 0) <;> cases (a.2.2.1 == 0) <;> cases within a.2.1 1 16383 <;> rfl
theorem sB3 : OrcS Tryz.prog oB3 := .cons (.p dec3_ok cBt) .nil
theorem c88 (r : SRel) : CX Tryz.prog 88 [aRel r] [] (vB (!usedOk r)) [] := by
  have := cx_of sB3.ok Tryz.func88 (by kernel_rfl) rfl (ev88 r)
  rw [foreign_eq] at this
  exact this
theorem c130 (r : SRel) : CX Tryz.prog 130 [aRel r] [] (vB (ev79_v r)) [] := by
  have := cx_of sB3.ok Tryz.func130 (by kernel_rfl) rfl (ev130 r)
  rw [zones_eq] at this
  exact this
theorem c90 (r : SRel) : CX Tryz.prog 90 [aRel r] [] (vB (!ev83_v r)) [] := by
  have := cx_of sB3.ok Tryz.func90 (by kernel_rfl) rfl (ev90 r)
  rw [missing_eq] at this
  exact this
theorem c89 (r : SRel) : CX Tryz.prog 89 [aRel r] [] (vB (ev79_v r && (ev80_v r && (ev81_v r && ev82_v r)))) [] := by
  have hs : OrcS Tryz.prog (oNu (okG eR fun _ => true) fun x => ev79_v (theT eR x)) := .cons (.t' (r := fun a => vB (ev79_v a)) fun a _ => c130 a) (.cons (.p decE_ok cEm) sB3)
  have k := okG_enc eR_inj (c := fun _ => true) r rfl
  have t := theT_enc eR_inj r
  have := cx_of hs.ok Tryz.func89 b89 rfl (g1 _ _ r k)
  have e : ev79_v (theT eR [aRel r]) = ev79_v r := congrArg ev79_v t
  rw [e, nums_eq] at this
  exact this

/-! one -/
abbrev ePl := en3 aSta (aD relsD) aRel
theorem relsD_inj (a b : List SRel) (h : DE (relsD a) (relsD b)) : a = b := listD_inj relC_inj a b h
theorem ePl_inj : InjT ePl := en3_inj aSta_inj (aD_inj relsD_inj) aRel_inj
def cPl (a : SSta × List SRel × SRel) : Bool := lenOk a.1.bays && lenOk a.2.1
def cOu (r : SRel) : Bool := countsOk r && okRel r
def cSz (s : SSta) : Bool := decide (s.buses.length ≤ 900) && (decide (s.lines.length ≤ 900) && (decide (s.srcs.length ≤ 900) && decide (s.bays.length ≤ 900)))
noncomputable def ZOn : KOn where
  okn := okG eSt cSz
  nm x := namesS (theT eSt x)
  oki := ok2
  ix := ix2
  okp := okG ePl cPl
  pl x := placeErr (theT ePl x).1.bays ((theT ePl x).2.1.map SRel.bay) (theT ePl x).2.2
  okr := okG eR okRel
  fo x := !usedOk (theT eR x)
  nu x := ev79_v (theT eR x) && (ev80_v (theT eR x) && (ev81_v (theT eR x) && ev82_v (theT eR x)))
  mi x := !ev83_v (theT eR x)
  ma x := !countsOk (theT eR x)
  oku := okG eR cOu
  ru x := eRules (theT eR x).rules
  li x := refLists (theT eR x)
theorem countsOk_le {r : SRel} (h : countsOk r = true) : r.rules.length ≤ 16 ∧ r.sets.length ≤ 4 ∧ r.pubs.length ≤ 4 ∧ r.subs.length ≤ 24 := by
  unfold countsOk at h
  simp only [Bool.and_eq_true, decide_eq_true_eq] at h
  exact ⟨h.1, h.2.1, h.2.2.1, h.2.2.2.1⟩
theorem sOn : OrcS Tryz.prog (oOn ZOn nameOk) := by
  refine .cons (.p decS_ok c16) (.cons (.t' (r := fun a => .c (.d (busesD (namesS a)))) fun a h => ?_) (.cons (.lt (r := fun (a : List ByteArray × ByteArray) => vI (idxF a.2 0 a.1)) Tryz.func44 bIx (fun _ => rfl) fun a h => c46 a.1 a.2 (lenOk_le h))
    (.cons (.t' (r := fun (a : SSta × List SRel × SRel) => vI (placeErr a.1.bays (a.2.1.map SRel.bay) a.2.2)) fun a h => ?_) (.cons (.t' (r := fun a => vB (!usedOk a)) fun a _ => c88 a) (.cons (.t' (r := fun a => vB (ev79_v a && (ev80_v a && (ev81_v a && ev82_v a)))) fun a _ => c89 a)
    (.cons (.t' (r := fun a => vB (!ev83_v a)) fun a _ => c90 a) (.cons (.t' (r := fun a => vB (!countsOk a)) fun a h => c91 a h) (.cons (.t' (r := fun (a : SRel) => vI (eRules a.rules)) fun a h => ?_) (.cons (.t' (r := fun a => vI (refLists a)) fun a h => ?_) .nil)))))))))
  · unfold cSz at h
    simp only [Bool.and_eq_true, decide_eq_true_eq] at h
    exact cNm a h.1 h.2.1 h.2.2.1 h.2.2.2
  · unfold cPl at h
    simp only [Bool.and_eq_true] at h
    exact c87 a.1 a.2.1 a.2.2 (lenOk_le h.1) h.2
  · unfold cOu at h
    simp only [Bool.and_eq_true] at h
    have := countsOk_le h.1
    exact c92 a (by omega)
  · unfold cOu at h
    simp only [Bool.and_eq_true] at h
    have := countsOk_le h.1
    exact c93 a (by omega) (by omega) (by omega) (okRel_len h.2).2.2.2.2
theorem inB_app (a b : List ByteArray) (s : ByteArray) : inB (a ++ b) s = (inB a s || inB b s) := by unfold inB; rw [List.any_append]
theorem cOn (s : SSta) (b : List SRel) (r : SRel) (hs : cSz s = true) (hb : lenOk b = true) (hr : okRel r = true) :
    CX Tryz.prog 34 [aSta s, .c (.d (relsD b)), aRel r] [] (vI (addErr s.bays (namesS s ++ b.map SRel.name) (b.map SRel.bay) r)) [] := by
  obtain ⟨g, hg⟩ : ∃ g, b.length < g := ⟨b.length + 1, by omega⟩
  have hs' := hs
  unfold cSz at hs'
  simp only [Bool.and_eq_true, decide_eq_true_eq] at hs'
  refine cx_of sOn.ok Tryz.func34 bon7 rfl ((evon7 ZOn nameOk s b r g).trans ?_)
  have k1 : ZOn.okn [aSta s] = true := okG_enc eSt_inj (c := cSz) s hs
  have k2 : ZOn.nm [aSta s] = namesS s := congrArg namesS (theT_enc eSt_inj s)
  have hN : (namesS s).length ≤ 9000 := by unfold namesS; simp; omega
  have k3 : ZOn.oki [.c (.d (busesD (namesS s))), vS r.name] = true := okG_enc eIx_inj (c := cIx) (namesS s, r.name) (by unfold cIx lenOk; rw [decide_eq_true (by simp only; omega)])
  have k4 : ZOn.ix [.c (.d (busesD (namesS s))), vS r.name] = idxF r.name 0 (namesS s) := by
    show idxF (theT eIx _).2 0 (theT eIx _).1 = _
    have t : theT eIx [.c (.d (busesD (namesS s))), vS r.name] = (namesS s, r.name) := theT_enc eIx_inj (namesS s, r.name)
    rw [t]
  have k5 : ZOn.okp [aSta s, .c (.d (relsD b)), aRel r] = true := okG_enc ePl_inj (c := cPl) (s, b, r) (by unfold cPl; rw [hb]; unfold lenOk; rw [decide_eq_true (by simp only; omega)]; rfl)
  have t5 : theT ePl [aSta s, .c (.d (relsD b)), aRel r] = (s, b, r) := theT_enc ePl_inj (s, b, r)
  have k6 : ZOn.pl [aSta s, .c (.d (relsD b)), aRel r] = placeErr s.bays (b.map SRel.bay) r := by dsimp only [ZOn]; rw [t5]
  have k7 : ZOn.okr [aRel r] = true := okG_enc eR_inj (c := okRel) r hr
  have t := theT_enc eR_inj r
  have k8 : ZOn.fo [aRel r] = !usedOk r := congrArg (fun a => !usedOk a) t
  have k9 : ZOn.nu [aRel r] = (ev79_v r && (ev80_v r && (ev81_v r && ev82_v r))) := congrArg (fun a => ev79_v a && (ev80_v a && (ev81_v a && ev82_v a))) t
  have k10 : ZOn.mi [aRel r] = !ev83_v r := congrArg (fun a => !ev83_v a) t
  have k11 : ZOn.ma [aRel r] = !countsOk r := congrArg (fun a => !countsOk a) t
  have k12 : countsOk r = true → ZOn.oku [aRel r] = true := fun h => okG_enc eR_inj (c := cOu) r (by unfold cOu; rw [h, hr]; rfl)
  have k13 : ZOn.ru [aRel r] = eRules r.rules := congrArg (fun a : SRel => eRules a.rules) t
  have k14 : ZOn.li [aRel r] = refLists r := congrArg refLists t
  have fin : Lon7_6 ZOn nameOk s b r g g 0 = bif b.any (fun x => x.name.toList == r.name.toList) then lN 8 else lN (bif placeErr s.bays (b.map SRel.bay) r != 0 then placeErr s.bays (b.map SRel.bay) r else restErr r) := by
    have l1 := anyL_loop (p := fun x : SRel => x.name.toList == r.name.toList) (l := b) (d0 := rel0) (L := fun m i => Lon7_6 ZOn nameOk s b r g m i) (A := lN 8) (B := lN (bif placeErr s.bays (b.map SRel.bay) r != 0 then placeErr s.bays (b.map SRel.bay) r else restErr r)) (fun m k hk => by
      rw [ston7_6, lt1 hk, ge0, tn, nx hk (lenOk_le hb)]; rfl) (fun m => by
      rw [ston7_6, lt0 (Nat.lt_irrefl _), k5, k6, k7, k8, k9, k10, k11, k13, k14]
      unfold restErr
      rw [used_eq]
      cases hp : (placeErr s.bays (b.map SRel.bay) r != 0) with
      | true => rfl
      | false =>
        cases usedOk r with
        | false => rfl
        | true =>
          cases ev79_v r with
          | false => rfl
          | true =>
            cases ev80_v r with
            | false => rfl
            | true =>
              cases ev81_v r with
              | false => rfl
              | true =>
                cases ev82_v r with
                | false => rfl
                | true =>
                  cases ev83_v r with
                  | false => rfl
                  | true =>
                    cases hc : countsOk r with
                    | false => rfl
                    | true =>
                      rw [k12 hc]
                      unfold eLists refLists
                      cases (eRules r.rules != 0) <;> rfl) g 0 (by omega) (by omega)
    have e1 : Lon7_6 ZOn nameOk s b r g g 0 = _ := l1
    rw [e1]
    simp only [List.drop_zero]
  rw [k1, k2, k3, k4, fin, idxF_ge]
  unfold addErr
  rw [inB_app]
  have hb2 : inB (b.map SRel.name) r.name = b.any (fun x => x.name.toList == r.name.toList) := by
    unfold inB
    rw [List.any_map]
    congr 1
    funext x
    rw [strEq']
    rfl
  rw [hb2]
  cases nameOk r.name <;> cases inB (namesS s) r.name <;> cases b.any (fun x => x.name.toList == r.name.toList) <;> rfl

/-! Check -/
theorem ref_chk (s : SSta) : ∀ (l : List SRel) (i : Nat), i ≤ l.length → chkRels s.bays (namesS s ++ (l.take i).map SRel.name) ((l.take i).map SRel.bay) i (l.drop i) =
    if h : i < l.length then (bif addErr s.bays (namesS s ++ (l.take i).map SRel.name) ((l.take i).map SRel.bay) (l.getD i rel0) != 0 then ((i : Int), addErr s.bays (namesS s ++ (l.take i).map SRel.name) ((l.take i).map SRel.bay) (l.getD i rel0))
      else chkRels s.bays (namesS s ++ (l.take (i + 1)).map SRel.name) ((l.take (i + 1)).map SRel.bay) (i + 1) (l.drop (i + 1))) else (0, 0) := fun l i hi => by
  by_cases h : i < l.length
  · rw [dif_pos h, drop_at' (d := rel0) h]
    simp only [chkRels]
    have e : l.take (i + 1) = l.take i ++ [l.getD i rel0] := by
      rw [List.take_succ_eq_append_getElem h]
      simp [List.getD, h]
    rw [e]
    simp only [List.map_append, List.map_cons, List.map_nil, List.append_assoc]
  · rw [dif_neg h, List.drop_of_length_le (by omega)]
    rfl
abbrev tk (l : List SRel) (i : Int) : D := .sl 53 (i.toNat - ((0 : Nat) : Int).toNat) fun j => relC (l.getD (((0 : Nat) : Int).toNat + j) rel0)
theorem tk_take (l : List SRel) (k : Nat) (hk : k ≤ l.length) : DE (tk l k) (relsD (l.take k)) ∧ DE (relsD (l.take k)) (tk l k) := by
  have e : (k : Int).toNat - ((0 : Nat) : Int).toNat = (l.take k).length := by simp; omega
  have f : ∀ i, i < (l.take k).length → relC (l.getD (((0 : Nat) : Int).toNat + i) rel0) = relC ((l.take k).getD i rel0) := fun i hi => by
    have hi' : i < k := by simp at hi; omega
    have e0 : ((0 : Nat) : Int).toNat + i = i := by simp
    rw [e0]
    congr 1
    simp only [List.getD_eq_getElem?_getD, List.getElem?_take, hi', if_true]
  unfold tk
  rw [e]
  exact ⟨.sl_eq f, .sl_eq fun i hi => (f i hi).symm⟩
def cOe (a : SSta × List SRel × SRel) : Bool := cSz a.1 && (lenOk a.2.1 && okRel a.2.2)
theorem cCk (s : SSta) (l : List SRel) (hs : cSz s = true) (hl : lenOk l = true) (ha : l.all okRel = true) : CX Tryz.prog 15 [aSta s, .c (.d (relsD l))] [] (vP (chkRels s.bays (namesS s) [] 0 l)) [] := by
  have hS : OrcS Tryz.prog (oCk (okG ePl cOe) fun x => addErr (theT ePl x).1.bays (namesS (theT ePl x).1 ++ (theT ePl x).2.1.map SRel.name) ((theT ePl x).2.1.map SRel.bay) (theT ePl x).2.2) :=
    .cons (.t' (r := fun (a : SSta × List SRel × SRel) => vI (addErr a.1.bays (namesS a.1 ++ a.2.1.map SRel.name) (a.2.1.map SRel.bay) a.2.2)) fun a h => by
      unfold cOe at h
      simp only [Bool.and_eq_true] at h
      exact cOn a.1 a.2.1 a.2.2 h.1 h.2.1 h.2.2) .nil
  obtain ⟨g, hg⟩ : ∃ g, l.length < g := ⟨l.length + 1, by omega⟩
  refine cx_of hS.ok Tryz.func15 bck7 rfl ((evck7 _ _ s l g).trans ?_)
  have hl' := lenOk_le hl
  have lp : ∀ (m k : Nat), k ≤ l.length → l.length - k < m → Lck7_2 (okG ePl cOe) (fun x => addErr (theT ePl x).1.bays (namesS (theT ePl x).1 ++ (theT ePl x).2.1.map SRel.name) ((theT ePl x).2.1.map SRel.bay) (theT ePl x).2.2) s l g m k =
      some (.leaf (vP (chkRels s.bays (namesS s ++ (l.take k).map SRel.name) ((l.take k).map SRel.bay) k (l.drop k)), [])) := by
    intro m
    induction m with
    | zero => intro k _ h; omega
    | succ m ih =>
      intro k hk h
      rw [stck7_2, ref_chk s l k hk]
      by_cases hlt : k < l.length
      · rw [dif_pos hlt, lt1 hlt, ge0 k, tn, nx hlt hl', ih (k + 1) (by omega) (by omega)]
        have b1 : decide (((0 : Nat) : Int) ≤ (k : Int)) = true := decide_eq_true (by omega)
        have b2 : decide ((k : Int) ≤ (l.length : Int)) = true := decide_eq_true (by omega)
        have b3 : decide ((0 : Int) ≤ ((0 : Nat) : Int)) = true := rfl
        rw [b1, b2, b3]
        obtain ⟨d1, d2⟩ := tk_take l k hk
        have hr : okRel (l.getD k rel0) = true := all_getD ha rfl k
        have a1 : Asle [aSta s, .c (.d (tk l k)), aRel (l.getD k rel0)] (ePl (s, l.take k, l.getD k rel0)) := .cons (.refl _) (.cons d1 (.cons (.refl _) .nil))
        have a2 : Asle (ePl (s, l.take k, l.getD k rel0)) [aSta s, .c (.d (tk l k)), aRel (l.getD k rel0)] := .cons (.refl _) (.cons d2 (.cons (.refl _) .nil))
        have q1 : okG ePl cOe [aSta s, .c (.d (tk l k)), aRel (l.getD k rel0)] = true := okG_of ePl_inj a1 a2 (by
          unfold cOe lenOk
          rw [hs, hr, decide_eq_true (by simp; omega)]; rfl)
        have q2 : theT ePl [aSta s, .c (.d (tk l k)), aRel (l.getD k rel0)] = (s, l.take k, l.getD k rel0) := theT_of ePl_inj a1 a2
        unfold tk at q1 q2
        rw [tn] at q1 q2
        rw [q1, q2]
        simp only [tt, cond_true]
        generalize addErr s.bays (namesS s ++ (l.take k).map SRel.name) ((l.take k).map SRel.bay) (l.getD k rel0) = e
        cases (e != 0) <;> rfl
      · rw [dif_neg hlt, lt0 hlt]
        rfl
  have e := lp g 0 (by omega) (by omega)
  simp only [List.take_zero, List.map_nil, List.append_nil, List.drop_zero] at e
  exact e
end Go.Proofs.YtngoglhlhlfknaaGreat.se
namespace Go.Proofs.YtngoglhlhlfknaaGreat.se
open Go.RowKit Go.Eb Go.Proofs.YtngoglhlhlfknaaGreat.st
set_option maxRecDepth 100000

def eqS (a b : ByteArray) : Bool := a.toList == b.toList
def eqRu (a b : SRule) : Bool := a.name.toList == b.name.toList && (a.text.toList == b.text.toList && true)
def eqPu (a b : SPub) : Bool := a.set.toList == b.set.toList && (a.fst == b.fst && (a.max == b.max && true))
def eqSu (a b : SSub) : Bool := a.loc.toList == b.loc.toList && (a.dev.toList == b.dev.toList && (a.set.toList == b.set.toList && (a.sig.toList == b.sig.toList && true)))
def eqSt (a b : SSet) : Bool := a.name.toList == b.name.toList && eqL eqS a.sigs b.sigs
theorem lenne_eq {n m : Nat} : ((n : Int) == (m : Int)) = decide (n = m) := by
  rw [Bool.eq_iff_iff, beq_iff_eq, decide_eq_true_eq]; omega
theorem cEqS (a b : List ByteArray) (ha : lenOk a = true) : CX Tryz.prog 36 [.c (.d (busesD a)), .c (.d (busesD b))] [] (vB (eqL eqS a b)) [] :=
  cx_of (Orc.nil_ok _) Tryz.func36 beqS rfl ((eveqS a b (a.length + 1)).trans (eq_whole (L := LeqS_4 a b (a.length + 1)) (eq := eqS) (d := e0) (fun m i => steqS_4 a b (a.length + 1) m i) (lenOk_le ha) (by omega)))
theorem cEqU (a b : List SRule) (ha : lenOk a = true) : CX Tryz.prog 37 [.c (.d (rulesD a)), .c (.d (rulesD b))] [] (vB (eqL eqRu a b)) [] :=
  cx_of (Orc.nil_ok _) Tryz.func37 beqU rfl ((eveqU a b (a.length + 1)).trans (eq_whole (L := LeqU_4 a b (a.length + 1)) (eq := eqRu) (d := rule0) (fun m i => steqU_4 a b (a.length + 1) m i) (lenOk_le ha) (by omega)))
theorem cEqP (a b : List SPub) (ha : lenOk a = true) : CX Tryz.prog 39 [.c (.d (pubsD a)), .c (.d (pubsD b))] [] (vB (eqL eqPu a b)) [] :=
  cx_of (Orc.nil_ok _) Tryz.func39 beqP rfl ((eveqP a b (a.length + 1)).trans (eq_whole (L := LeqP_4 a b (a.length + 1)) (eq := eqPu) (d := pub0) (fun m i => steqP_4 a b (a.length + 1) m i) (lenOk_le ha) (by omega)))
theorem cEqB (a b : List SSub) (ha : lenOk a = true) : CX Tryz.prog 40 [.c (.d (subsD a)), .c (.d (subsD b))] [] (vB (eqL eqSu a b)) [] :=
  cx_of (Orc.nil_ok _) Tryz.func40 beqB rfl ((eveqB a b (a.length + 1)).trans (eq_whole (L := LeqB_4 a b (a.length + 1)) (eq := eqSu) (d := sub0) (fun m i => steqB_4 a b (a.length + 1) m i) (lenOk_le ha) (by omega)))
/-! sets -/
def cL2 {α β : Type} (x : List α × β) : Bool := lenOk x.1
abbrev e2S := en2 (aD busesD) (aD busesD)
theorem e2S_inj : InjT e2S := en2_inj (aD_inj (listD_inj (sz := 1) (d0 := e0) busC_inj)) (aD_inj (listD_inj (sz := 1) (d0 := e0) busC_inj))
theorem cSm1 (x y : SSet) (hx : okSet x = true) : CX Tryz.prog 35 [aSet x, aSet y] [] (vB (eqSt x y)) [] := by
  have hs : OrcS Tryz.prog (oSm1 (okG e2S cL2) fun z => eqL eqS (theT e2S z).1 (theT e2S z).2) := .cons (.t' (r := fun (z : List ByteArray × List ByteArray) => vB (eqL eqS z.1 z.2)) fun z h => cEqS z.1 z.2 h) .nil
  refine cx_of hs.ok Tryz.func35 bsm1 rfl ((evsm1 _ _ x y 1).trans ?_)
  have k := okG_enc e2S_inj (c := cL2) (x.sigs, y.sigs) hx
  have t := theT_enc e2S_inj (x.sigs, y.sigs)
  simp only [en2, aD] at k t
  rw [k, t]
  unfold eqSt
  cases (x.name.toList == y.name.toList) <;> rfl
abbrev e2T := en2 aSet aSet
theorem e2T_inj : InjT e2T := en2_inj aSet_inj aSet_inj
def cS2 (x : SSet × SSet) : Bool := okSet x.1
def enF (x : List SSet × List SSet) : List AV := [.c (.d (setsD x.1)), .c (.d (setsD x.2)), .c (.d (.v (.func (.func 35) #[] #[])))]
theorem cEqF (a b : List SSet) (ha : lenOk a = true) (hs : a.all okSet = true) : CX Tryz.prog 38 (enF (a, b)) [] (vB (eqL eqSt a b)) [] := by
  have ho : OrcS Tryz.prog (oEqF (okG e2T cS2) fun z => eqSt (theT e2T z).1 (theT e2T z).2) := .cons (.t' (r := fun (z : SSet × SSet) => vB (eqSt z.1 z.2)) fun z h => cSm1 z.1 z.2 h) .nil
  refine cx_of ho.ok Tryz.func38 beqF rfl ((eveqF _ _ a b (a.length + 1)).trans ?_)
  refine eq_whole (L := LeqF_4 (okG e2T cS2) (fun z => eqSt (theT e2T z).1 (theT e2T z).2) a b (a.length + 1)) (eq := eqSt) (d := set0) (fun m i => ?_) (lenOk_le ha) (by omega)
  have st := steqF_4 (okG e2T cS2) (fun z => eqSt (theT e2T z).1 (theT e2T z).2) a b (a.length + 1) m i
  have k : okG e2T cS2 [aSet (a.getD i.toNat set0), aSet (b.getD i.toNat set0)] = true := okG_enc e2T_inj (c := cS2) (a.getD i.toNat set0, b.getD i.toNat set0) (all_getD hs rfl _)
  have t : theT e2T [aSet (a.getD i.toNat set0), aSet (b.getD i.toNat set0)] = (a.getD i.toNat set0, b.getD i.toNat set0) := theT_enc e2T_inj (a.getD i.toNat set0, b.getD i.toNat set0)
  rw [k, t] at st
  refine Eq.trans st ?_
  generalize LeqF_4 (okG e2T cS2) (fun z => eqSt (theT e2T z).1 (theT e2T z).2) a b (a.length + 1) m = LL
  generalize decide (i < (a.length : Int)) = c1
  generalize decide (i < (b.length : Int)) = c2
  generalize decide (0 ≤ i) = c3
  cases c1 <;> cases c2 <;> cases c3 <;> rfl
/-! Same -/
def sameW (a b : SRel) (w : Bool) : Bool :=
  a.name.toList == b.name.toList && (a.kind == b.kind && (a.bay == b.bay &&
  (((a.zon0 == b.zon0 && (a.zfw0 == b.zfw0 && (a.zx0 == b.zx0 && (a.zr0 == b.zr0 && (a.zl0 == b.zl0 && (a.zd0 == b.zd0 && true)))))) && ((a.zon1 == b.zon1 && (a.zfw1 == b.zfw1 && (a.zx1 == b.zx1 && (a.zr1 == b.zr1 && (a.zl1 == b.zl1 && (a.zd1 == b.zd1 && true)))))) && ((a.zon2 == b.zon2 && (a.zfw2 == b.zfw2 && (a.zx2 == b.zx2 && (a.zr2 == b.zr2 && (a.zl2 == b.zl2 && (a.zd2 == b.zd2 && true)))))) && true))) &&
  (a.min == b.min && (a.kre == b.kre && (a.kim == b.kim && (a.scheme == b.scheme && (a.wait == b.wait && (a.guard == b.guard &&
  ((a.don == b.don && (a.dpk == b.dpk && (a.ddl == b.ddl && true))) && ((a.ion == b.ion && (a.ipk == b.ipk && (a.idl == b.idl && true))) && ((a.fon == b.fon && (a.fpk == b.fpk && (a.fdl == b.fdl && true))) &&
  (a.shots == b.shots && (a.dead == b.dead && (a.reclaim == b.reclaim && ((a.uon == b.uon && (a.upk == b.upk && (a.udl == b.udl && true))) && ((a.oon == b.oon && (a.opk == b.opk && (a.odl == b.odl && true))) &&
  (a.diff == b.diff && (a.num == b.num && (a.den == b.den && (a.harm == b.harm && w)))))))))))))))))))))
def listsEq (a b : SRel) : Bool := eqL eqRu a.rules b.rules && (eqL eqSt a.sets b.sets && (eqL eqPu a.pubs b.pubs && eqL eqSu a.subs b.subs))
def sameR (a b : SRel) : Bool := sameW a b (listsEq a b)
abbrev e2U := en2 (aD rulesD) (aD rulesD)
abbrev e2P := en2 (aD pubsD) (aD pubsD)
abbrev e2B := en2 (aD subsD) (aD subsD)
theorem e2U_inj : InjT e2U := en2_inj (aD_inj (listD_inj (sz := 2) (d0 := rule0) ruleC_inj)) (aD_inj (listD_inj (sz := 2) (d0 := rule0) ruleC_inj))
theorem e2P_inj : InjT e2P := en2_inj (aD_inj (listD_inj (sz := 3) (d0 := pub0) pubC_inj)) (aD_inj (listD_inj (sz := 3) (d0 := pub0) pubC_inj))
theorem e2B_inj : InjT e2B := en2_inj (aD_inj (listD_inj (sz := 4) (d0 := sub0) subC_inj)) (aD_inj (listD_inj (sz := 4) (d0 := sub0) subC_inj))
theorem enF_inj : InjT enF := fun x y h => Prod.ext (listD_inj setC_inj _ _ (ale_c (asle_cons h).1)) (listD_inj setC_inj _ _ (ale_c (asle_cons (asle_cons h).2).1))
def cF2 (x : List SSet × List SSet) : Bool := lenOk x.1 && x.1.all okSet
noncomputable def ZSm : KSm where
  oku := okG e2U cL2
  eu x := eqL eqRu (theT e2U x).1 (theT e2U x).2
  oks := okG enF cF2
  es x := eqL eqSt (theT enF x).1 (theT enF x).2
  okp := okG e2P cL2
  ep x := eqL eqPu (theT e2P x).1 (theT e2P x).2
  okb := okG e2B cL2
  eb x := eqL eqSu (theT e2B x).1 (theT e2B x).2
theorem sSme : OrcS Tryz.prog (oSme ZSm) := .cons (.t' (r := fun (z : List SRule × List SRule) => vB (eqL eqRu z.1 z.2)) fun z h => cEqU z.1 z.2 h) (.cons (.t' (r := fun (z : List SSet × List SSet) => vB (eqL eqSt z.1 z.2)) fun z h => by
    unfold cF2 at h
    simp only [Bool.and_eq_true] at h
    exact cEqF z.1 z.2 h.1 h.2) (.cons (.t' (r := fun (z : List SPub × List SPub) => vB (eqL eqPu z.1 z.2)) fun z h => cEqP z.1 z.2 h) (.cons (.t' (r := fun (z : List SSub × List SSub) => vB (eqL eqSu z.1 z.2)) fun z h => cEqB z.1 z.2 h) .nil)))
theorem cSme (a b : SRel) (ha : okRel a = true) : CX Tryz.prog 16 [aRel a, aRel b] [] (vB (sameR a b)) [] := by
  unfold okRel at ha
  simp only [Bool.and_eq_true] at ha
  obtain ⟨h1, h2, h3, h4, h5⟩ := ha
  refine cx_of sSme.ok Tryz.func16 bsme rfl ((evsme ZSm a b 1).trans ?_)
  have k1 : ZSm.oku [.c (.d (rulesD a.rules)), .c (.d (rulesD b.rules))] = true := okG_enc e2U_inj (c := cL2) (a.rules, b.rules) h1
  have q1 : ZSm.eu [.c (.d (rulesD a.rules)), .c (.d (rulesD b.rules))] = eqL eqRu a.rules b.rules := congrArg (fun z : List SRule × List SRule => eqL eqRu z.1 z.2) (theT_enc e2U_inj (a.rules, b.rules))
  have k2 : ZSm.oks (enF (a.sets, b.sets)) = true := okG_enc enF_inj (c := cF2) (a.sets, b.sets) (by unfold cF2; rw [h2, h5]; rfl)
  have q2 : ZSm.es (enF (a.sets, b.sets)) = eqL eqSt a.sets b.sets := congrArg (fun z : List SSet × List SSet => eqL eqSt z.1 z.2) (theT_enc enF_inj (a.sets, b.sets))
  have k3 : ZSm.okp [.c (.d (pubsD a.pubs)), .c (.d (pubsD b.pubs))] = true := okG_enc e2P_inj (c := cL2) (a.pubs, b.pubs) h3
  have q3 : ZSm.ep [.c (.d (pubsD a.pubs)), .c (.d (pubsD b.pubs))] = eqL eqPu a.pubs b.pubs := congrArg (fun z : List SPub × List SPub => eqL eqPu z.1 z.2) (theT_enc e2P_inj (a.pubs, b.pubs))
  have k4 : ZSm.okb [.c (.d (subsD a.subs)), .c (.d (subsD b.subs))] = true := okG_enc e2B_inj (c := cL2) (a.subs, b.subs) h4
  have q4 : ZSm.eb [.c (.d (subsD a.subs)), .c (.d (subsD b.subs))] = eqL eqSu a.subs b.subs := congrArg (fun z : List SSub × List SSub => eqL eqSu z.1 z.2) (theT_enc e2B_inj (a.subs, b.subs))
  unfold enF at k2 q2
  rw [k1, q1, k2, q2, k3, q3, k4, q4]
  unfold sameR sameW listsEq
  simp only [cond_true, bAnd]
/-! the reference's -/
theorem lp21 (a b : SRel) (g m k : Nat) (ok : Bool) (hk : k < a.sets.length) (hkb : k < b.sets.length) (hl : ok = true → (a.sets.getD k set0).sigs.length = (b.sets.getD k set0).sigs.length) (hg : (a.sets.getD k set0).sigs.length < g) (hs : okSet (a.sets.getD k set0) = true) (ha : a.sets.length ≤ 9223372036854775807) :
    Lsls_21 a b g m g ok k 0 = Lsls_17 a b g m (ok && eqL eqS (a.sets.getD k set0).sigs (b.sets.getD k set0).sigs) ((k + 1 : Nat) : Int) := by
  have hS := lenOk_le hs
  obtain ⟨g', rfl⟩ : ∃ g', g = g' + 1 := ⟨g - 1, by omega⟩
  have hf : ∀ (n j : Nat), Lsls_21 a b (g' + 1) m (n + 1) false k j = Lsls_17 a b (g' + 1) m false ((k + 1 : Nat) : Int) := fun n j => by
    have st := stsls_21 a b (g' + 1) m n false k j
    rw [lt1 hk, ge0, nx hk ha] at st
    refine Eq.trans st ?_
    generalize Lsls_17 a b (g' + 1) m false ((k + 1 : Nat) : Int) = X
    generalize Lsls_21 a b (g' + 1) m n = Y
    cases decide ((j : Int) < ((a.sets.getD (k : Int).toNat set0).sigs.length : Int)) <;> rfl
  cases ok with
  | false => rw [Bool.false_and]; exact hf g' 0
  | true =>
    have hl' := hl rfl
    have := flagx_loop (eq := eqS) (a := (a.sets.getD k set0).sigs) (b := (b.sets.getD k set0).sigs) (d := e0) (L := fun n ok j => Lsls_21 a b (g' + 1) m n ok k j) (NX := fun ok => Lsls_17 a b (g' + 1) m ok ((k + 1 : Nat) : Int)) hl' (fun n j hj => by
      have st := stsls_21 a b (g' + 1) m n true k j
      rw [lt1 hk, ge0 k, tn, lt1 hkb, lt1 hj, ge0 j, lt1 (show j < (b.sets.getD k set0).sigs.length by omega), tn, nx hj hS] at st
      refine Eq.trans st ?_
      generalize Lsls_21 a b (g' + 1) m n = Y
      rfl) (fun n => by
      have st := stsls_21 a b (g' + 1) m n true k ((a.sets.getD k set0).sigs.length : Nat)
      rw [lt1 hk, ge0 k, tn, lt0 (Nat.lt_irrefl _), nx hk ha] at st
      refine Eq.trans st ?_
      generalize Lsls_17 a b (g' + 1) m true ((k + 1 : Nat) : Int) = X
      rfl) (fun n j _ => hf n j) (g' + 1) 0 true (by omega) (by omega)
    simp only [List.drop_zero] at this
    exact this
theorem eqSt_len (x y : SSet) : ((x.name.toList == y.name.toList) && decide (x.sigs.length = y.sigs.length) && eqL eqS x.sigs y.sigs) = eqSt x y := by
  unfold eqSt
  by_cases h : x.sigs.length = y.sigs.length
  · rw [decide_eq_true h, Bool.and_true]
  · rw [eqL_ne eqS _ _ h, decide_eq_false h]
    simp
theorem cSls (a b : SRel) (ha : okRel a = true) : CX Tryz.prog 41 [aRel a, aRel b] [] (vB (listsEq a b)) [] := by
  obtain ⟨h1, h2, h3, h4, h5⟩ := okRel_len ha
  obtain ⟨g, g1, g2, g3, g4, g5⟩ : ∃ g, a.rules.length < g ∧ a.sets.length < g ∧ a.pubs.length < g ∧ a.subs.length < g ∧ ∀ k, (a.sets.getD k set0).sigs.length < g := by
    have key : ∀ l : List SSet, ∃ g, ∀ k, (l.getD k set0).sigs.length < g := by
      intro l
      induction l with
      | nil => exact ⟨1, fun k => by simp [set0]⟩
      | cons x t ih =>
        obtain ⟨g, hg⟩ := ih
        refine ⟨g + x.sigs.length + 1, fun k => ?_⟩
        cases k with
        | zero => simp only [List.getD_cons_zero]; omega
        | succ k => have := hg k; simp only [List.getD_cons_succ]; omega
    obtain ⟨g, hg⟩ := key a.sets
    exact ⟨g + a.rules.length + a.sets.length + a.pubs.length + a.subs.length + 1, by omega, by omega, by omega, by omega, fun k => by have := hg k; omega⟩
  refine cx_of (Orc.nil_ok _) Tryz.func41 bsls rfl ((evsls a b g).trans ?_)
  rw [lenne, lenne, lenne, lenne]
  unfold listsEq
  by_cases l1 : a.rules.length = b.rules.length
  · by_cases l2 : a.sets.length = b.sets.length
    · by_cases l3 : a.pubs.length = b.pubs.length
      · by_cases l4 : a.subs.length = b.subs.length
        · rw [decide_eq_true l1, decide_eq_true l2, decide_eq_true l3, decide_eq_true l4]
          have k17 : ∀ ok, Lsls_17 a b g g ok 0 = lB (ok && eqL eqSt a.sets b.sets) := fun ok => by
            have := flagx_loop (eq := eqSt) (a := a.sets) (b := b.sets) (d := set0) (L := fun n ok j => Lsls_17 a b g n ok j) (NX := fun ok => lB ok) l2 (fun n j hj => by
              have hjb : j < b.sets.length := by omega
              have st := stsls_17 a b g n true j
              rw [lt1 hj, ge0, tn, lt1 hjb, lenne_eq] at st
              have t1 := lp21 a b g n j (decide ((a.sets.getD j set0).sigs.length = (b.sets.getD j set0).sigs.length)) hj hjb (fun h => of_decide_eq_true h) (g5 j) (all_getD h5 rfl j) h2
              have t2 := lp21 a b g n j false hj hjb (fun h => by cases h) (g5 j) (all_getD h5 rfl j) h2
              rw [t1, t2] at st
              refine Eq.trans st ?_
              rw [← eqSt_len]
              generalize Lsls_17 a b g n = Y
              cases ((a.sets.getD j set0).name.toList == (b.sets.getD j set0).name.toList) <;> cases decide ((a.sets.getD j set0).sigs.length = (b.sets.getD j set0).sigs.length) <;> rfl) (fun n => by
              have st := stsls_17 a b g n true (a.sets.length : Nat)
              rw [lt0 (Nat.lt_irrefl _)] at st
              exact st) (fun n j hj => by
              have st := stsls_17 a b g n false j
              refine Eq.trans st ?_
              cases decide ((j : Int) < (a.sets.length : Int)) <;> rfl) g 0 ok (by omega) (by omega)
            simp only [List.drop_zero] at this
            exact this
          have k13 : ∀ ok, Lsls_13 a b g g ok 0 = Lsls_17 a b g g (ok && eqL eqSu a.subs b.subs) 0 := fun ok => by
            have := flag_loop (eq := eqSu) (a := a.subs) (b := b.subs) (d := sub0) (L := fun n ok j => Lsls_13 a b g n ok j) (NX := fun ok => Lsls_17 a b g g ok 0) l4 (fun n j ok hj => by
              have st := stsls_13 a b g n ok j
              rw [lt1 hj, ge0, tn, lt1 (show j < b.subs.length by omega), nx hj h4] at st
              refine Eq.trans st ?_
              generalize Lsls_13 a b g n = Y
              generalize Lsls_17 a b g g = Z
              cases ok <;> rfl) (fun n ok => by
              have st := stsls_13 a b g n ok (a.subs.length : Nat)
              rw [lt0 (Nat.lt_irrefl _)] at st
              rw [cond_false] at st
              exact st) g 0 ok (by omega) (by omega)
            simp only [List.drop_zero] at this
            exact this
          have k9 : ∀ ok, Lsls_9 a b g g ok 0 = Lsls_13 a b g g (ok && eqL eqPu a.pubs b.pubs) 0 := fun ok => by
            have := flag_loop (eq := eqPu) (a := a.pubs) (b := b.pubs) (d := pub0) (L := fun n ok j => Lsls_9 a b g n ok j) (NX := fun ok => Lsls_13 a b g g ok 0) l3 (fun n j ok hj => by
              have st := stsls_9 a b g n ok j
              rw [lt1 hj, ge0, tn, lt1 (show j < b.pubs.length by omega), nx hj h3] at st
              refine Eq.trans st ?_
              generalize Lsls_9 a b g n = Y
              generalize Lsls_13 a b g g = Z
              cases ok <;> rfl) (fun n ok => by
              have st := stsls_9 a b g n ok (a.pubs.length : Nat)
              rw [lt0 (Nat.lt_irrefl _)] at st
              rw [cond_false] at st
              exact st) g 0 ok (by omega) (by omega)
            simp only [List.drop_zero] at this
            exact this
          have k5 : ∀ ok, Lsls_5 a b g g ok 0 = Lsls_9 a b g g (ok && eqL eqRu a.rules b.rules) 0 := fun ok => by
            have := flag_loop (eq := eqRu) (a := a.rules) (b := b.rules) (d := rule0) (L := fun n ok j => Lsls_5 a b g n ok j) (NX := fun ok => Lsls_9 a b g g ok 0) l1 (fun n j ok hj => by
              have st := stsls_5 a b g n ok j
              rw [lt1 hj, ge0, tn, lt1 (show j < b.rules.length by omega), nx hj h1] at st
              refine Eq.trans st ?_
              generalize Lsls_5 a b g n = Y
              generalize Lsls_9 a b g g = Z
              cases ok <;> rfl) (fun n ok => by
              have st := stsls_5 a b g n ok (a.rules.length : Nat)
              rw [lt0 (Nat.lt_irrefl _)] at st
              rw [cond_false] at st
              exact st) g 0 ok (by omega) (by omega)
            simp only [List.drop_zero] at this
            exact this
          rw [k5, k9, k13, k17]
          generalize eqL eqRu a.rules b.rules = x1
          generalize eqL eqPu a.pubs b.pubs = x2
          generalize eqL eqSu a.subs b.subs = x3
          generalize eqL eqSt a.sets b.sets = x4
          cases x1 <;> cases x2 <;> cases x3 <;> cases x4 <;> rfl
        · rw [eqL_ne eqSu _ _ l4, decide_eq_true l1, decide_eq_true l2, decide_eq_true l3, decide_eq_false l4]
          simp
      · rw [eqL_ne eqPu _ _ l3, decide_eq_true l1, decide_eq_true l2, decide_eq_false l3]
        simp
    · rw [eqL_ne eqSt _ _ l2, decide_eq_true l1, decide_eq_false l2]
      simp
  · rw [eqL_ne eqRu _ _ l1, decide_eq_false l1]
    simp
abbrev e2R := en2 aRel aRel
theorem e2R_inj : InjT e2R := en2_inj aRel_inj aRel_inj
def cR2 (x : SRel × SRel) : Bool := okRel x.1
theorem cRsm (a b : SRel) (ha : okRel a = true) : CX Tryz.prog 17 [aRel a, aRel b] [] (vB (sameR a b)) [] := by
  have hs : OrcS Tryz.prog (oRsm (okG e2R cR2) fun z => listsEq (theT e2R z).1 (theT e2R z).2) := .cons (.t' (r := fun (z : SRel × SRel) => vB (listsEq z.1 z.2)) fun z h => cSls z.1 z.2 h) .nil
  refine cx_of hs.ok Tryz.func17 brsm rfl ((evrsm _ _ a b 1).trans ?_)
  have k : okG e2R cR2 [aRel a, aRel b] = true := okG_enc e2R_inj (c := cR2) (a, b) ha
  have t : theT e2R [aRel a, aRel b] = (a, b) := theT_enc e2R_inj (a, b)
  rw [k, t]
  unfold sameR sameW
  simp only [neN, cond_true, bAnd, bNot]
theorem sameR_refl (a : SRel) : sameR a a = true := by
  have u : ∀ x : SRule, eqRu x x = true := fun x => by unfold eqRu; simp
  have p : ∀ x : SPub, eqPu x x = true := fun x => by unfold eqPu; simp
  have s : ∀ x : SSub, eqSu x x = true := fun x => by unfold eqSu; simp
  have e : ∀ x : ByteArray, eqS x x = true := fun x => by unfold eqS; simp
  have t : ∀ x : SSet, eqSt x x = true := fun x => by unfold eqSt; rw [eqL_refl e]; simp
  unfold sameR sameW listsEq
  rw [eqL_refl u, eqL_refl p, eqL_refl s, eqL_refl t]
  simp only [beq_self_eq_true, Bool.and_self]
end Go.Proofs.YtngoglhlhlfknaaGreat.se
namespace Go.Proofs.YtngoglhlhlfknaaGreat.se
open Go.RowKit Go.Eb Go.Proofs.YtngoglhlhlfknaaGreat.st
set_option maxRecDepth 100000

noncomputable def annlg7 : Ann := annOf [(4, ⟨[1, 3], []⟩), (9, ⟨[1, 4], []⟩)]
noncomputable def Llg7_4 (r : SRel) (g m : Nat) (i3 : Int) := LK Tryz.prog Orc.nil annlg7 (List.length (α := Nat × Blk) []) g Tryz.f33 4 m ⟨frm [(1, AV.c (C.ptr 0 0)), (3, AV.c (C.d (D.v (Value.int IntKind.i64 i3))))] 0 Tryz.f33.ntmps, [(0, Blk.cells (List.map C.d (relC r)) 57)], 1⟩
noncomputable def Llg7_9 (r : SRel) (g m : Nat) (i4 : Int) := LK Tryz.prog Orc.nil annlg7 (List.length (α := Nat × Blk) []) g Tryz.f33 9 m ⟨frm [(1, AV.c (C.ptr 0 0)), (4, AV.c (C.d (D.v (Value.int IntKind.i64 i4))))] 0 Tryz.f33.ntmps, [(0, Blk.cells (List.map C.d (relC r)) 57)], 1⟩
theorem blg7 : Tryz.f33.body = some (bodyOf Tryz.f33) := by kernel_rfl
set_option maxRecDepth 100000 in
theorem evlg7 (r : SRel) (g : Nat) : callC Tryz.prog Orc.nil annlg7 g Tryz.f33 (bodyOf Tryz.f33) [aRel r] [] =
 (bif decide ((↑(List.length (SRel.rules r)) : Int) > (20 : Int)) then some (T.leaf (AV.c (C.d (D.v (Value.bool true))), [])) else (bif decide ((↑(List.length (SRel.sets r)) : Int) >
 (8 : Int)) then some (T.leaf (AV.c (C.d (D.v (Value.bool true))), [])) else (bif decide ((↑(List.length (SRel.pubs r)) : Int) > (8 : Int)) then some (T.leaf (AV.c (C.d (D.v
 (Value.bool true))), [])) else (bif decide ((↑(List.length (SRel.subs r)) : Int) > (30 : Int)) then some (T.leaf (AV.c (C.d (D.v (Value.bool true))), [])) else Llg7_4 r g g ((0 :
 Int)))))) := by kernel_rfl
set_option maxRecDepth 100000 in
theorem stlg7_4 (r : SRel) (g m : Nat) (i3 : Int) : Llg7_4 r g (m + 1) i3 =
 (bif decide (i3 < (↑(List.length (SRel.sets r)) : Int)) then (bif decide ((0 : Int) ≤ i3) && decide (i3 < (↑(List.length (SRel.sets r)) : Int)) then (bif decide ((↑(List.length
 (SSet.sigs (List.getD (SRel.sets r) (Int.toNat i3) set0))) : Int) > (30 : Int)) then some (T.leaf (AV.c (C.d (D.v (Value.bool true))), [])) else Llg7_4 r g m (IntKind.wrap
 IntKind.i64 (i3 + (1 : Int)))) else none) else Llg7_9 r g g ((0 : Int))) := by kernel_rfl
set_option maxRecDepth 100000 in
theorem stlg7_9 (r : SRel) (g m : Nat) (i4 : Int) : Llg7_9 r g (m + 1) i4 =
 (bif decide (i4 < (↑(List.length (SRel.rules r)) : Int)) then (bif decide ((0 : Int) ≤ i4) && decide (i4 < (↑(List.length (SRel.rules r)) : Int)) then (bif decide ((↑(ByteArray.size
 (SRule.text (List.getD (SRel.rules r) (Int.toNat i4) rule0))) : Int) > (200 : Int)) then some (T.leaf (AV.c (C.d (D.v (Value.bool true))), [])) else Llg7_9 r g m (IntKind.wrap
 IntKind.i64 (i4 + (1 : Int)))) else none) else some (T.leaf (AV.c (C.d (D.v (Value.bool false))), []))) := by kernel_rfl
structure KF where
  okS : List AV → Bool
  lg : List AV → Bool
  chk : List AV → Int
  okr : List AV → Bool
  lr : List AV → Bool
noncomputable def oF (Z : KF) : Orc := Orc.cons 8 (ansG Z.okS fun x => vB (Z.lg x)) (Orc.cons 9 (ansG Z.okS fun x => vI (Z.chk x)) (Orc.cons 33 (ansG Z.okr fun x => vB (Z.lr x)) Orc.nil))
noncomputable def annfin : Ann := annOf [(4, ⟨[1, 5], []⟩)]
noncomputable def Lfin_4 (Z : KF) (s : SSta) (l : List SRel) (g m : Nat) (i5 : Int) := LK Tryz.prog (oF Z) annfin (List.length (α := Nat × Blk) []) g Tryz.f14 4 m ⟨frm [(1, AV.c (C.d (listD 53 relC rel0 l))), (5, AV.c (C.d (D.v (Value.int IntKind.i64 i5))))] 0 Tryz.f14.ntmps, [], 0⟩
theorem bfin : Tryz.f14.body = some (bodyOf Tryz.f14) := by kernel_rfl
set_option maxRecDepth 100000 in
theorem evfin (Z : KF) (s : SSta) (l : List SRel) (g : Nat) : callC Tryz.prog (oF Z) annfin g Tryz.f14 (bodyOf Tryz.f14) [aSta s, .c (.d (relsD l))] [] =
 (bif KF.okS Z [AV.agg (List.map C.d (staC s))] then (bif KF.lg Z [AV.agg (List.map C.d (staC s))] then some (T.leaf (AV.c (C.d (D.v (Value.bool false))), [])) else (bif KF.okS Z
 [AV.agg (List.map C.d (staC s))] then (bif KF.chk Z [AV.agg (List.map C.d (staC s))] != (0 : Int) then some (T.leaf (AV.c (C.d (D.v (Value.bool false))), [])) else (bif decide
 ((↑(List.length l) : Int) > (20 : Int)) then some (T.leaf (AV.c (C.d (D.v (Value.bool false))), [])) else Lfin_4 Z s l g g ((0 : Int)))) else none)) else none) := by kernel_rfl
set_option maxRecDepth 100000 in
theorem stfin_4 (Z : KF) (s : SSta) (l : List SRel) (g m : Nat) (i5 : Int) : Lfin_4 Z s l g (m + 1) i5 =
 (bif decide (i5 < (↑(List.length l) : Int)) then (bif decide ((0 : Int) ≤ i5) && decide (i5 < (↑(List.length l) : Int)) then (bif KF.okr Z [AV.agg (List.map C.d (relC (List.getD l
 (Int.toNat i5) rel0)))] then (bif KF.lr Z [AV.agg (List.map C.d (relC (List.getD l (Int.toNat i5) rel0)))] then some (T.leaf (AV.c (C.d (D.v (Value.bool false))), [])) else Lfin_4 Z
 s l g m (IntKind.wrap IntKind.i64 (i5 + (1 : Int)))) else none) else none) else some (T.leaf (AV.c (C.d (D.v (Value.bool true))), []))) := by kernel_rfl
structure KX where
  okf : List AV → Bool
  fi : List AV → Bool
  okc : List AV → Bool
  ci : List AV → Int
  ce : List AV → Int
noncomputable def oX (Z : KX) : Orc := Orc.cons 7 (ansP dec0 fun _ => vB true) (Orc.cons 14 (ansG Z.okf fun x => vB (Z.fi x)) (Orc.cons 13 (ansG Z.okc fun x => .tup [(false, [.d (dI (Z.ci x))]), (false, [.d (dI (Z.ce x))])]) Orc.nil))
noncomputable def annpx : Ann := annOf []
theorem bpx : Tryz.f4.body = some (bodyOf Tryz.f4) := by kernel_rfl
set_option maxRecDepth 100000 in
theorem evpx (Z : KX) (s : SSta) (l : List SRel) (k : Int) (g : Nat) : callC Tryz.prog (oX Z) annpx g Tryz.f4 (bodyOf Tryz.f4) [aSta s, .c (.d (relsD l)), vI k] [] =
 (bif KX.okf Z [AV.agg (List.map C.d (staC s)), AV.c (C.d (listD ((53 : Nat)) relC rel0 l))] then (bif !KX.fi Z [AV.agg (List.map C.d (staC s)), AV.c (C.d (listD ((53 : Nat)) relC
 rel0 l))] then some (T.leaf (AV.c (C.d (D.v (Value.bool true))), [])) else (bif (↑(List.length l) : Int) == (0 : Int) then some (T.leaf (AV.c (C.d (D.v (Value.bool true))), []))
 else (bif !IntKind.wrap IntKind.i64 ((↑(List.length l) : Int) + (1 : Int)) == (0 : Int) then (bif decide (Int.tmod k (IntKind.wrap IntKind.i64 ((↑(List.length l) : Int) + (1 :
 Int))) < (0 : Int)) then (bif KX.okc Z [AV.agg (List.map C.d (staC s)), AV.c (C.d (listD ((53 : Nat)) relC rel0 l))] then (bif decide ((0 : Int) ≤ (↑(0 : Nat) : Int)) && decide
 ((↑(0 : Nat) : Int) ≤ IntKind.wrap IntKind.i64 (IntKind.wrap IntKind.i64 (Int.tmod k (IntKind.wrap IntKind.i64 ((↑(List.length l) : Int) + (1 : Int))) + (↑(List.length l) : Int)) +
 (1 : Int))) && decide (IntKind.wrap IntKind.i64 (IntKind.wrap IntKind.i64 (Int.tmod k (IntKind.wrap IntKind.i64 ((↑(List.length l) : Int) + (1 : Int))) + (↑(List.length l) : Int)) +
 (1 : Int)) ≤ (↑(List.length l) : Int)) then (bif KX.okc Z [AV.agg (List.map C.d (staC s)), AV.c (C.d (D.sl ((53 : Nat)) (Int.toNat (IntKind.wrap IntKind.i64 (IntKind.wrap
 IntKind.i64 (Int.tmod k (IntKind.wrap IntKind.i64 ((↑(List.length l) : Int) + (1 : Int))) + (↑(List.length l) : Int)) + (1 : Int))) - Int.toNat (↑(0 : Nat) : Int)) fun i => relC
 (List.getD l (Int.toNat (↑(0 : Nat) : Int) + i) rel0)))] then (bif KX.ce Z [AV.agg (List.map C.d (staC s)), AV.c (C.d (listD ((53 : Nat)) relC rel0 l))] == (0 : Int) then (bif KX.ci
 Z [AV.agg (List.map C.d (staC s)), AV.c (C.d (D.sl ((53 : Nat)) (Int.toNat (IntKind.wrap IntKind.i64 (IntKind.wrap IntKind.i64 (Int.tmod k (IntKind.wrap IntKind.i64 ((↑(List.length
 l) : Int) + (1 : Int))) + (↑(List.length l) : Int)) + (1 : Int))) - Int.toNat (↑(0 : Nat) : Int)) fun i => relC (List.getD l (Int.toNat (↑(0 : Nat) : Int) + i) rel0)))] == (0 : Int)
 then some (T.leaf (AV.c (C.d (D.v (Value.bool (KX.ce Z [AV.agg (List.map C.d (staC s)), AV.c (C.d (D.sl ((53 : Nat)) (Int.toNat (IntKind.wrap IntKind.i64 (IntKind.wrap IntKind.i64
 (Int.tmod k (IntKind.wrap IntKind.i64 ((↑(List.length l) : Int) + (1 : Int))) + (↑(List.length l) : Int)) + (1 : Int))) - Int.toNat (↑(0 : Nat) : Int)) fun i => relC (List.getD l
 (Int.toNat (↑(0 : Nat) : Int) + i) rel0)))] == (0 : Int))))), [])) else some (T.leaf (AV.c (C.d (D.v (Value.bool false))), []))) else (bif decide (KX.ci Z [AV.agg (List.map C.d
 (staC s)), AV.c (C.d (listD ((53 : Nat)) relC rel0 l))] ≥ IntKind.wrap IntKind.i64 (IntKind.wrap IntKind.i64 (Int.tmod k (IntKind.wrap IntKind.i64 ((↑(List.length l) : Int) + (1 :
 Int))) + (↑(List.length l) : Int)) + (1 : Int))) then (bif KX.ci Z [AV.agg (List.map C.d (staC s)), AV.c (C.d (D.sl ((53 : Nat)) (Int.toNat (IntKind.wrap IntKind.i64 (IntKind.wrap
 IntKind.i64 (Int.tmod k (IntKind.wrap IntKind.i64 ((↑(List.length l) : Int) + (1 : Int))) + (↑(List.length l) : Int)) + (1 : Int))) - Int.toNat (↑(0 : Nat) : Int)) fun i => relC
 (List.getD l (Int.toNat (↑(0 : Nat) : Int) + i) rel0)))] == (0 : Int) then some (T.leaf (AV.c (C.d (D.v (Value.bool (KX.ce Z [AV.agg (List.map C.d (staC s)), AV.c (C.d (D.sl ((53 :
 Nat)) (Int.toNat (IntKind.wrap IntKind.i64 (IntKind.wrap IntKind.i64 (Int.tmod k (IntKind.wrap IntKind.i64 ((↑(List.length l) : Int) + (1 : Int))) + (↑(List.length l) : Int)) + (1 :
 Int))) - Int.toNat (↑(0 : Nat) : Int)) fun i => relC (List.getD l (Int.toNat (↑(0 : Nat) : Int) + i) rel0)))] == (0 : Int))))), [])) else some (T.leaf (AV.c (C.d (D.v (Value.bool
 false))), []))) else (bif KX.ci Z [AV.agg (List.map C.d (staC s)), AV.c (C.d (D.sl ((53 : Nat)) (Int.toNat (IntKind.wrap IntKind.i64 (IntKind.wrap IntKind.i64 (Int.tmod k
 (IntKind.wrap IntKind.i64 ((↑(List.length l) : Int) + (1 : Int))) + (↑(List.length l) : Int)) + (1 : Int))) - Int.toNat (↑(0 : Nat) : Int)) fun i => relC (List.getD l (Int.toNat
 (↑(0 : Nat) : Int) + i) rel0)))] == KX.ci Z [AV.agg (List.map C.d (staC s)), AV.c (C.d (listD ((53 : Nat)) relC rel0 l))] then some (T.leaf (AV.c (C.d (D.v (Value.bool (KX.ce Z
 [AV.agg (List.map C.d (staC s)), AV.c (C.d (D.sl ((53 : Nat)) (Int.toNat (IntKind.wrap IntKind.i64 (IntKind.wrap IntKind.i64 (Int.tmod k (IntKind.wrap IntKind.i64 ((↑(List.length l)
 : Int) + (1 : Int))) + (↑(List.length l) : Int)) + (1 : Int))) - Int.toNat (↑(0 : Nat) : Int)) fun i => relC (List.getD l (Int.toNat (↑(0 : Nat) : Int) + i) rel0)))] == KX.ce Z
 [AV.agg (List.map C.d (staC s)), AV.c (C.d (listD ((53 : Nat)) relC rel0 l))])))), [])) else some (T.leaf (AV.c (C.d (D.v (Value.bool false))), []))))) else none) else none) else
 none) else (bif KX.okc Z [AV.agg (List.map C.d (staC s)), AV.c (C.d (listD ((53 : Nat)) relC rel0 l))] then (bif decide ((0 : Int) ≤ (↑(0 : Nat) : Int)) && decide ((↑(0 : Nat) :
 Int) ≤ Int.tmod k (IntKind.wrap IntKind.i64 ((↑(List.length l) : Int) + (1 : Int)))) && decide (Int.tmod k (IntKind.wrap IntKind.i64 ((↑(List.length l) : Int) + (1 : Int))) ≤
 (↑(List.length l) : Int)) then (bif KX.okc Z [AV.agg (List.map C.d (staC s)), AV.c (C.d (D.sl ((53 : Nat)) (Int.toNat (Int.tmod k (IntKind.wrap IntKind.i64 ((↑(List.length l) : Int)
 + (1 : Int)))) - Int.toNat (↑(0 : Nat) : Int)) fun i => relC (List.getD l (Int.toNat (↑(0 : Nat) : Int) + i) rel0)))] then (bif KX.ce Z [AV.agg (List.map C.d (staC s)), AV.c (C.d
 (listD ((53 : Nat)) relC rel0 l))] == (0 : Int) then (bif KX.ci Z [AV.agg (List.map C.d (staC s)), AV.c (C.d (D.sl ((53 : Nat)) (Int.toNat (Int.tmod k (IntKind.wrap IntKind.i64
 ((↑(List.length l) : Int) + (1 : Int)))) - Int.toNat (↑(0 : Nat) : Int)) fun i => relC (List.getD l (Int.toNat (↑(0 : Nat) : Int) + i) rel0)))] == (0 : Int) then some (T.leaf (AV.c
 (C.d (D.v (Value.bool (KX.ce Z [AV.agg (List.map C.d (staC s)), AV.c (C.d (D.sl ((53 : Nat)) (Int.toNat (Int.tmod k (IntKind.wrap IntKind.i64 ((↑(List.length l) : Int) + (1 :
 Int)))) - Int.toNat (↑(0 : Nat) : Int)) fun i => relC (List.getD l (Int.toNat (↑(0 : Nat) : Int) + i) rel0)))] == (0 : Int))))), [])) else some (T.leaf (AV.c (C.d (D.v (Value.bool
 false))), []))) else (bif decide (KX.ci Z [AV.agg (List.map C.d (staC s)), AV.c (C.d (listD ((53 : Nat)) relC rel0 l))] ≥ Int.tmod k (IntKind.wrap IntKind.i64 ((↑(List.length l) :
 Int) + (1 : Int)))) then (bif KX.ci Z [AV.agg (List.map C.d (staC s)), AV.c (C.d (D.sl ((53 : Nat)) (Int.toNat (Int.tmod k (IntKind.wrap IntKind.i64 ((↑(List.length l) : Int) + (1 :
 Int)))) - Int.toNat (↑(0 : Nat) : Int)) fun i => relC (List.getD l (Int.toNat (↑(0 : Nat) : Int) + i) rel0)))] == (0 : Int) then some (T.leaf (AV.c (C.d (D.v (Value.bool (KX.ce Z
 [AV.agg (List.map C.d (staC s)), AV.c (C.d (D.sl ((53 : Nat)) (Int.toNat (Int.tmod k (IntKind.wrap IntKind.i64 ((↑(List.length l) : Int) + (1 : Int)))) - Int.toNat (↑(0 : Nat) :
 Int)) fun i => relC (List.getD l (Int.toNat (↑(0 : Nat) : Int) + i) rel0)))] == (0 : Int))))), [])) else some (T.leaf (AV.c (C.d (D.v (Value.bool false))), []))) else (bif KX.ci Z
 [AV.agg (List.map C.d (staC s)), AV.c (C.d (D.sl ((53 : Nat)) (Int.toNat (Int.tmod k (IntKind.wrap IntKind.i64 ((↑(List.length l) : Int) + (1 : Int)))) - Int.toNat (↑(0 : Nat) :
 Int)) fun i => relC (List.getD l (Int.toNat (↑(0 : Nat) : Int) + i) rel0)))] == KX.ci Z [AV.agg (List.map C.d (staC s)), AV.c (C.d (listD ((53 : Nat)) relC rel0 l))] then some
 (T.leaf (AV.c (C.d (D.v (Value.bool (KX.ce Z [AV.agg (List.map C.d (staC s)), AV.c (C.d (D.sl ((53 : Nat)) (Int.toNat (Int.tmod k (IntKind.wrap IntKind.i64 ((↑(List.length l) : Int)
 + (1 : Int)))) - Int.toNat (↑(0 : Nat) : Int)) fun i => relC (List.getD l (Int.toNat (↑(0 : Nat) : Int) + i) rel0)))] == KX.ce Z [AV.agg (List.map C.d (staC s)), AV.c (C.d (listD
 ((53 : Nat)) relC rel0 l))])))), [])) else some (T.leaf (AV.c (C.d (D.v (Value.bool false))), []))))) else none) else none) else none)) else none))) else none) := by kernel_rfl
end Go.Proofs.YtngoglhlhlfknaaGreat.se
namespace Go.Proofs.YtngoglhlhlfknaaGreat.st
open Go.RowKit Go.Eb
set_option maxRecDepth 100000

/-! Large -/
def large (s : SSta) : Bool := decide (8 < s.buses.length) || (decide (10 < s.lines.length) || (decide (8 < s.srcs.length) || (decide (20 < s.bays.length) || s.bays.any fun b => decide (6 < b.links.length))))
theorem b7 : Tryz.f8.body = some (bodyOf Tryz.f8) := by kernel_rfl
theorem gtD (n k : Nat) : decide ((n : Int) > (k : Int)) = decide (k < n) := by
  by_cases h : k < n
  · rw [decide_eq_true h, decide_eq_true (by omega)]
  · rw [decide_eq_false h, decide_eq_false (by omega)]
theorem lp7 (s : SSta) (g : Nat) (hb : s.bays.length ≤ 9223372036854775807) : ∀ (m k : Nat), k ≤ s.bays.length → s.bays.length - k < m → L7 s g m k = lB ((s.bays.drop k).any fun b => decide (6 < b.links.length))
  | 0, k, _, h => by omega
  | m + 1, k, hk, h => by
    rw [st7]
    by_cases hlt : k < s.bays.length
    · have ih := lp7 s g hb m (k + 1) (by omega) (by omega)
      rw [drop_at' (d := bay0) hlt]
      have e6 : decide (((s.bays.getD k bay0).links.length : Int) > (6 : Int)) = decide (6 < (s.bays.getD k bay0).links.length) := gtD _ 6
      simp only [lt1 hlt, ge0, tn, tt, cond_true, nx hlt hb, ih, List.any_cons, e6]
      cases decide (6 < (s.bays.getD k bay0).links.length) <;> rfl
    · rw [lt0 hlt, List.drop_of_length_le (by omega)]
      rfl
theorem c7 (s : SSta) (hs : okSta s = true) : CX Tryz.prog 8 [aSta s] [] (vB (large s)) [] := by
  obtain ⟨a1, a2, a3, a4, a5⟩ := okSta_len hs
  obtain ⟨g, hg⟩ : ∃ g, s.bays.length < g := ⟨s.bays.length + 1, by omega⟩
  refine cx_of (Orc.nil_ok _) Tryz.func8 b7 rfl ((ev7 s g).trans ?_)
  have hl : L7 s g g 0 = lB (s.bays.any fun b => decide (6 < b.links.length)) := lp7 s g a4 g 0 (by omega) (by omega)
  have t8 : ∀ n : Nat, decide ((n : Int) > 8) = decide (8 < n) := fun n => gtD n 8
  have t10 : ∀ n : Nat, decide ((n : Int) > 10) = decide (10 < n) := fun n => gtD n 10
  have t20 : ∀ n : Nat, decide ((n : Int) > 20) = decide (20 < n) := fun n => gtD n 20
  rw [hl]
  simp only [t8, t10, t20]
  unfold large
  cases decide (8 < s.buses.length) <;> cases decide (10 < s.lines.length) <;> cases decide (8 < s.srcs.length) <;> cases decide (20 < s.bays.length) <;> rfl
end Go.Proofs.YtngoglhlhlfknaaGreat.st
namespace Go.Proofs.YtngoglhlhlfknaaGreat.st
open Go.RowKit Go.Eb
set_option maxRecDepth 100000

noncomputable def rsta (x : RSta) : SSta := ⟨x.1, theE busesD x.2.1, theE linesD x.2.2.1, theE srcsD x.2.2.2.1, theE baysD x.2.2.2.2.1⟩
noncomputable def okRS (x : RSta) : Bool := okE busesD x.2.1 && (okE linesD x.2.2.1 && (okE srcsD x.2.2.2.1 && okE baysD x.2.2.2.2.1))
def staR (s : SSta) : RSta := (s.name, busesD s.buses, linesD s.lines, srcsD s.srcs, baysD s.bays, ())
theorem okRS_staR (s : SSta) : okRS (staR s) = true := by
  unfold okRS staR
  rw [(the_list busC_inj s.buses).1, (the_list lineC_inj s.lines).1, (the_list srcC_inj s.srcs).1, (the_list bayC_inj s.bays).1]; rfl
theorem rsta_staR (s : SSta) : rsta (staR s) = s := by
  unfold rsta staR
  simp only [(the_list busC_inj s.buses).2, (the_list lineC_inj s.lines).2, (the_list srcC_inj s.srcs).2, (the_list bayC_inj s.bays).2]
theorem sta_le (x : RSta) (h : okRS x = true) : Ale (.agg (staD.enc x)) (aSta (rsta x)) := by
  unfold okRS at h
  simp only [Bool.and_eq_true] at h
  exact .cons (.refl _) (.cons (theE_de h.1) (.cons (theE_de h.2.1) (.cons (theE_de h.2.2.1) (.cons (theE_de h.2.2.2) .nil))))

noncomputable def ok24 (x : RSta) (b : RBay) : Bool := okRS x && okRB b
noncomputable def lk24 (x : RSta) (b : RBay) : Int := linksErr (rsta x).buses.length (rbay b)
theorem s24 : OrcS Tryz.prog (o24 (fun a => rngOk (rbay a)) okRB ok24 lk24) := by
  refine .cons (.inl .nil Tryz.func46 (by kernel_rfl)) (.cons (.d fun a ha => ?_) (.cons (.d fun a ha => ?_) .nil))
  · exact (c49 (rbay a.1.1)).ge (.cons (bay_le _ ha) .nil) (.refl _)
  · unfold ok24 at ha
    simp only [Bool.and_eq_true] at ha
    exact (c50 (rsta a.1.1) (rbay a.1.2.1) (okRB_len ha.2)).ge (.cons (sta_le _ ha.1) (.cons (bay_le _ ha.2) .nil)) (.refl _)

def bayRest (nb nl ns : Nat) (before : List SBay) (b : SBay) : Int := match cntOf nl ns b.kind with
    | none => 10
    | some c => bif !within b.off 0 (c - 1) then 9 else bif !rngOk b then 2 else bif before.any (clash b) then 12 else linksErr nb b
theorem bayErr_rest (nb nl ns : Nat) (N : List ByteArray) (before : List SBay) (b : SBay) : bayErr nb nl ns N before b = bif namErr N b.name != 0 then namErr N b.name else bayRest nb nl ns before b := by
  unfold bayErr bayErrD namErr bayRest
  cases nameOk b.name with
  | false => rfl
  | true => cases inB N b.name <;> rfl

section
variable (s : SSta) (i : Nat) (hi : i < s.bays.length)
abbrev bI (s : SSta) (i : Nat) : SBay := s.bays.getD i bay0
include hi
theorem lp24 (hb : s.bays.length ≤ 9223372036854775807) (hl : (bI s i).links.length ≤ 9223372036854775807) (g : Nat) : ∀ (m k : Nat), k ≤ i → i - k < m →
    L24_8 (fun a => rngOk (rbay a)) okRB ok24 lk24 s i g m k = bif ((s.bays.take i).drop k).any (clash (bI s i)) then lI 12 [] else lI (linksErr s.buses.length (bI s i)) []
  | 0, k, _, h => by omega
  | m + 1, k, hk, h => by
    rw [st24_8]
    have hok : ok24 (staR s) (bayR (bI s i)) = true := by
      unfold ok24
      have e1 : okRB (bayR (bI s i)) = true := okLk_links hl
      rw [okRS_staR, e1]; rfl
    have hlk : lk24 (staR s) (bayR (bI s i)) = linksErr s.buses.length (bI s i) := by unfold lk24; rw [rsta_staR, rbay_bayR]
    have haft : ∀ A B : RSta, ∀ C' D' : RBay, A = staR s → B = staR s → C' = bayR (bI s i) → D' = bayR (bI s i) → (bif ok24 A C' then some (T.leaf (vI (lk24 B D'), ([] : Hp))) else none) = lI (linksErr s.buses.length (bI s i)) [] := by
      intro A B C' D' hA hB hC hD
      subst hA hB hC hD
      rw [hok, hlk]; rfl
    by_cases hlt : k < i
    · have ih := lp24 hb hl g m (k + 1) (by omega) (by omega)
      have ht : k < (s.bays.take i).length := by simp; omega
      have hg : (s.bays.take i).getD k bay0 = s.bays.getD k bay0 := by simp [List.getD, hlt]
      rw [drop_at' (d := bay0) ht, hg]
      simp only [lt1 hlt, lt1 (show k < s.bays.length by omega), ge0, tn, Bool.and_self, cond_true, nx hlt (by omega), ih, List.any_cons]
      cases h3 : ((s.bays.getD i bay0).kind != 3) with
      | false =>
        have hn : ∀ l : List SBay, l.any (clash (bI s i)) = false := fun l => by
          rw [List.any_eq_false]
          intro y _
          unfold clash
          rw [h3]; simp
        have hc : clash (bI s i) (s.bays.getD k bay0) = false := by unfold clash; rw [h3]; rfl
        rw [hn, hc]
        simp only [cond_false, Bool.or_self]
        exact haft _ _ _ _ rfl rfl rfl rfl
      | true =>
        have hc : clash (bI s i) (s.bays.getD k bay0) = ((s.bays.getD k bay0).kind == (bI s i).kind && ((s.bays.getD k bay0).off == (bI s i).off && (s.bays.getD k bay0).fin == (bI s i).fin)) := by
          unfold clash
          rw [h3]
          simp only [Bool.true_and]
          rw [Bool.beq_comm (a := (bI s i).kind), Bool.beq_comm (a := (bI s i).off), Bool.beq_comm (a := (bI s i).fin)]
        rw [hc]
        simp only [cond_true]
        generalize ((s.bays.getD k bay0).kind == (s.bays.getD i bay0).kind) = b1
        generalize ((s.bays.getD k bay0).off == (s.bays.getD i bay0).off) = b2
        generalize ((s.bays.getD k bay0).fin == (s.bays.getD i bay0).fin) = b3
        cases b1 <;> cases b2 <;> cases b3 <;> rfl
    · obtain rfl : k = i := by omega
      rw [lt0 (Nat.lt_irrefl _), List.drop_of_length_le (by simp; omega)]
      simp only [cond_false, List.any_nil]
      exact haft _ _ _ _ rfl rfl rfl rfl

omit hi in
theorem wge (b : Int) (n : Nat) : (decide (b < 0) || decide (b ≥ (n : Int))) = !within b 0 ((n : Int) - 1) := bge b n
omit hi in
theorem w00 (b : Int) : (b != 0) = !within b 0 ((1 : Int) - 1) := by
  unfold within
  rw [Bool.eq_iff_iff]
  simp only [bne_iff_ne, ne_eq, Bool.not_eq_true', Bool.and_eq_false_iff, decide_eq_false_iff_not]
  omega
theorem c24 (hb : s.bays.length ≤ 9223372036854775807) (hl : (bI s i).links.length ≤ 9223372036854775807) : CX Tryz.prog 24 [aSta s, vI i] [] (vI (bayRest s.buses.length s.lines.length s.srcs.length (s.bays.take i) (bI s i))) [] := by
  obtain ⟨g, hg⟩ : ∃ g, i < g := ⟨i + 1, by omega⟩
  refine cx_of s24.ok Tryz.func24 b24 rfl ((ev24 (fun a => rngOk (rbay a)) okRB ok24 lk24 s i g).trans ?_)
  have hL : L24_8 (fun a => rngOk (rbay a)) okRB ok24 lk24 s i g g 0 = bif (s.bays.take i).any (clash (bI s i)) then lI 12 [] else lI (linksErr s.buses.length (bI s i)) [] := lp24 s i hi hb hl g g 0 (by omega) (by omega)
  have e1 : okRB (bayR (s.bays.getD i bay0)) = true := okLk_links hl
  have e2 : rngOk (rbay (bayR (s.bays.getD i bay0))) = rngOk (s.bays.getD i bay0) := by rw [rbay_bayR]
  unfold bayR at e1 e2
  rw [hL]
  simp only [lt1 hi, ge0, tn, Bool.and_self, cond_true, e1, e2, fOr, wge, w00]
  unfold bayRest cntOf
  cases ((s.bays.getD i bay0).kind == 1) with
  | true =>
    simp only [cond_true]
    cases within (s.bays.getD i bay0).off 0 ((s.lines.length : Int) - 1) <;> first | rfl | (cases rngOk (s.bays.getD i bay0) <;> first | rfl | (cases (s.bays.take i).any (clash (s.bays.getD i bay0)) <;> rfl))
  | false =>
    cases ((s.bays.getD i bay0).kind == 2) with
    | true =>
      simp only [cond_true, cond_false]
      cases within (s.bays.getD i bay0).off 0 ((s.srcs.length : Int) - 1) <;> first | rfl | (cases rngOk (s.bays.getD i bay0) <;> first | rfl | (cases (s.bays.take i).any (clash (s.bays.getD i bay0)) <;> rfl))
    | false =>
      cases ((s.bays.getD i bay0).kind == 3) with
      | true =>
        simp only [cond_true, cond_false]
        cases within (s.bays.getD i bay0).off 0 ((1 : Int) - 1) <;> first | rfl | (cases rngOk (s.bays.getD i bay0) <;> first | rfl | (cases (s.bays.take i).any (clash (s.bays.getD i bay0)) <;> rfl))
      | false => rfl
end
end Go.Proofs.YtngoglhlhlfknaaGreat.st
namespace Go.Proofs.YtngoglhlhlfknaaGreat.st
open Go.RowKit Go.Eb
set_option maxRecDepth 100000

noncomputable def Z8 : K8 where
  nk := nameOk
  okn a := okRS a.1 && (decide (0 ≤ a.2.1) && (decide (0 ≤ a.2.2.1) && (decide (0 ≤ a.2.2.2.1) && (decide (0 ≤ a.2.2.2.2.1) && (decide (a.2.1.toNat ≤ (rsta a.1).buses.length) && (decide (a.2.2.1.toNat ≤ (rsta a.1).lines.length) && (decide (a.2.2.2.1.toNat ≤ (rsta a.1).srcs.length) && (decide (a.2.2.2.2.1.toNat ≤ (rsta a.1).bays.length) &&
    (decide (a.2.1.toNat ≤ 900) && (decide (a.2.2.1.toNat ≤ 900) && (decide (a.2.2.2.1.toNat ≤ 900) && decide (a.2.2.2.2.1.toNat ≤ 900))))))))))))
  nm a := busesD (namesOf (rsta a.1) a.2.1.toNat a.2.2.1.toNat a.2.2.2.1.toNat a.2.2.2.2.1.toNat)
  okd x s := okDS x s
  nd x s := namErr (theE busesD x) s
  okb a n := okRS a && (decide (0 ≤ n) && (decide (n.toNat < (rsta a).bays.length) && (decide ((rsta a).bays.length ≤ 900) && lksOk (rsta a).bays)))
  be a n := bayRest (rsta a).buses.length (rsta a).lines.length (rsta a).srcs.length ((rsta a).bays.take n.toNat) ((rsta a).bays.getD n.toNat bay0)
theorem s8 : OrcS Tryz.prog (o8 Z8) := by
  refine .cons (.p decS_ok c16) (.cons (.d fun a ha => ?_) (.cons (.d fun a ha => ?_) (.cons (.inl sOh Tryz.func23 (by kernel_rfl)) (.cons (.d fun a ha => ?_) sOh))))
  · have ha' : (okRS a.1.1 && (decide (0 ≤ a.1.2.1) && (decide (0 ≤ a.1.2.2.1) && (decide (0 ≤ a.1.2.2.2.1) && (decide (0 ≤ a.1.2.2.2.2.1) && (decide (a.1.2.1.toNat ≤ (rsta a.1.1).buses.length) && (decide (a.1.2.2.1.toNat ≤ (rsta a.1.1).lines.length) && (decide (a.1.2.2.2.1.toNat ≤ (rsta a.1.1).srcs.length) && (decide (a.1.2.2.2.2.1.toNat ≤ (rsta a.1.1).bays.length) &&
      (decide (a.1.2.1.toNat ≤ 900) && (decide (a.1.2.2.1.toNat ≤ 900) && (decide (a.1.2.2.2.1.toNat ≤ 900) && decide (a.1.2.2.2.2.1.toNat ≤ 900))))))))))))) = true := ha
    simp only [Bool.and_eq_true, decide_eq_true_eq] at ha'
    obtain ⟨h0, p1, p2, p3, p4, q1, q2, q3, q4, r1, r2, r3, r4⟩ := ha'
    have hc := c21 (rsta a.1.1) a.1.2.1.toNat a.1.2.2.1.toNat a.1.2.2.2.1.toNat a.1.2.2.2.2.1.toNat q1 q2 q3 q4 r1 r2 r3 r4
    rw [Int.toNat_of_nonneg p1, Int.toNat_of_nonneg p2, Int.toNat_of_nonneg p3, Int.toNat_of_nonneg p4] at hc
    exact hc.ge (.cons (sta_le _ h0) (.refl _)) (.refl _)
  · have ha' : okDS a.1.1 a.1.2.1 = true := ha
    unfold okDS at ha'
    simp only [Bool.and_eq_true, decide_eq_true_eq] at ha'
    exact (c20 (theE busesD a.1.1) a.1.2.1 ha'.2).ge (.cons (theE_de ha'.1) (.refl _)) (.refl _)
  · have ha' : (okRS a.1.1 && (decide (0 ≤ a.1.2.1) && (decide (a.1.2.1.toNat < (rsta a.1.1).bays.length) && (decide ((rsta a.1.1).bays.length ≤ 900) && lksOk (rsta a.1.1).bays)))) = true := ha
    simp only [Bool.and_eq_true, decide_eq_true_eq] at ha'
    obtain ⟨h0, p1, p2, p3, p4⟩ := ha'
    have hc := c24 (rsta a.1.1) a.1.2.1.toNat p2 (by omega) (lksOk_get p4 _ p2)
    rw [Int.toNat_of_nonneg p1] at hc
    exact hc.ge (.cons (sta_le _ h0) (.refl _)) (.refl _)

theorem chk_loop {α : Type} {nm : α → ByteArray} {F : List ByteArray → List α → α → Int} {N : List ByteArray} {d0 : α} {l : List α} {L : Nat → Int → Option (T (AV × Hp))} {NX : Option (T (AV × Hp))}
    (hst : ∀ (m k : Nat), k < l.length → L (m + 1) k = bif F (N ++ (l.take k).map nm) (l.take k) (l.getD k d0) != 0 then lI (F (N ++ (l.take k).map nm) (l.take k) (l.getD k d0)) [] else L m ((k + 1 : Nat) : Int))
    (hend : ∀ m, L (m + 1) l.length = NX) : ∀ (m k : Nat), k ≤ l.length → l.length - k < m → L m k = bif (takeN nm F N (l.take k) (l.drop k)).1 != 0 then lI (takeN nm F N (l.take k) (l.drop k)).1 [] else NX
  | 0, k, _, h => by omega
  | m + 1, k, hk, h => by
    by_cases e : k = l.length
    · subst e
      rw [hend, List.drop_of_length_le (Nat.le_refl _)]
      rfl
    · have hlt : k < l.length := by omega
      have ih := chk_loop hst hend m (k + 1) (by omega) (by omega)
      have et : l.take (k + 1) = l.take k ++ [l.getD k d0] := by
        rw [List.take_succ_eq_append_getElem hlt]
        congr 2
        simp [List.getD, hlt]
      rw [hst m k hlt, ih, et, drop_at' (d := d0) hlt]
      simp only [takeN]
      cases hF : (F (N ++ (l.take k).map nm) (l.take k) (l.getD k d0) != 0) with
      | true => simp only [cond_true, hF]
      | false => simp only [cond_false]

section
variable (s : SSta) (h1 : s.buses.length ≤ 900) (h2 : s.lines.length ≤ 900) (h3 : s.srcs.length ≤ 900) (h4 : s.bays.length ≤ 900) (hlk : lksOk s.bays = true)
include h1 h2 h3 h4
theorem okn8 (a b c d : Nat) (q1 : a ≤ s.buses.length) (q2 : b ≤ s.lines.length) (q3 : c ≤ s.srcs.length) (q4 : d ≤ s.bays.length) : Z8.okn (staR s, (a : Int), (b : Int), (c : Int), (d : Int), ()) = true := by
  show (okRS (staR s) && (decide (0 ≤ (a : Int)) && (decide (0 ≤ (b : Int)) && (decide (0 ≤ (c : Int)) && (decide (0 ≤ (d : Int)) && (decide ((a : Int).toNat ≤ (rsta (staR s)).buses.length) && (decide ((b : Int).toNat ≤ (rsta (staR s)).lines.length) && (decide ((c : Int).toNat ≤ (rsta (staR s)).srcs.length) && (decide ((d : Int).toNat ≤ (rsta (staR s)).bays.length) &&
    (decide ((a : Int).toNat ≤ 900) && (decide ((b : Int).toNat ≤ 900) && (decide ((c : Int).toNat ≤ 900) && decide ((d : Int).toNat ≤ 900))))))))))))) = true
  rw [okRS_staR, rsta_staR, Bool.true_and]
  simp only [Bool.and_eq_true, decide_eq_true_eq, Int.toNat_natCast]
  omega
omit h1 h2 h3 h4 in
theorem nm8 (a b c d : Nat) : Z8.nm (staR s, (a : Int), (b : Int), (c : Int), (d : Int), ()) = busesD (namesOf s a b c d) := by
  show busesD (namesOf (rsta (staR s)) _ _ _ _) = _
  rw [rsta_staR]; rfl
theorem okd8 (a b c d : Nat) (q1 : a ≤ s.buses.length) (q2 : b ≤ s.lines.length) (q3 : c ≤ s.srcs.length) (q4 : d ≤ s.bays.length) (x : ByteArray) : Z8.okd (busesD (namesOf s a b c d)) x = true := by
  show okDS _ x = true
  unfold okDS
  rw [(the_list busC_inj _).1, (the_list busC_inj _).2]
  have : (namesOf s a b c d).length ≤ 9223372036854775807 := by unfold namesOf; simp; omega
  simp [this]
omit h1 h2 h3 h4 in
theorem nd8 (l : List ByteArray) (x : ByteArray) : Z8.nd (busesD l) x = namErr l x := by
  show namErr (theE busesD (busesD l)) x = _
  rw [(the_list busC_inj l).2]
include hlk
omit h1 h2 h3 in
theorem okb8 (k : Nat) (hk : k < s.bays.length) : Z8.okb (staR s) (k : Int) = true := by
  show (okRS (staR s) && (decide (0 ≤ (k : Int)) && (decide ((k : Int).toNat < (rsta (staR s)).bays.length) && (decide ((rsta (staR s)).bays.length ≤ 900) && lksOk (rsta (staR s)).bays)))) = true
  rw [okRS_staR, rsta_staR, hlk, Bool.true_and, Bool.and_true]
  simp only [Bool.and_eq_true, decide_eq_true_eq, Int.toNat_natCast]
  omega
omit h1 h2 h3 h4 hlk in
theorem be8 (k : Nat) : Z8.be (staR s) (k : Int) = bayRest s.buses.length s.lines.length s.srcs.length (s.bays.take k) (s.bays.getD k bay0) := by
  show bayRest (rsta (staR s)).buses.length _ _ _ _ = _
  rw [rsta_staR]; rfl

abbrev Nb (s : SSta) : List ByteArray := s.buses
abbrev Nl (s : SSta) : List ByteArray := s.buses ++ s.lines.map SLine.name
abbrev Ns (s : SSta) : List ByteArray := s.buses ++ s.lines.map SLine.name ++ s.srcs.map SSrc.name
theorem lp8_29 (g : Nat) (hg : 900 < g) : L8_29 Z8 s g g 0 = lI (tBay s.buses.length s.lines.length s.srcs.length (Ns s) s.bays).1 [] := by
  have := chk_loop (nm := SBay.name) (F := fun N before x => bayErr s.buses.length s.lines.length s.srcs.length N before x) (N := Ns s) (d0 := bay0) (l := s.bays) (L := fun m i => L8_29 Z8 s g m i) (NX := lI 0 [])
    (fun m k hk => by
      have e1 := okn8 s h1 h2 h3 h4 s.buses.length s.lines.length s.srcs.length k (by omega) (by omega) (by omega) (by omega)
      have e2 := nm8 s s.buses.length s.lines.length s.srcs.length k
      have e3 := okd8 s h1 h2 h3 h4 s.buses.length s.lines.length s.srcs.length k (by omega) (by omega) (by omega) (by omega) (s.bays.getD k bay0).name
      have e5 := okb8 s h4 hlk k hk
      have e6 := be8 s k
      have en : namesOf s s.buses.length s.lines.length s.srcs.length k = Ns s ++ (s.bays.take k).map SBay.name := by unfold namesOf; simp
      simp only [staR, busesD, linesD, srcsD, baysD, listD] at e1 e2 e5 e6
      simp only [busesD, listD] at e3
      rw [st8_29]
      simp only [lt1 hk, ge0, tn, Bool.and_self, cond_true, nx hk (by omega), e1, e2, e3, e5, e6]
      have e4 := nd8 (namesOf s s.buses.length s.lines.length s.srcs.length k) (s.bays.getD k bay0).name
      simp only [busesD, listD] at e4
      simp only [e4]
      simp only [en, bayErr_rest]
      generalize namErr (Ns s ++ (s.bays.take k).map SBay.name) (s.bays.getD k bay0).name = a
      generalize bayRest s.buses.length s.lines.length s.srcs.length (s.bays.take k) (s.bays.getD k bay0) = b
      unfold bne
      cases ha : (a == 0) <;> cases hb : (b == 0) <;> simp only [ha, hb, cond_true, cond_false, Bool.not_true, Bool.not_false])
    (fun m => by rw [st8_29, lt0 (Nat.lt_irrefl _)]; rfl) g 0 (by omega) (by omega)
  have e : L8_29 Z8 s g g 0 = _ := this
  rw [e]
  show (bif (tBay s.buses.length s.lines.length s.srcs.length (Ns s) s.bays).1 != 0 then lI (tBay s.buses.length s.lines.length s.srcs.length (Ns s) s.bays).1 [] else lI 0 []) = _
  unfold bne
  cases hz : ((tBay s.buses.length s.lines.length s.srcs.length (Ns s) s.bays).1 == 0) with
  | false => rfl
  | true =>
    have : (tBay s.buses.length s.lines.length s.srcs.length (Ns s) s.bays).1 = 0 := by simpa using hz
    rw [this]; rfl
end
end Go.Proofs.YtngoglhlhlfknaaGreat.st
