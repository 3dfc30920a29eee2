/-
  Check of settings, the reference: what its lists and the whole compute. No condition.
-/
import Derived.Test.YtngoglhlhlfknaaGreatZRw
import Derived.Test.YtngoglhlhlfknaaGreatZLd
import Derived.Test.YtngoglhlhlfknaaGreatSu
namespace Go.Proofs.YtngoglhlhlfknaaGreat.se
open Go.RowKit Go.Eb
set_option maxRecDepth 100000

set_option maxRecDepth 100000 in
theorem ev133_t (s : ByteArray) : callC Tryz.prog (Orc.cons 44 (inl Tryz.prog Orc.nil na 20 Tryz.f44) Orc.nil) na 20 Tryz.f133 (bodyOf Tryz.f133) [vS s] [] =
 (bif ByteArray.toList (ByteArray.mk #[(116 : UInt8), (114 : UInt8), (117 : UInt8), (101 : UInt8)]) == ByteArray.toList s then some (T.leaf (AV.c (C.d (D.v (Value.bool true))), []))
 else (bif ByteArray.toList (ByteArray.mk #[(102 : UInt8), (97 : UInt8), (108 : UInt8), (115 : UInt8), (101 : UInt8)]) == ByteArray.toList s then some (T.leaf (AV.c (C.d (D.v
 (Value.bool true))), [])) else (bif ByteArray.toList (ByteArray.mk #[(110 : UInt8), (111 : UInt8), (116 : UInt8)]) == ByteArray.toList s then some (T.leaf (AV.c (C.d (D.v
 (Value.bool true))), [])) else (bif ByteArray.toList (ByteArray.mk #[(97 : UInt8), (110 : UInt8), (100 : UInt8)]) == ByteArray.toList s then some (T.leaf (AV.c (C.d (D.v (Value.bool
 true))), [])) else (bif ByteArray.toList (ByteArray.mk #[(111 : UInt8), (114 : UInt8)]) == ByteArray.toList s then some (T.leaf (AV.c (C.d (D.v (Value.bool true))), [])) else (bif
 ByteArray.toList (ByteArray.mk #[(120 : UInt8), (111 : UInt8), (114 : UInt8)]) == ByteArray.toList s then some (T.leaf (AV.c (C.d (D.v (Value.bool true))), [])) else (bif
 ByteArray.toList (ByteArray.mk #[(109 : UInt8), (105 : UInt8), (110 : UInt8)]) == ByteArray.toList s then some (T.leaf (AV.c (C.d (D.v (Value.bool true))), [])) else (bif
 ByteArray.toList (ByteArray.mk #[(109 : UInt8), (97 : UInt8), (120 : UInt8)]) == ByteArray.toList s then some (T.leaf (AV.c (C.d (D.v (Value.bool true))), [])) else (bif
 ByteArray.toList (ByteArray.mk #[(97 : UInt8), (98 : UInt8), (115 : UInt8)]) == ByteArray.toList s then some (T.leaf (AV.c (C.d (D.v (Value.bool true))), [])) else (bif
 ByteArray.toList (ByteArray.mk #[(105 : UInt8), (102 : UInt8)]) == ByteArray.toList s then some (T.leaf (AV.c (C.d (D.v (Value.bool true))), [])) else (bif ByteArray.toList
 (ByteArray.mk #[(114 : UInt8), (105 : UInt8), (115 : UInt8), (101 : UInt8)]) == ByteArray.toList s then some (T.leaf (AV.c (C.d (D.v (Value.bool true))), [])) else (bif
 ByteArray.toList (ByteArray.mk #[(102 : UInt8), (97 : UInt8), (108 : UInt8), (108 : UInt8)]) == ByteArray.toList s then some (T.leaf (AV.c (C.d (D.v (Value.bool true))), [])) else
 (bif ByteArray.toList (ByteArray.mk #[(100 : UInt8), (101 : UInt8), (108 : UInt8), (97 : UInt8), (121 : UInt8)]) == ByteArray.toList s then some (T.leaf (AV.c (C.d (D.v (Value.bool
 true))), [])) else (bif ByteArray.toList (ByteArray.mk #[(104 : UInt8), (111 : UInt8), (108 : UInt8), (100 : UInt8)]) == ByteArray.toList s then some (T.leaf (AV.c (C.d (D.v
 (Value.bool true))), [])) else (bif ByteArray.toList (ByteArray.mk #[(108 : UInt8), (97 : UInt8), (116 : UInt8), (99 : UInt8), (104 : UInt8)]) == ByteArray.toList s then some
 (T.leaf (AV.c (C.d (D.v (Value.bool true))), [])) else (bif ByteArray.toList (ByteArray.mk #[(99 : UInt8), (111 : UInt8), (117 : UInt8), (110 : UInt8), (116 : UInt8)]) ==
 ByteArray.toList s then some (T.leaf (AV.c (C.d (D.v (Value.bool true))), [])) else some (T.leaf (AV.c (C.d (D.v (Value.bool false))), [])))))))))))))))))) := by kernel_rfl
noncomputable def ev133_v (s : ByteArray) : Bool :=
 (bif ByteArray.toList (ByteArray.mk #[(116 : UInt8), (114 : UInt8), (117 : UInt8), (101 : UInt8)]) == ByteArray.toList s then (true) else (bif ByteArray.toList (ByteArray.mk #[(102
 : UInt8), (97 : UInt8), (108 : UInt8), (115 : UInt8), (101 : UInt8)]) == ByteArray.toList s then (true) else (bif ByteArray.toList (ByteArray.mk #[(110 : UInt8), (111 : UInt8), (116
 : UInt8)]) == ByteArray.toList s then (true) else (bif ByteArray.toList (ByteArray.mk #[(97 : UInt8), (110 : UInt8), (100 : UInt8)]) == ByteArray.toList s then (true) else (bif
 ByteArray.toList (ByteArray.mk #[(111 : UInt8), (114 : UInt8)]) == ByteArray.toList s then (true) else (bif ByteArray.toList (ByteArray.mk #[(120 : UInt8), (111 : UInt8), (114 :
 UInt8)]) == ByteArray.toList s then (true) else (bif ByteArray.toList (ByteArray.mk #[(109 : UInt8), (105 : UInt8), (110 : UInt8)]) == ByteArray.toList s then (true) else (bif
 ByteArray.toList (ByteArray.mk #[(109 : UInt8), (97 : UInt8), (120 : UInt8)]) == ByteArray.toList s then (true) else (bif ByteArray.toList (ByteArray.mk #[(97 : UInt8), (98 :
 UInt8), (115 : UInt8)]) == ByteArray.toList s then (true) else (bif ByteArray.toList (ByteArray.mk #[(105 : UInt8), (102 : UInt8)]) == ByteArray.toList s then (true) else (bif
 ByteArray.toList (ByteArray.mk #[(114 : UInt8), (105 : UInt8), (115 : UInt8), (101 : UInt8)]) == ByteArray.toList s then (true) else (bif ByteArray.toList (ByteArray.mk #[(102 :
 UInt8), (97 : UInt8), (108 : UInt8), (108 : UInt8)]) == ByteArray.toList s then (true) else (bif ByteArray.toList (ByteArray.mk #[(100 : UInt8), (101 : UInt8), (108 : UInt8), (97 :
 UInt8), (121 : UInt8)]) == ByteArray.toList s then (true) else (bif ByteArray.toList (ByteArray.mk #[(104 : UInt8), (111 : UInt8), (108 : UInt8), (100 : UInt8)]) == ByteArray.toList
 s then (true) else (bif ByteArray.toList (ByteArray.mk #[(108 : UInt8), (97 : UInt8), (116 : UInt8), (99 : UInt8), (104 : UInt8)]) == ByteArray.toList s then (true) else (bif
 ByteArray.toList (ByteArray.mk #[(99 : UInt8), (111 : UInt8), (117 : UInt8), (110 : UInt8), (116 : UInt8)]) == ByteArray.toList s then (true) else (false)))))))))))))))))
set_option maxRecDepth 100000 in
theorem ev133 (s : ByteArray) : callC Tryz.prog (Orc.cons 44 (inl Tryz.prog Orc.nil na 20 Tryz.f44) Orc.nil) na 20 Tryz.f133 (bodyOf Tryz.f133) [vS s] [] = some (.leaf (vB (ev133_v s), [])) := by
  rw [ev133_t]
  unfold ev133_v
  simp only [bLeaf]
noncomputable def ann91 : Ann := annOf [(4, ⟨[1, 3], []⟩)]
noncomputable def L91_4 (r : SRel) (g m : Nat) (i3 : Int) := LK Tryz.prog Orc.nil ann91 (List.length (α := Nat × Blk) []) g Tryz.f91 4 m ⟨frm [(1, AV.c (C.ptr 0 0)), (3, AV.c (C.d (D.v (Value.int IntKind.i64 i3))))] 0 Tryz.f91.ntmps, [(0, Blk.cells (List.map C.d (relC r)) 57)], 1⟩
theorem b91 : Tryz.f91.body = some (bodyOf Tryz.f91) := by kernel_rfl
set_option maxRecDepth 100000 in
theorem ev91 (r : SRel) (g : Nat) : callC Tryz.prog Orc.nil ann91 g Tryz.f91 (bodyOf Tryz.f91) [aRel r] [] =
 (bif decide ((↑(List.length (SRel.rules r)) : Int) > (16 : Int)) then some (T.leaf (AV.c (C.d (D.v (Value.bool true))), [])) else (bif decide ((↑(List.length (SRel.sets r)) : Int) >
 (4 : Int)) then some (T.leaf (AV.c (C.d (D.v (Value.bool true))), [])) else (bif decide ((↑(List.length (SRel.pubs r)) : Int) > (4 : Int)) then some (T.leaf (AV.c (C.d (D.v
 (Value.bool true))), [])) else (bif decide ((↑(List.length (SRel.subs r)) : Int) > (24 : Int)) then some (T.leaf (AV.c (C.d (D.v (Value.bool true))), [])) else L91_4 r g g ((0 :
 Int)))))) := by kernel_rfl
set_option maxRecDepth 100000 in
theorem st91_4 (r : SRel) (g m : Nat) (i3 : Int) : L91_4 r g (m + 1) i3 =
 (bif decide (i3 < (↑(List.length (SRel.sets r)) : Int)) then (bif decide ((0 : Int) ≤ i3) && decide (i3 < (↑(List.length (SRel.sets r)) : Int)) then (bif decide ((↑(List.length
 (SSet.sigs (List.getD (SRel.sets r) (Int.toNat i3) set0))) : Int) < (1 : Int)) then some (T.leaf (AV.c (C.d (D.v (Value.bool true))), [])) else (bif decide ((0 : Int) ≤ i3) &&
 decide (i3 < (↑(List.length (SRel.sets r)) : Int)) then (bif decide ((↑(List.length (SSet.sigs (List.getD (SRel.sets r) (Int.toNat i3) set0))) : Int) > (24 : Int)) then some (T.leaf
 (AV.c (C.d (D.v (Value.bool true))), [])) else L91_4 r g m (IntKind.wrap IntKind.i64 (i3 + (1 : Int)))) else none)) else none) else some (T.leaf (AV.c (C.d (D.v (Value.bool
 false))), []))) := by kernel_rfl
noncomputable def ann87 : Ann := annOf [(16, ⟨[5, 1, 8], []⟩)]
noncomputable def L87_16 (s : SSta) (b : List SRel) (r : SRel) (g m : Nat) (i8 : Int) := LK Tryz.prog Orc.nil ann87 (List.length (α := Nat × Blk) []) g Tryz.f87 16 m ⟨frm [(1, AV.c (C.d (listD 53 relC rel0 b))), (5, AV.c (C.ptr 0 0)), (8, AV.c (C.d (D.v (Value.int IntKind.i64 i8))))] 0 Tryz.f87.ntmps, [(0, Blk.cells (List.map C.d (relC r)) 57)], 1⟩
theorem b87 : Tryz.f87.body = some (bodyOf Tryz.f87) := by kernel_rfl
set_option maxRecDepth 100000 in
theorem ev87 (s : SSta) (b : List SRel) (r : SRel) (g : Nat) : callC Tryz.prog Orc.nil ann87 g Tryz.f87 (bodyOf Tryz.f87) [aSta s, .c (.d (relsD b)), aRel r] [] =
 (bif SRel.kind r == (1 : Int) then (bif decide (SRel.bay r < (0 : Int)) then some (T.leaf (AV.c (C.d (D.v (Value.int IntKind.i64 (9 : Int)))), [])) else (bif decide (SRel.bay r ≥
 (↑(List.length (SSta.bays s)) : Int)) then some (T.leaf (AV.c (C.d (D.v (Value.int IntKind.i64 (9 : Int)))), [])) else (bif decide ((0 : Int) ≤ SRel.bay r) && decide (SRel.bay r <
 (↑(List.length (SSta.bays s)) : Int)) then (bif SBay.kind (List.getD (SSta.bays s) (Int.toNat (SRel.bay r)) bay0) != (1 : Int) then some (T.leaf (AV.c (C.d (D.v (Value.int
 IntKind.i64 (9 : Int)))), [])) else L87_16 s b r g g ((0 : Int))) else none))) else (bif SRel.kind r == (2 : Int) then (bif decide (SRel.bay r < (0 : Int)) then some (T.leaf (AV.c
 (C.d (D.v (Value.int IntKind.i64 (9 : Int)))), [])) else (bif decide (SRel.bay r ≥ (↑(List.length (SSta.bays s)) : Int)) then some (T.leaf (AV.c (C.d (D.v (Value.int IntKind.i64 (9
 : Int)))), [])) else (bif decide ((0 : Int) ≤ SRel.bay r) && decide (SRel.bay r < (↑(List.length (SSta.bays s)) : Int)) then (bif SBay.kind (List.getD (SSta.bays s) (Int.toNat
 (SRel.bay r)) bay0) != (2 : Int) then some (T.leaf (AV.c (C.d (D.v (Value.int IntKind.i64 (9 : Int)))), [])) else L87_16 s b r g g ((0 : Int))) else none))) else (bif SRel.kind r ==
 (3 : Int) then (bif decide (SRel.bay r < (0 : Int)) then some (T.leaf (AV.c (C.d (D.v (Value.int IntKind.i64 (9 : Int)))), [])) else (bif decide (SRel.bay r ≥ (↑(List.length
 (SSta.bays s)) : Int)) then some (T.leaf (AV.c (C.d (D.v (Value.int IntKind.i64 (9 : Int)))), [])) else (bif decide ((0 : Int) ≤ SRel.bay r) && decide (SRel.bay r < (↑(List.length
 (SSta.bays s)) : Int)) then (bif SBay.kind (List.getD (SSta.bays s) (Int.toNat (SRel.bay r)) bay0) != (3 : Int) then some (T.leaf (AV.c (C.d (D.v (Value.int IntKind.i64 (9 :
 Int)))), [])) else L87_16 s b r g g ((0 : Int))) else none))) else (bif SRel.kind r == (4 : Int) then (bif SRel.bay r != (-1 : Int) then some (T.leaf (AV.c (C.d (D.v (Value.int
 IntKind.i64 (9 : Int)))), [])) else L87_16 s b r g g ((0 : Int))) else some (T.leaf (AV.c (C.d (D.v (Value.int IntKind.i64 (10 : Int)))), [])))))) := by kernel_rfl
set_option maxRecDepth 100000 in
theorem st87_16 (s : SSta) (b : List SRel) (r : SRel) (g m : Nat) (i8 : Int) : L87_16 s b r g (m + 1) i8 =
 (bif decide (i8 < (↑(List.length b) : Int)) then (bif decide ((0 : Int) ≤ i8) && decide (i8 < (↑(List.length b) : Int)) then (bif SRel.bay (List.getD b (Int.toNat i8) rel0) ==
 SRel.bay r then some (T.leaf (AV.c (C.d (D.v (Value.int IntKind.i64 (12 : Int)))), [])) else L87_16 s b r g m (IntKind.wrap IntKind.i64 (i8 + (1 : Int)))) else none) else some
 (T.leaf (AV.c (C.d (D.v (Value.int IntKind.i64 (0 : Int)))), []))) := by kernel_rfl
noncomputable def oIx (oki : List AV → Bool) (ix : List AV → Int) (r : Orc) : Orc := Orc.cons 44 (ansL oki fun x => vI (ix x)) r
noncomputable def o92 (nk rv : ByteArray → Bool) (oki : List AV → Bool) (ix : List AV → Int) : Orc := oIx oki ix (Orc.cons 19 (ansP decS fun s => vB (nk s)) (Orc.cons 133 (ansP decS fun s => vB (rv s)) Orc.nil))
noncomputable def ann92 : Ann := annOf [(3, ⟨[1, 4, 3], [(3, 0, 1, 9)]⟩), (13, ⟨[5, 1, 4, 3, 6], []⟩)]
noncomputable def L92_3 (nk rv : ByteArray → Bool) (oki : List AV → Bool) (ix : List AV → Int) (r : SRel) (g m : Nat) (n1 : Nat) (f1 : Nat → List D) (i4 : Int) := LK Tryz.prog (o92 nk rv oki ix) ann92 (List.length (α := Nat × Blk) []) g Tryz.f92 3 m ⟨frm [(1, AV.c (C.ptr 0 0)), (3, AV.c (C.row 1 1 n1)), (4, AV.c (C.d (D.v (Value.int IntKind.i64 i4))))] 0 Tryz.f92.ntmps, [(0, Blk.cells (List.map C.d (relC r)) 57), (1, Blk.row n1 f1 1 9)], 2⟩
noncomputable def L92_13 (nk rv : ByteArray → Bool) (oki : List AV → Bool) (ix : List AV → Int) (r : SRel) (g mo m : Nat) (n1 : Nat) (f1 : Nat → List D) (i4 : Int) (i6 : Int) := LK2 Tryz.prog (o92 nk rv oki ix) ann92 (List.length (α := Nat × Blk) []) g Tryz.f92 3 mo 13 m ⟨frm [(1, AV.c (C.ptr 0 0)), (3, AV.c (C.row 1 1 n1)), (4, AV.c (C.d (D.v (Value.int IntKind.i64 i4)))), (5, AV.c (C.ptr 2 0)), (6, AV.c (C.d (D.v (Value.int IntKind.i64 i6))))] 0 Tryz.f92.ntmps, [(0, Blk.cells (List.map C.d (relC r)) 57), (1, Blk.row n1 f1 1 9), (2, Blk.cells (List.map C.d (ruleC (List.getD (SRel.rules r) (Int.toNat i4) rule0))) 100)], 3⟩
theorem b92 : Tryz.f92.body = some (bodyOf Tryz.f92) := by kernel_rfl
set_option maxRecDepth 100000 in
theorem ev92 (nk rv : ByteArray → Bool) (oki : List AV → Bool) (ix : List AV → Int) (r : SRel) (g : Nat) : callC Tryz.prog (o92 nk rv oki ix) ann92 g Tryz.f92 (bodyOf Tryz.f92) [aRel r] [] =
 L92_3 nk rv oki ix r g g (0 : Nat) (fun x => []) ((0 : Int)) := by kernel_rfl
set_option maxRecDepth 100000 in
theorem st92_3 (nk rv : ByteArray → Bool) (oki : List AV → Bool) (ix : List AV → Int) (r : SRel) (g m : Nat) (n1 : Nat) (f1 : Nat → List D) (i4 : Int) : L92_3 nk rv oki ix r g (m + 1) n1 f1 i4 =
 (bif decide (i4 < (↑(List.length (SRel.rules r)) : Int)) then (bif decide ((0 : Int) ≤ i4) && decide (i4 < (↑(List.length (SRel.rules r)) : Int)) then (bif !nk (SRule.name
 (List.getD (SRel.rules r) (Int.toNat i4) rule0)) then some (T.leaf (AV.c (C.d (D.v (Value.int IntKind.i64 (7 : Int)))), [])) else (bif rv (SRule.name (List.getD (SRel.rules r)
 (Int.toNat i4) rule0)) then some (T.leaf (AV.c (C.d (D.v (Value.int IntKind.i64 (7 : Int)))), [])) else (bif oki [AV.c (C.d (D.sl ((1 : Nat)) n1 f1)), AV.c (C.d (D.v (Value.string
 (SRule.name (List.getD (SRel.rules r) (Int.toNat i4) rule0)))))] then (bif decide (ix [AV.c (C.d (D.sl ((1 : Nat)) n1 f1)), AV.c (C.d (D.v (Value.string (SRule.name (List.getD
 (SRel.rules r) (Int.toNat i4) rule0)))))] ≥ (0 : Int)) then some (T.leaf (AV.c (C.d (D.v (Value.int IntKind.i64 (8 : Int)))), [])) else (bif decide ((↑(ByteArray.size (SRule.text
 (List.getD (SRel.rules r) (Int.toNat i4) rule0))) : Int) > (120 : Int)) then some (T.leaf (AV.c (C.d (D.v (Value.int IntKind.i64 (4 : Int)))), [])) else L92_13 nk rv oki ix r g m g
 n1 f1 i4 ((0 : Int)))) else none))) else none) else some (T.leaf (AV.c (C.d (D.v (Value.int IntKind.i64 (0 : Int)))), []))) := by kernel_rfl
set_option maxRecDepth 100000 in
theorem st92_13 (nk rv : ByteArray → Bool) (oki : List AV → Bool) (ix : List AV → Int) (r : SRel) (g mo m : Nat) (n1 : Nat) (f1 : Nat → List D) (i4 : Int) (i6 : Int) : L92_13 nk rv oki ix r g mo (m + 1) n1 f1 i4 i6 =
 (bif decide (i6 < (↑(ByteArray.size (SRule.text (List.getD (SRel.rules r) (Int.toNat i4) rule0))) : Int)) then (bif decide ((0 : Int) ≤ i6) && decide (i6 < (↑(ByteArray.size
 (SRule.text (List.getD (SRel.rules r) (Int.toNat i4) rule0))) : Int)) then (bif decide ((↑(UInt8.toNat (List.getD (Array.toList (ByteArray.data (SRule.text (List.getD (SRel.rules r)
 (Int.toNat i4) rule0)))) (Int.toNat i6) (0 : UInt8))) : Int) < (32 : Int)) then some (T.leaf (AV.c (C.d (D.v (Value.int IntKind.i64 (5 : Int)))), [])) else (bif decide ((0 : Int) ≤
 i6) && decide (i6 < (↑(ByteArray.size (SRule.text (List.getD (SRel.rules r) (Int.toNat i4) rule0))) : Int)) then (bif decide ((↑(UInt8.toNat (List.getD (Array.toList (ByteArray.data
 (SRule.text (List.getD (SRel.rules r) (Int.toNat i4) rule0)))) (Int.toNat i6) (0 : UInt8))) : Int) > (126 : Int)) then some (T.leaf (AV.c (C.d (D.v (Value.int IntKind.i64 (5 :
 Int)))), [])) else (bif decide ((0 : Int) ≤ i6) && decide (i6 < (↑(ByteArray.size (SRule.text (List.getD (SRel.rules r) (Int.toNat i4) rule0))) : Int)) then (bif (↑(UInt8.toNat
 (List.getD (Array.toList (ByteArray.data (SRule.text (List.getD (SRel.rules r) (Int.toNat i4) rule0)))) (Int.toNat i6) (0 : UInt8))) : Int) == (34 : Int) then some (T.leaf (AV.c
 (C.d (D.v (Value.int IntKind.i64 (5 : Int)))), [])) else L92_13 nk rv oki ix r g mo m n1 f1 i4 (IntKind.wrap IntKind.i64 (i6 + (1 : Int)))) else none)) else none)) else none) else
 (bif decide ((n1 + (1 : Nat)) * (16 : Nat) ≤ (140737488355328 : Nat)) && decide (n1 + (1 : Nat) ≤ (9223372036854775807 : Nat)) then L92_3 nk rv oki ix r g mo (n1 + (1 : Nat)) (appF
 n1 f1 (chunk [dS (SRule.name (List.getD (SRel.rules r) (Int.toNat i4) rule0))] ((0 : Nat) + (1 : Nat)))) (IntKind.wrap IntKind.i64 (i4 + (1 : Int))) else none)) := by kernel_rfl
noncomputable def o93 (nk : ByteArray → Bool) (oki : List AV → Bool) (ix : List AV → Int) : Orc := oIx oki ix (Orc.cons 19 (ansP decS fun s => vB (nk s)) (Orc.cons 131 (ansP dec3 fun a => vB (within a.1 a.2.1 a.2.2)) Orc.nil))
noncomputable def ann93 : Ann := annOf [(3, ⟨[1, 4, 3], [(3, 0, 1, 9)]⟩), (9, ⟨[5, 1, 4, 3, 6], []⟩), (18, ⟨[1, 7, 3], [(3, 0, 1, 9)]⟩), (30, ⟨[1, 9, 3], [(3, 0, 1, 9)]⟩)]
noncomputable def L93_3 (nk : ByteArray → Bool) (oki : List AV → Bool) (ix : List AV → Int) (r : SRel) (g m : Nat) (n1 : Nat) (f1 : Nat → List D) (i4 : Int) := LK Tryz.prog (o93 nk oki ix) ann93 (List.length (α := Nat × Blk) []) g Tryz.f93 3 m ⟨frm [(1, AV.c (C.ptr 0 0)), (3, AV.c (C.row 1 1 n1)), (4, AV.c (C.d (D.v (Value.int IntKind.i64 i4))))] 0 Tryz.f93.ntmps, [(0, Blk.cells (List.map C.d (relC r)) 57), (1, Blk.row n1 f1 1 9)], 2⟩
noncomputable def L93_9 (nk : ByteArray → Bool) (oki : List AV → Bool) (ix : List AV → Int) (r : SRel) (g mo m : Nat) (n1 : Nat) (f1 : Nat → List D) (i4 : Int) (i6 : Int) := LK2 Tryz.prog (o93 nk oki ix) ann93 (List.length (α := Nat × Blk) []) g Tryz.f93 3 mo 9 m ⟨frm [(1, AV.c (C.ptr 0 0)), (3, AV.c (C.row 1 1 n1)), (4, AV.c (C.d (D.v (Value.int IntKind.i64 i4)))), (5, AV.c (C.ptr 2 0)), (6, AV.c (C.d (D.v (Value.int IntKind.i64 i6))))] 0 Tryz.f93.ntmps, [(0, Blk.cells (List.map C.d (relC r)) 57), (1, Blk.row n1 f1 1 9), (2, Blk.cells (List.map C.d (setC (List.getD (SRel.sets r) (Int.toNat i4) set0))) 95)], 3⟩
noncomputable def L93_18 (nk : ByteArray → Bool) (oki : List AV → Bool) (ix : List AV → Int) (r : SRel) (g m : Nat) (n1 : Nat) (f1 : Nat → List D) (i7 : Int) := LK Tryz.prog (o93 nk oki ix) ann93 (List.length (α := Nat × Blk) []) g Tryz.f93 18 m ⟨frm [(1, AV.c (C.ptr 0 0)), (3, AV.c (C.row 1 1 n1)), (7, AV.c (C.d (D.v (Value.int IntKind.i64 i7))))] 0 Tryz.f93.ntmps, [(0, Blk.cells (List.map C.d (relC r)) 57), (1, Blk.row n1 f1 1 9)], 2⟩
noncomputable def L93_30 (nk : ByteArray → Bool) (oki : List AV → Bool) (ix : List AV → Int) (r : SRel) (g m : Nat) (n1 : Nat) (f1 : Nat → List D) (i9 : Int) := LK Tryz.prog (o93 nk oki ix) ann93 (List.length (α := Nat × Blk) []) g Tryz.f93 30 m ⟨frm [(1, AV.c (C.ptr 0 0)), (3, AV.c (C.row 1 1 n1)), (9, AV.c (C.d (D.v (Value.int IntKind.i64 i9))))] 0 Tryz.f93.ntmps, [(0, Blk.cells (List.map C.d (relC r)) 57), (1, Blk.row n1 f1 1 9)], 2⟩
theorem b93 : Tryz.f93.body = some (bodyOf Tryz.f93) := by kernel_rfl
set_option maxRecDepth 100000 in
theorem ev93 (nk : ByteArray → Bool) (oki : List AV → Bool) (ix : List AV → Int) (r : SRel) (g : Nat) : callC Tryz.prog (o93 nk oki ix) ann93 g Tryz.f93 (bodyOf Tryz.f93) [aRel r] [] =
 L93_3 nk oki ix r g g (0 : Nat) (fun x => []) ((0 : Int)) := by kernel_rfl
set_option maxRecDepth 100000 in
theorem st93_3 (nk : ByteArray → Bool) (oki : List AV → Bool) (ix : List AV → Int) (r : SRel) (g m : Nat) (n1 : Nat) (f1 : Nat → List D) (i4 : Int) : L93_3 nk oki ix r g (m + 1) n1 f1 i4 =
 (bif decide (i4 < (↑(List.length (SRel.sets r)) : Int)) then (bif decide ((0 : Int) ≤ i4) && decide (i4 < (↑(List.length (SRel.sets r)) : Int)) then (bif !nk (SSet.name (List.getD
 (SRel.sets r) (Int.toNat i4) set0)) then some (T.leaf (AV.c (C.d (D.v (Value.int IntKind.i64 (7 : Int)))), [])) else L93_9 nk oki ix r g m g n1 f1 i4 ((0 : Int))) else none) else
 L93_18 nk oki ix r g g (0 : Nat) (fun x => []) ((0 : Int))) := by kernel_rfl
set_option maxRecDepth 100000 in
theorem st93_9 (nk : ByteArray → Bool) (oki : List AV → Bool) (ix : List AV → Int) (r : SRel) (g mo m : Nat) (n1 : Nat) (f1 : Nat → List D) (i4 : Int) (i6 : Int) : L93_9 nk oki ix r g mo (m + 1) n1 f1 i4 i6 =
 (bif decide (i6 < (↑(List.length (SSet.sigs (List.getD (SRel.sets r) (Int.toNat i4) set0))) : Int)) then (bif decide ((0 : Int) ≤ i6) && decide (i6 < (↑(List.length (SSet.sigs
 (List.getD (SRel.sets r) (Int.toNat i4) set0))) : Int)) then (bif !nk (List.getD (SSet.sigs (List.getD (SRel.sets r) (Int.toNat i4) set0)) (Int.toNat i6) e0) then some (T.leaf (AV.c
 (C.d (D.v (Value.int IntKind.i64 (7 : Int)))), [])) else L93_9 nk oki ix r g mo m n1 f1 i4 (IntKind.wrap IntKind.i64 (i6 + (1 : Int)))) else none) else (bif oki [AV.c (C.d (D.sl ((1
 : Nat)) n1 f1)), AV.c (C.d (D.v (Value.string (SSet.name (List.getD (SRel.sets r) (Int.toNat i4) set0)))))] then (bif decide (ix [AV.c (C.d (D.sl ((1 : Nat)) n1 f1)), AV.c (C.d (D.v
 (Value.string (SSet.name (List.getD (SRel.sets r) (Int.toNat i4) set0)))))] ≥ (0 : Int)) then some (T.leaf (AV.c (C.d (D.v (Value.int IntKind.i64 (8 : Int)))), [])) else (bif decide
 ((n1 + (1 : Nat)) * (16 : Nat) ≤ (140737488355328 : Nat)) && decide (n1 + (1 : Nat) ≤ (9223372036854775807 : Nat)) then L93_3 nk oki ix r g mo (n1 + (1 : Nat)) (appF n1 f1 (chunk
 [dS (SSet.name (List.getD (SRel.sets r) (Int.toNat i4) set0))] ((0 : Nat) + (1 : Nat)))) (IntKind.wrap IntKind.i64 (i4 + (1 : Int))) else none)) else none)) := by kernel_rfl
set_option maxRecDepth 100000 in
theorem st93_18 (nk : ByteArray → Bool) (oki : List AV → Bool) (ix : List AV → Int) (r : SRel) (g m : Nat) (n1 : Nat) (f1 : Nat → List D) (i7 : Int) : L93_18 nk oki ix r g (m + 1) n1 f1 i7 =
 (bif decide (i7 < (↑(List.length (SRel.pubs r)) : Int)) then (bif decide ((0 : Int) ≤ i7) && decide (i7 < (↑(List.length (SRel.pubs r)) : Int)) then (bif !nk (SPub.set (List.getD
 (SRel.pubs r) (Int.toNat i7) pub0)) then some (T.leaf (AV.c (C.d (D.v (Value.int IntKind.i64 (7 : Int)))), [])) else (bif oki [AV.c (C.d (D.sl ((1 : Nat)) n1 f1)), AV.c (C.d (D.v
 (Value.string (SPub.set (List.getD (SRel.pubs r) (Int.toNat i7) pub0)))))] then (bif decide (ix [AV.c (C.d (D.sl ((1 : Nat)) n1 f1)), AV.c (C.d (D.v (Value.string (SPub.set
 (List.getD (SRel.pubs r) (Int.toNat i7) pub0)))))] ≥ (0 : Int)) then some (T.leaf (AV.c (C.d (D.v (Value.int IntKind.i64 (8 : Int)))), [])) else (bif !within (SPub.fst (List.getD
 (SRel.pubs r) (Int.toNat i7) pub0)) (1 : Int) (100 : Int) then some (T.leaf (AV.c (C.d (D.v (Value.int IntKind.i64 (2 : Int)))), [])) else (bif !within (SPub.max (List.getD
 (SRel.pubs r) (Int.toNat i7) pub0)) (SPub.fst (List.getD (SRel.pubs r) (Int.toNat i7) pub0)) (1000 : Int) then some (T.leaf (AV.c (C.d (D.v (Value.int IntKind.i64 (2 : Int)))), []))
 else (bif decide ((n1 + (1 : Nat)) * (16 : Nat) ≤ (140737488355328 : Nat)) && decide (n1 + (1 : Nat) ≤ (9223372036854775807 : Nat)) then L93_18 nk oki ix r g m (n1 + (1 : Nat))
 (appF n1 f1 (chunk [dS (SPub.set (List.getD (SRel.pubs r) (Int.toNat i7) pub0))] ((0 : Nat) + (1 : Nat)))) (IntKind.wrap IntKind.i64 (i7 + (1 : Int))) else none)))) else none)) else
 none) else L93_30 nk oki ix r g g (0 : Nat) (fun x => []) ((0 : Int))) := by kernel_rfl
set_option maxRecDepth 100000 in
theorem st93_30 (nk : ByteArray → Bool) (oki : List AV → Bool) (ix : List AV → Int) (r : SRel) (g m : Nat) (n1 : Nat) (f1 : Nat → List D) (i9 : Int) : L93_30 nk oki ix r g (m + 1) n1 f1 i9 =
 (bif decide (i9 < (↑(List.length (SRel.subs r)) : Int)) then (bif decide ((0 : Int) ≤ i9) && decide (i9 < (↑(List.length (SRel.subs r)) : Int)) then (bif !nk (SSub.loc (List.getD
 (SRel.subs r) (Int.toNat i9) sub0)) then some (T.leaf (AV.c (C.d (D.v (Value.int IntKind.i64 (7 : Int)))), [])) else (bif !nk (SSub.dev (List.getD (SRel.subs r) (Int.toNat i9)
 sub0)) then some (T.leaf (AV.c (C.d (D.v (Value.int IntKind.i64 (7 : Int)))), [])) else (bif !nk (SSub.set (List.getD (SRel.subs r) (Int.toNat i9) sub0)) then some (T.leaf (AV.c
 (C.d (D.v (Value.int IntKind.i64 (7 : Int)))), [])) else (bif !nk (SSub.sig (List.getD (SRel.subs r) (Int.toNat i9) sub0)) then some (T.leaf (AV.c (C.d (D.v (Value.int IntKind.i64
 (7 : Int)))), [])) else (bif oki [AV.c (C.d (D.sl ((1 : Nat)) n1 f1)), AV.c (C.d (D.v (Value.string (SSub.loc (List.getD (SRel.subs r) (Int.toNat i9) sub0)))))] then (bif decide (ix
 [AV.c (C.d (D.sl ((1 : Nat)) n1 f1)), AV.c (C.d (D.v (Value.string (SSub.loc (List.getD (SRel.subs r) (Int.toNat i9) sub0)))))] ≥ (0 : Int)) then some (T.leaf (AV.c (C.d (D.v
 (Value.int IntKind.i64 (8 : Int)))), [])) else (bif decide ((n1 + (1 : Nat)) * (16 : Nat) ≤ (140737488355328 : Nat)) && decide (n1 + (1 : Nat) ≤ (9223372036854775807 : Nat)) then
 L93_30 nk oki ix r g m (n1 + (1 : Nat)) (appF n1 f1 (chunk [dS (SSub.loc (List.getD (SRel.subs r) (Int.toNat i9) sub0))] ((0 : Nat) + (1 : Nat)))) (IntKind.wrap IntKind.i64 (i9 + (1
 : Int))) else none)) else none))))) else none) else some (T.leaf (AV.c (C.d (D.v (Value.int IntKind.i64 (0 : Int)))), []))) := by kernel_rfl
end Go.Proofs.YtngoglhlhlfknaaGreat.se
