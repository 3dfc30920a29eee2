/-
  Check of the program: what its parts compute. No condition.
-/
import Derived.Test.YtngoglhlhlfknaaGreatZIt
import Derived.Test.YtngoglhlhlfknaaGreatSu
namespace Go.Proofs.YtngoglhlhlfknaaGreat.st
open Go.RowKit Go.Eb
set_option maxRecDepth 100000

abbrev nilC : C := .d (.v (.slice none 0 0))
noncomputable def oNm (nk : ByteArray → Bool) : Orc := Orc.cons 50 (ansP decS fun s => vB (nk s)) Orc.nil
noncomputable def oNam (nk : ByteArray → Bool) : Orc := Orc.cons 100 (inl Tryz.prog (oNm nk) na 1 Tryz.f100) Orc.nil
noncomputable def o26 (nk : ByteArray → Bool) : Orc := Orc.cons 53 (inl Tryz.prog (oNam nk) na 1 Tryz.f53) Orc.nil
noncomputable def oWi : Orc := Orc.cons 102 (inl Tryz.prog Orc.nil na 1 Tryz.f102) Orc.nil
noncomputable def oIm (nk : ByteArray → Bool) : Orc := Orc.cons 101 (inl Tryz.prog oWi na 1 Tryz.f101) (Orc.cons 102 (inl Tryz.prog Orc.nil na 1 Tryz.f102) (oNam nk))
noncomputable def o28 (nk : ByteArray → Bool) : Orc := Orc.cons 55 (inl Tryz.prog (oIm nk) na 1 Tryz.f55) Orc.nil
noncomputable def o30 (nk : ByteArray → Bool) : Orc := Orc.cons 57 (inl Tryz.prog (oIm nk) na 1 Tryz.f57) Orc.nil
abbrev fnOf (f : FuncId) : AV := .c (.fn f [.ptr 0 0] [])
/-- the builder's memory -/
abbrev H1 (s0 : ByteArray) (mpa : List (Value × Value)) : Hp := [(0, .cells [.d (dS s0), nilC, nilC, nilC, nilC, .mp 1] 157), (1, .map 0 mpa)]
abbrev H1' (s0 : ByteArray) (mpa : List (Value × Value)) (ka : Nat) (ga : Nat → List D) : Hp := [(0, .cells [.d (dS s0), .row 2 1 ka, nilC, nilC, nilC, .mp 1] 157), (1, .map 0 mpa), (2, .row ka ga 1 9)]
abbrev H2 (s0 : ByteArray) (ka : Nat) (ga : Nat → List D) (mpa : List (Value × Value)) : Hp := [(0, .cells [.d (dS s0), .row 1 1 ka, nilC, nilC, nilC, .mp 2] 157), (1, .row ka ga 1 9), (2, .map 0 mpa)]
abbrev H2' (s0 : ByteArray) (ka : Nat) (ga : Nat → List D) (mpa : List (Value × Value)) (kb : Nat) (gb : Nat → List D) : Hp := [(0, .cells [.d (dS s0), .row 1 1 ka, .row 3 5 kb, nilC, nilC, .mp 2] 157), (1, .row ka ga 1 9), (2, .map 0 mpa), (3, .row kb gb 5 71)]
abbrev H3 (s0 : ByteArray) (ka : Nat) (ga : Nat → List D) (kb : Nat) (gb : Nat → List D) (mpa : List (Value × Value)) : Hp := [(0, .cells [.d (dS s0), .row 1 1 ka, .row 2 5 kb, nilC, nilC, .mp 3] 157), (1, .row ka ga 1 9), (2, .row kb gb 5 71), (3, .map 0 mpa)]
abbrev H3' (s0 : ByteArray) (ka : Nat) (ga : Nat → List D) (kb : Nat) (gb : Nat → List D) (mpa : List (Value × Value)) (kc : Nat) (gc : Nat → List D) : Hp := [(0, .cells [.d (dS s0), .row 1 1 ka, .row 2 5 kb, .row 4 6 kc, nilC, .mp 3] 157), (1, .row ka ga 1 9), (2, .row kb gb 5 71), (3, .map 0 mpa), (4, .row kc gc 6 74)]
abbrev H4 (s0 : ByteArray) (ka : Nat) (ga : Nat → List D) (kb : Nat) (gb : Nat → List D) (kc : Nat) (gc : Nat → List D) (mpa : List (Value × Value)) : Hp := [(0, .cells [.d (dS s0), .row 1 1 ka, .row 2 5 kb, .row 3 6 kc, nilC, .mp 4] 157), (1, .row ka ga 1 9), (2, .row kb gb 5 71), (3, .row kc gc 6 74), (4, .map 0 mpa)]
abbrev H4' (s0 : ByteArray) (ka : Nat) (ga : Nat → List D) (kb : Nat) (gb : Nat → List D) (kc : Nat) (gc : Nat → List D) (mpa : List (Value × Value)) (kd : Nat) (gd : Nat → List D) : Hp := [(0, .cells [.d (dS s0), .row 1 1 ka, .row 2 5 kb, .row 3 6 kc, .row 5 12 kd, .mp 4] 157), (1, .row ka ga 1 9), (2, .row kb gb 5 71), (3, .row kc gc 6 74), (4, .map 0 mpa), (5, .row kd gd 12 66)]
abbrev H5 (s0 : ByteArray) (ka : Nat) (ga : Nat → List D) (kb : Nat) (gb : Nat → List D) (kc : Nat) (gc : Nat → List D) (kd : Nat) (gd : Nat → List D) (mpa : List (Value × Value)) : Hp := [(0, .cells [.d (dS s0), .row 1 1 ka, .row 2 5 kb, .row 3 6 kc, .row 4 12 kd, .mp 5] 157), (1, .row ka ga 1 9), (2, .row kb gb 5 71), (3, .row kc gc 6 74), (4, .row kd gd 12 66), (5, .map 0 mpa)]
noncomputable def ann26 : Ann := annOf [(2, ⟨[1, 8, 9, 10], [(1, 1, 1, 9)]⟩)]
noncomputable def L26_2 (nk : ByteArray → Bool) (l : List ByteArray) (s0 : ByteArray) (mpa : List (Value × Value)) (g m : Nat) (l1 : List (Value × Value)) (n2 : Nat) (f2 : Nat → List D) (i10 : Int) := LK Tryz.prog (o26 nk) ann26 (List.length (α := Nat × Blk) [(0, .cells [.d (dS s0), nilC, nilC, nilC, nilC, .mp 1] 157), (1, .map 0 mpa)]) g Tryz.f52 2 m ⟨frm [(1, AV.c (C.fn 53 [Rf.ptr 0 0] [])), (8, AV.c (C.d (D.sl 1 (List.length l) fun i => busC (List.getD l i e0)))), (9, AV.c (C.d (D.v (Value.int IntKind.i64 (↑(List.length l) : Int))))), (10, AV.c (C.d (D.v (Value.int IntKind.i64 i10))))] 0 Tryz.f52.ntmps, [(0, Blk.cells [C.d (D.v (Value.string s0)), C.row 2 1 n2, C.d (D.v (Value.slice none (0 : Nat) (0 : Nat))), C.d (D.v (Value.slice none (0 : Nat) (0 : Nat))), C.d (D.v (Value.slice none (0 : Nat) (0 : Nat))), C.mp 1] 157), (1, Blk.map 0 l1), (2, Blk.row n2 f2 1 9)], 3⟩
theorem b26 : Tryz.f52.body = some (bodyOf Tryz.f52) := by kernel_rfl
set_option maxRecDepth 100000 in
theorem ev26 (nk : ByteArray → Bool) (l : List ByteArray) (s0 : ByteArray) (mpa : List (Value × Value)) (g : Nat) : callC Tryz.prog (o26 nk) ann26 g Tryz.f52 (bodyOf Tryz.f52) [.c (.d (busesD l)), fnOf 53] [(0, .cells [.d (dS s0), nilC, nilC, nilC, nilC, .mp 1] 157), (1, .map 0 mpa)] =
 L26_2 nk l s0 mpa g g mpa (0 : Nat) (fun x => []) ((0 : Int)) := by kernel_rfl
set_option maxRecDepth 100000 in
theorem st26_2 (nk : ByteArray → Bool) (l : List ByteArray) (s0 : ByteArray) (mpa : List (Value × Value)) (g m : Nat) (l1 : List (Value × Value)) (n2 : Nat) (f2 : Nat → List D) (i10 : Int) : L26_2 nk l s0 mpa g (m + 1) l1 n2 f2 i10 =
 (bif decide (i10 < (↑(List.length l) : Int)) then (bif decide ((0 : Int) ≤ i10) && decide (i10 < (↑(List.length l) : Int)) then (bif !nk (List.getD l (Int.toNat i10) e0) then some
 (T.leaf (AV.c (C.d (D.v (Value.int IntKind.i64 (7 : Int)))), [((0 : Nat), Blk.cells [C.d (D.v (Value.string s0)), C.row ((2 : Nat)) ((1 : Nat)) n2, C.d (D.v (Value.slice none (0 :
 Nat) (0 : Nat))), C.d (D.v (Value.slice none (0 : Nat) (0 : Nat))), C.d (D.v (Value.slice none (0 : Nat) (0 : Nat))), C.mp ((1 : Nat))] ((157 : Nat))), ((1 : Nat), Blk.map ((0 :
 Nat)) l1), ((2 : Nat), Blk.row n2 f2 ((1 : Nat)) ((9 : Nat)))])) else (bif boolOf (assoc l1 (Value.string (List.getD l (Int.toNat i10) e0))) then some (T.leaf (AV.c (C.d (D.v
 (Value.int IntKind.i64 (8 : Int)))), [((0 : Nat), Blk.cells [C.d (D.v (Value.string s0)), C.row ((2 : Nat)) ((1 : Nat)) n2, C.d (D.v (Value.slice none (0 : Nat) (0 : Nat))), C.d
 (D.v (Value.slice none (0 : Nat) (0 : Nat))), C.d (D.v (Value.slice none (0 : Nat) (0 : Nat))), C.mp ((1 : Nat))] ((157 : Nat))), ((1 : Nat), Blk.map ((0 : Nat)) l1), ((2 : Nat),
 Blk.row n2 f2 ((1 : Nat)) ((9 : Nat)))])) else (bif decide ((n2 + (1 : Nat)) * (16 : Nat) ≤ (140737488355328 : Nat)) && decide (n2 + (1 : Nat) ≤ (9223372036854775807 : Nat)) then
 L26_2 nk l s0 mpa g m ((Value.string (List.getD l (Int.toNat i10) e0), Value.bool true) :: l1) (n2 + (1 : Nat)) (appF n2 f2 (chunk [dS (List.getD l (Int.toNat i10) e0)] ((0 : Nat) +
 (1 : Nat)))) (IntKind.wrap IntKind.i64 (i10 + (1 : Int))) else none))) else none) else some (T.leaf (AV.c (C.d (D.v (Value.int IntKind.i64 (0 : Int)))), [((0 : Nat), Blk.cells [C.d
 (D.v (Value.string s0)), C.row ((2 : Nat)) ((1 : Nat)) n2, C.d (D.v (Value.slice none (0 : Nat) (0 : Nat))), C.d (D.v (Value.slice none (0 : Nat) (0 : Nat))), C.d (D.v (Value.slice
 none (0 : Nat) (0 : Nat))), C.mp ((1 : Nat))] ((157 : Nat))), ((1 : Nat), Blk.map ((0 : Nat)) l1), ((2 : Nat), Blk.row n2 f2 ((1 : Nat)) ((9 : Nat)))]))) := by kernel_rfl
noncomputable def ann28 : Ann := annOf [(2, ⟨[1, 8, 9, 10], [(1, 2, 5, 71)]⟩)]
noncomputable def L28_2 (nk : ByteArray → Bool) (l : List SLine) (s0 : ByteArray) (ka : Nat) (ga : Nat → List D) (mpa : List (Value × Value)) (g m : Nat) (l2 : List (Value × Value)) (n3 : Nat) (f3 : Nat → List D) (i10 : Int) := LK Tryz.prog (o28 nk) ann28 (List.length (α := Nat × Blk) [(0, .cells [.d (dS s0), .row 1 1 ka, nilC, nilC, nilC, .mp 2] 157), (1, .row ka ga 1 9), (2, .map 0 mpa)]) g Tryz.f54 2 m ⟨frm [(1, AV.c (C.fn 55 [Rf.ptr 0 0] [])), (8, AV.c (C.d (D.sl 5 (List.length l) fun i => lineC (List.getD l i line0)))), (9, AV.c (C.d (D.v (Value.int IntKind.i64 (↑(List.length l) : Int))))), (10, AV.c (C.d (D.v (Value.int IntKind.i64 i10))))] 0 Tryz.f54.ntmps, [(0, Blk.cells [C.d (D.v (Value.string s0)), C.row 1 1 ka, C.row 3 5 n3, C.d (D.v (Value.slice none (0 : Nat) (0 : Nat))), C.d (D.v (Value.slice none (0 : Nat) (0 : Nat))), C.mp 2] 157), (1, Blk.row ka ga 1 9), (2, Blk.map 0 l2), (3, Blk.row n3 f3 5 71)], 4⟩
theorem b28 : Tryz.f54.body = some (bodyOf Tryz.f54) := by kernel_rfl
set_option maxRecDepth 100000 in
theorem ev28 (nk : ByteArray → Bool) (l : List SLine) (s0 : ByteArray) (ka : Nat) (ga : Nat → List D) (mpa : List (Value × Value)) (g : Nat) : callC Tryz.prog (o28 nk) ann28 g Tryz.f54 (bodyOf Tryz.f54) [.c (.d (linesD l)), fnOf 55] [(0, .cells [.d (dS s0), .row 1 1 ka, nilC, nilC, nilC, .mp 2] 157), (1, .row ka ga 1 9), (2, .map 0 mpa)] =
 L28_2 nk l s0 ka ga mpa g g mpa (0 : Nat) (fun x => []) ((0 : Int)) := by kernel_rfl
set_option maxRecDepth 100000 in
theorem st28_2 (nk : ByteArray → Bool) (l : List SLine) (s0 : ByteArray) (ka : Nat) (ga : Nat → List D) (mpa : List (Value × Value)) (g m : Nat) (l2 : List (Value × Value)) (n3 : Nat) (f3 : Nat → List D) (i10 : Int) : L28_2 nk l s0 ka ga mpa g (m + 1) l2 n3 f3 i10 =
 (bif decide (i10 < (↑(List.length l) : Int)) then (bif decide ((0 : Int) ≤ i10) && decide (i10 < (↑(List.length l) : Int)) then (bif !nk (SLine.name (List.getD l (Int.toNat i10)
 line0)) then some (T.leaf (AV.c (C.d (D.v (Value.int IntKind.i64 (7 : Int)))), [((0 : Nat), Blk.cells [C.d (D.v (Value.string s0)), C.row ((1 : Nat)) ((1 : Nat)) ka, C.row ((3 :
 Nat)) ((5 : Nat)) n3, C.d (D.v (Value.slice none (0 : Nat) (0 : Nat))), C.d (D.v (Value.slice none (0 : Nat) (0 : Nat))), C.mp ((2 : Nat))] ((157 : Nat))), ((1 : Nat), Blk.row ka ga
 ((1 : Nat)) ((9 : Nat))), ((2 : Nat), Blk.map ((0 : Nat)) l2), ((3 : Nat), Blk.row n3 f3 ((5 : Nat)) ((71 : Nat)))])) else (bif boolOf (assoc l2 (Value.string (SLine.name (List.getD
 l (Int.toNat i10) line0)))) then some (T.leaf (AV.c (C.d (D.v (Value.int IntKind.i64 (8 : Int)))), [((0 : Nat), Blk.cells [C.d (D.v (Value.string s0)), C.row ((1 : Nat)) ((1 : Nat))
 ka, C.row ((3 : Nat)) ((5 : Nat)) n3, C.d (D.v (Value.slice none (0 : Nat) (0 : Nat))), C.d (D.v (Value.slice none (0 : Nat) (0 : Nat))), C.mp ((2 : Nat))] ((157 : Nat))), ((1 :
 Nat), Blk.row ka ga ((1 : Nat)) ((9 : Nat))), ((2 : Nat), Blk.map ((0 : Nat)) l2), ((3 : Nat), Blk.row n3 f3 ((5 : Nat)) ((71 : Nat)))])) else (bif decide (SLine.r1 (List.getD l
 (Int.toNat i10) line0) ≥ (0 : Int)) then (bif decide (SLine.r1 (List.getD l (Int.toNat i10) line0) ≤ (1000 : Int)) then (bif decide (SLine.x1 (List.getD l (Int.toNat i10) line0) ≥
 (1 : Int)) then (bif !decide (SLine.x1 (List.getD l (Int.toNat i10) line0) ≤ (1000 : Int)) then some (T.leaf (AV.c (C.d (D.v (Value.int IntKind.i64 (2 : Int)))), [((0 : Nat),
 Blk.cells [C.d (D.v (Value.string s0)), C.row ((1 : Nat)) ((1 : Nat)) ka, C.row ((3 : Nat)) ((5 : Nat)) n3, C.d (D.v (Value.slice none (0 : Nat) (0 : Nat))), C.d (D.v (Value.slice
 none (0 : Nat) (0 : Nat))), C.mp ((2 : Nat))] ((157 : Nat))), ((1 : Nat), Blk.row ka ga ((1 : Nat)) ((9 : Nat))), ((2 : Nat), Blk.map ((0 : Nat)) l2), ((3 : Nat), Blk.row n3 f3 ((5
 : Nat)) ((71 : Nat)))])) else (bif decide (SLine.r0 (List.getD l (Int.toNat i10) line0) ≥ (0 : Int)) then (bif decide (SLine.r0 (List.getD l (Int.toNat i10) line0) ≤ (1000 : Int))
 then (bif decide (SLine.x0 (List.getD l (Int.toNat i10) line0) ≥ (1 : Int)) then (bif !decide (SLine.x0 (List.getD l (Int.toNat i10) line0) ≤ (1000 : Int)) then some (T.leaf (AV.c
 (C.d (D.v (Value.int IntKind.i64 (2 : Int)))), [((0 : Nat), Blk.cells [C.d (D.v (Value.string s0)), C.row ((1 : Nat)) ((1 : Nat)) ka, C.row ((3 : Nat)) ((5 : Nat)) n3, C.d (D.v
 (Value.slice none (0 : Nat) (0 : Nat))), C.d (D.v (Value.slice none (0 : Nat) (0 : Nat))), C.mp ((2 : Nat))] ((157 : Nat))), ((1 : Nat), Blk.row ka ga ((1 : Nat)) ((9 : Nat))), ((2
 : Nat), Blk.map ((0 : Nat)) l2), ((3 : Nat), Blk.row n3 f3 ((5 : Nat)) ((71 : Nat)))])) else (bif decide ((n3 + (1 : Nat)) * (48 : Nat) ≤ (140737488355328 : Nat)) && decide (n3 + (1
 : Nat) ≤ (9223372036854775807 : Nat)) then L28_2 nk l s0 ka ga mpa g m ((Value.string (SLine.name (List.getD l (Int.toNat i10) line0)), Value.bool true) :: l2) (n3 + (1 : Nat))
 (appF n3 f3 (chunk [dS (SLine.name (List.getD l (Int.toNat i10) line0)), dI (SLine.r1 (List.getD l (Int.toNat i10) line0)), dI (SLine.x1 (List.getD l (Int.toNat i10) line0)), dI
 (SLine.r0 (List.getD l (Int.toNat i10) line0)), dI (SLine.x0 (List.getD l (Int.toNat i10) line0))] ((4 : Nat) + (1 : Nat)))) (IntKind.wrap IntKind.i64 (i10 + (1 : Int))) else none))
 else some (T.leaf (AV.c (C.d (D.v (Value.int IntKind.i64 (2 : Int)))), [((0 : Nat), Blk.cells [C.d (D.v (Value.string s0)), C.row ((1 : Nat)) ((1 : Nat)) ka, C.row ((3 : Nat)) ((5 :
 Nat)) n3, C.d (D.v (Value.slice none (0 : Nat) (0 : Nat))), C.d (D.v (Value.slice none (0 : Nat) (0 : Nat))), C.mp ((2 : Nat))] ((157 : Nat))), ((1 : Nat), Blk.row ka ga ((1 : Nat))
 ((9 : Nat))), ((2 : Nat), Blk.map ((0 : Nat)) l2), ((3 : Nat), Blk.row n3 f3 ((5 : Nat)) ((71 : Nat)))]))) else some (T.leaf (AV.c (C.d (D.v (Value.int IntKind.i64 (2 : Int)))),
 [((0 : Nat), Blk.cells [C.d (D.v (Value.string s0)), C.row ((1 : Nat)) ((1 : Nat)) ka, C.row ((3 : Nat)) ((5 : Nat)) n3, C.d (D.v (Value.slice none (0 : Nat) (0 : Nat))), C.d (D.v
 (Value.slice none (0 : Nat) (0 : Nat))), C.mp ((2 : Nat))] ((157 : Nat))), ((1 : Nat), Blk.row ka ga ((1 : Nat)) ((9 : Nat))), ((2 : Nat), Blk.map ((0 : Nat)) l2), ((3 : Nat),
 Blk.row n3 f3 ((5 : Nat)) ((71 : Nat)))]))) else some (T.leaf (AV.c (C.d (D.v (Value.int IntKind.i64 (2 : Int)))), [((0 : Nat), Blk.cells [C.d (D.v (Value.string s0)), C.row ((1 :
 Nat)) ((1 : Nat)) ka, C.row ((3 : Nat)) ((5 : Nat)) n3, C.d (D.v (Value.slice none (0 : Nat) (0 : Nat))), C.d (D.v (Value.slice none (0 : Nat) (0 : Nat))), C.mp ((2 : Nat))] ((157 :
 Nat))), ((1 : Nat), Blk.row ka ga ((1 : Nat)) ((9 : Nat))), ((2 : Nat), Blk.map ((0 : Nat)) l2), ((3 : Nat), Blk.row n3 f3 ((5 : Nat)) ((71 : Nat)))])))) else some (T.leaf (AV.c
 (C.d (D.v (Value.int IntKind.i64 (2 : Int)))), [((0 : Nat), Blk.cells [C.d (D.v (Value.string s0)), C.row ((1 : Nat)) ((1 : Nat)) ka, C.row ((3 : Nat)) ((5 : Nat)) n3, C.d (D.v
 (Value.slice none (0 : Nat) (0 : Nat))), C.d (D.v (Value.slice none (0 : Nat) (0 : Nat))), C.mp ((2 : Nat))] ((157 : Nat))), ((1 : Nat), Blk.row ka ga ((1 : Nat)) ((9 : Nat))), ((2
 : Nat), Blk.map ((0 : Nat)) l2), ((3 : Nat), Blk.row n3 f3 ((5 : Nat)) ((71 : Nat)))]))) else some (T.leaf (AV.c (C.d (D.v (Value.int IntKind.i64 (2 : Int)))), [((0 : Nat),
 Blk.cells [C.d (D.v (Value.string s0)), C.row ((1 : Nat)) ((1 : Nat)) ka, C.row ((3 : Nat)) ((5 : Nat)) n3, C.d (D.v (Value.slice none (0 : Nat) (0 : Nat))), C.d (D.v (Value.slice
 none (0 : Nat) (0 : Nat))), C.mp ((2 : Nat))] ((157 : Nat))), ((1 : Nat), Blk.row ka ga ((1 : Nat)) ((9 : Nat))), ((2 : Nat), Blk.map ((0 : Nat)) l2), ((3 : Nat), Blk.row n3 f3 ((5
 : Nat)) ((71 : Nat)))]))) else some (T.leaf (AV.c (C.d (D.v (Value.int IntKind.i64 (2 : Int)))), [((0 : Nat), Blk.cells [C.d (D.v (Value.string s0)), C.row ((1 : Nat)) ((1 : Nat))
 ka, C.row ((3 : Nat)) ((5 : Nat)) n3, C.d (D.v (Value.slice none (0 : Nat) (0 : Nat))), C.d (D.v (Value.slice none (0 : Nat) (0 : Nat))), C.mp ((2 : Nat))] ((157 : Nat))), ((1 :
 Nat), Blk.row ka ga ((1 : Nat)) ((9 : Nat))), ((2 : Nat), Blk.map ((0 : Nat)) l2), ((3 : Nat), Blk.row n3 f3 ((5 : Nat)) ((71 : Nat)))]))))) else none) else some (T.leaf (AV.c (C.d
 (D.v (Value.int IntKind.i64 (0 : Int)))), [((0 : Nat), Blk.cells [C.d (D.v (Value.string s0)), C.row ((1 : Nat)) ((1 : Nat)) ka, C.row ((3 : Nat)) ((5 : Nat)) n3, C.d (D.v
 (Value.slice none (0 : Nat) (0 : Nat))), C.d (D.v (Value.slice none (0 : Nat) (0 : Nat))), C.mp ((2 : Nat))] ((157 : Nat))), ((1 : Nat), Blk.row ka ga ((1 : Nat)) ((9 : Nat))), ((2
 : Nat), Blk.map ((0 : Nat)) l2), ((3 : Nat), Blk.row n3 f3 ((5 : Nat)) ((71 : Nat)))]))) := by kernel_rfl
noncomputable def ann30 : Ann := annOf [(2, ⟨[1, 8, 9, 10], [(1, 3, 6, 74)]⟩)]
noncomputable def L30_2 (nk : ByteArray → Bool) (l : List SSrc) (s0 : ByteArray) (ka : Nat) (ga : Nat → List D) (kb : Nat) (gb : Nat → List D) (mpa : List (Value × Value)) (g m : Nat) (l3 : List (Value × Value)) (n4 : Nat) (f4 : Nat → List D) (i10 : Int) := LK Tryz.prog (o30 nk) ann30 (List.length (α := Nat × Blk) [(0, .cells [.d (dS s0), .row 1 1 ka, .row 2 5 kb, nilC, nilC, .mp 3] 157), (1, .row ka ga 1 9), (2, .row kb gb 5 71), (3, .map 0 mpa)]) g Tryz.f56 2 m ⟨frm [(1, AV.c (C.fn 57 [Rf.ptr 0 0] [])), (8, AV.c (C.d (D.sl 6 (List.length l) fun i => srcC' (List.getD l i src0)))), (9, AV.c (C.d (D.v (Value.int IntKind.i64 (↑(List.length l) : Int))))), (10, AV.c (C.d (D.v (Value.int IntKind.i64 i10))))] 0 Tryz.f56.ntmps, [(0, Blk.cells [C.d (D.v (Value.string s0)), C.row 1 1 ka, C.row 2 5 kb, C.row 4 6 n4, C.d (D.v (Value.slice none (0 : Nat) (0 : Nat))), C.mp 3] 157), (1, Blk.row ka ga 1 9), (2, Blk.row kb gb 5 71), (3, Blk.map 0 l3), (4, Blk.row n4 f4 6 74)], 5⟩
theorem b30 : Tryz.f56.body = some (bodyOf Tryz.f56) := by kernel_rfl
set_option maxRecDepth 100000 in
theorem ev30 (nk : ByteArray → Bool) (l : List SSrc) (s0 : ByteArray) (ka : Nat) (ga : Nat → List D) (kb : Nat) (gb : Nat → List D) (mpa : List (Value × Value)) (g : Nat) : callC Tryz.prog (o30 nk) ann30 g Tryz.f56 (bodyOf Tryz.f56) [.c (.d (srcsD l)), fnOf 57] [(0, .cells [.d (dS s0), .row 1 1 ka, .row 2 5 kb, nilC, nilC, .mp 3] 157), (1, .row ka ga 1 9), (2, .row kb gb 5 71), (3, .map 0 mpa)] =
 L30_2 nk l s0 ka ga kb gb mpa g g mpa (0 : Nat) (fun x => []) ((0 : Int)) := by kernel_rfl
set_option maxRecDepth 100000 in
theorem st30_2 (nk : ByteArray → Bool) (l : List SSrc) (s0 : ByteArray) (ka : Nat) (ga : Nat → List D) (kb : Nat) (gb : Nat → List D) (mpa : List (Value × Value)) (g m : Nat) (l3 : List (Value × Value)) (n4 : Nat) (f4 : Nat → List D) (i10 : Int) : L30_2 nk l s0 ka ga kb gb mpa g (m + 1) l3 n4 f4 i10 =
 (bif decide (i10 < (↑(List.length l) : Int)) then (bif decide ((0 : Int) ≤ i10) && decide (i10 < (↑(List.length l) : Int)) then (bif !nk (SSrc.name (List.getD l (Int.toNat i10)
 src0)) then some (T.leaf (AV.c (C.d (D.v (Value.int IntKind.i64 (7 : Int)))), [((0 : Nat), Blk.cells [C.d (D.v (Value.string s0)), C.row ((1 : Nat)) ((1 : Nat)) ka, C.row ((2 :
 Nat)) ((5 : Nat)) kb, C.row ((4 : Nat)) ((6 : Nat)) n4, C.d (D.v (Value.slice none (0 : Nat) (0 : Nat))), C.mp ((3 : Nat))] ((157 : Nat))), ((1 : Nat), Blk.row ka ga ((1 : Nat)) ((9
 : Nat))), ((2 : Nat), Blk.row kb gb ((5 : Nat)) ((71 : Nat))), ((3 : Nat), Blk.map ((0 : Nat)) l3), ((4 : Nat), Blk.row n4 f4 ((6 : Nat)) ((74 : Nat)))])) else (bif boolOf (assoc l3
 (Value.string (SSrc.name (List.getD l (Int.toNat i10) src0)))) then some (T.leaf (AV.c (C.d (D.v (Value.int IntKind.i64 (8 : Int)))), [((0 : Nat), Blk.cells [C.d (D.v (Value.string
 s0)), C.row ((1 : Nat)) ((1 : Nat)) ka, C.row ((2 : Nat)) ((5 : Nat)) kb, C.row ((4 : Nat)) ((6 : Nat)) n4, C.d (D.v (Value.slice none (0 : Nat) (0 : Nat))), C.mp ((3 : Nat))] ((157
 : Nat))), ((1 : Nat), Blk.row ka ga ((1 : Nat)) ((9 : Nat))), ((2 : Nat), Blk.row kb gb ((5 : Nat)) ((71 : Nat))), ((3 : Nat), Blk.map ((0 : Nat)) l3), ((4 : Nat), Blk.row n4 f4 ((6
 : Nat)) ((74 : Nat)))])) else (bif decide (SSrc.emf (List.getD l (Int.toNat i10) src0) ≥ (1 : Int)) then (bif !decide (SSrc.emf (List.getD l (Int.toNat i10) src0) ≤ (1000000 : Int))
 then some (T.leaf (AV.c (C.d (D.v (Value.int IntKind.i64 (2 : Int)))), [((0 : Nat), Blk.cells [C.d (D.v (Value.string s0)), C.row ((1 : Nat)) ((1 : Nat)) ka, C.row ((2 : Nat)) ((5 :
 Nat)) kb, C.row ((4 : Nat)) ((6 : Nat)) n4, C.d (D.v (Value.slice none (0 : Nat) (0 : Nat))), C.mp ((3 : Nat))] ((157 : Nat))), ((1 : Nat), Blk.row ka ga ((1 : Nat)) ((9 : Nat))),
 ((2 : Nat), Blk.row kb gb ((5 : Nat)) ((71 : Nat))), ((3 : Nat), Blk.map ((0 : Nat)) l3), ((4 : Nat), Blk.row n4 f4 ((6 : Nat)) ((74 : Nat)))])) else (bif decide (SSrc.r1 (List.getD
 l (Int.toNat i10) src0) ≥ (0 : Int)) then (bif decide (SSrc.r1 (List.getD l (Int.toNat i10) src0) ≤ (1000 : Int)) then (bif decide (SSrc.x1 (List.getD l (Int.toNat i10) src0) ≥ (1 :
 Int)) then (bif !decide (SSrc.x1 (List.getD l (Int.toNat i10) src0) ≤ (1000 : Int)) then some (T.leaf (AV.c (C.d (D.v (Value.int IntKind.i64 (2 : Int)))), [((0 : Nat), Blk.cells
 [C.d (D.v (Value.string s0)), C.row ((1 : Nat)) ((1 : Nat)) ka, C.row ((2 : Nat)) ((5 : Nat)) kb, C.row ((4 : Nat)) ((6 : Nat)) n4, C.d (D.v (Value.slice none (0 : Nat) (0 : Nat))),
 C.mp ((3 : Nat))] ((157 : Nat))), ((1 : Nat), Blk.row ka ga ((1 : Nat)) ((9 : Nat))), ((2 : Nat), Blk.row kb gb ((5 : Nat)) ((71 : Nat))), ((3 : Nat), Blk.map ((0 : Nat)) l3), ((4 :
 Nat), Blk.row n4 f4 ((6 : Nat)) ((74 : Nat)))])) else (bif decide (SSrc.r0 (List.getD l (Int.toNat i10) src0) ≥ (0 : Int)) then (bif decide (SSrc.r0 (List.getD l (Int.toNat i10)
 src0) ≤ (1000 : Int)) then (bif decide (SSrc.x0 (List.getD l (Int.toNat i10) src0) ≥ (1 : Int)) then (bif !decide (SSrc.x0 (List.getD l (Int.toNat i10) src0) ≤ (1000 : Int)) then
 some (T.leaf (AV.c (C.d (D.v (Value.int IntKind.i64 (2 : Int)))), [((0 : Nat), Blk.cells [C.d (D.v (Value.string s0)), C.row ((1 : Nat)) ((1 : Nat)) ka, C.row ((2 : Nat)) ((5 :
 Nat)) kb, C.row ((4 : Nat)) ((6 : Nat)) n4, C.d (D.v (Value.slice none (0 : Nat) (0 : Nat))), C.mp ((3 : Nat))] ((157 : Nat))), ((1 : Nat), Blk.row ka ga ((1 : Nat)) ((9 : Nat))),
 ((2 : Nat), Blk.row kb gb ((5 : Nat)) ((71 : Nat))), ((3 : Nat), Blk.map ((0 : Nat)) l3), ((4 : Nat), Blk.row n4 f4 ((6 : Nat)) ((74 : Nat)))])) else (bif decide ((n4 + (1 : Nat)) *
 (56 : Nat) ≤ (140737488355328 : Nat)) && decide (n4 + (1 : Nat) ≤ (9223372036854775807 : Nat)) then L30_2 nk l s0 ka ga kb gb mpa g m ((Value.string (SSrc.name (List.getD l
 (Int.toNat i10) src0)), Value.bool true) :: l3) (n4 + (1 : Nat)) (appF n4 f4 (chunk [dS (SSrc.name (List.getD l (Int.toNat i10) src0)), dI (SSrc.emf (List.getD l (Int.toNat i10)
 src0)), dI (SSrc.r1 (List.getD l (Int.toNat i10) src0)), dI (SSrc.x1 (List.getD l (Int.toNat i10) src0)), dI (SSrc.r0 (List.getD l (Int.toNat i10) src0)), dI (SSrc.x0 (List.getD l
 (Int.toNat i10) src0))] ((5 : Nat) + (1 : Nat)))) (IntKind.wrap IntKind.i64 (i10 + (1 : Int))) else none)) else some (T.leaf (AV.c (C.d (D.v (Value.int IntKind.i64 (2 : Int)))),
 [((0 : Nat), Blk.cells [C.d (D.v (Value.string s0)), C.row ((1 : Nat)) ((1 : Nat)) ka, C.row ((2 : Nat)) ((5 : Nat)) kb, C.row ((4 : Nat)) ((6 : Nat)) n4, C.d (D.v (Value.slice none
 (0 : Nat) (0 : Nat))), C.mp ((3 : Nat))] ((157 : Nat))), ((1 : Nat), Blk.row ka ga ((1 : Nat)) ((9 : Nat))), ((2 : Nat), Blk.row kb gb ((5 : Nat)) ((71 : Nat))), ((3 : Nat), Blk.map
 ((0 : Nat)) l3), ((4 : Nat), Blk.row n4 f4 ((6 : Nat)) ((74 : Nat)))]))) else some (T.leaf (AV.c (C.d (D.v (Value.int IntKind.i64 (2 : Int)))), [((0 : Nat), Blk.cells [C.d (D.v
 (Value.string s0)), C.row ((1 : Nat)) ((1 : Nat)) ka, C.row ((2 : Nat)) ((5 : Nat)) kb, C.row ((4 : Nat)) ((6 : Nat)) n4, C.d (D.v (Value.slice none (0 : Nat) (0 : Nat))), C.mp ((3
 : Nat))] ((157 : Nat))), ((1 : Nat), Blk.row ka ga ((1 : Nat)) ((9 : Nat))), ((2 : Nat), Blk.row kb gb ((5 : Nat)) ((71 : Nat))), ((3 : Nat), Blk.map ((0 : Nat)) l3), ((4 : Nat),
 Blk.row n4 f4 ((6 : Nat)) ((74 : Nat)))]))) else some (T.leaf (AV.c (C.d (D.v (Value.int IntKind.i64 (2 : Int)))), [((0 : Nat), Blk.cells [C.d (D.v (Value.string s0)), C.row ((1 :
 Nat)) ((1 : Nat)) ka, C.row ((2 : Nat)) ((5 : Nat)) kb, C.row ((4 : Nat)) ((6 : Nat)) n4, C.d (D.v (Value.slice none (0 : Nat) (0 : Nat))), C.mp ((3 : Nat))] ((157 : Nat))), ((1 :
 Nat), Blk.row ka ga ((1 : Nat)) ((9 : Nat))), ((2 : Nat), Blk.row kb gb ((5 : Nat)) ((71 : Nat))), ((3 : Nat), Blk.map ((0 : Nat)) l3), ((4 : Nat), Blk.row n4 f4 ((6 : Nat)) ((74 :
 Nat)))])))) else some (T.leaf (AV.c (C.d (D.v (Value.int IntKind.i64 (2 : Int)))), [((0 : Nat), Blk.cells [C.d (D.v (Value.string s0)), C.row ((1 : Nat)) ((1 : Nat)) ka, C.row ((2 :
 Nat)) ((5 : Nat)) kb, C.row ((4 : Nat)) ((6 : Nat)) n4, C.d (D.v (Value.slice none (0 : Nat) (0 : Nat))), C.mp ((3 : Nat))] ((157 : Nat))), ((1 : Nat), Blk.row ka ga ((1 : Nat)) ((9
 : Nat))), ((2 : Nat), Blk.row kb gb ((5 : Nat)) ((71 : Nat))), ((3 : Nat), Blk.map ((0 : Nat)) l3), ((4 : Nat), Blk.row n4 f4 ((6 : Nat)) ((74 : Nat)))]))) else some (T.leaf (AV.c
 (C.d (D.v (Value.int IntKind.i64 (2 : Int)))), [((0 : Nat), Blk.cells [C.d (D.v (Value.string s0)), C.row ((1 : Nat)) ((1 : Nat)) ka, C.row ((2 : Nat)) ((5 : Nat)) kb, C.row ((4 :
 Nat)) ((6 : Nat)) n4, C.d (D.v (Value.slice none (0 : Nat) (0 : Nat))), C.mp ((3 : Nat))] ((157 : Nat))), ((1 : Nat), Blk.row ka ga ((1 : Nat)) ((9 : Nat))), ((2 : Nat), Blk.row kb
 gb ((5 : Nat)) ((71 : Nat))), ((3 : Nat), Blk.map ((0 : Nat)) l3), ((4 : Nat), Blk.row n4 f4 ((6 : Nat)) ((74 : Nat)))]))) else some (T.leaf (AV.c (C.d (D.v (Value.int IntKind.i64
 (2 : Int)))), [((0 : Nat), Blk.cells [C.d (D.v (Value.string s0)), C.row ((1 : Nat)) ((1 : Nat)) ka, C.row ((2 : Nat)) ((5 : Nat)) kb, C.row ((4 : Nat)) ((6 : Nat)) n4, C.d (D.v
 (Value.slice none (0 : Nat) (0 : Nat))), C.mp ((3 : Nat))] ((157 : Nat))), ((1 : Nat), Blk.row ka ga ((1 : Nat)) ((9 : Nat))), ((2 : Nat), Blk.row kb gb ((5 : Nat)) ((71 : Nat))),
 ((3 : Nat), Blk.map ((0 : Nat)) l3), ((4 : Nat), Blk.row n4 f4 ((6 : Nat)) ((74 : Nat)))])))) else some (T.leaf (AV.c (C.d (D.v (Value.int IntKind.i64 (2 : Int)))), [((0 : Nat),
 Blk.cells [C.d (D.v (Value.string s0)), C.row ((1 : Nat)) ((1 : Nat)) ka, C.row ((2 : Nat)) ((5 : Nat)) kb, C.row ((4 : Nat)) ((6 : Nat)) n4, C.d (D.v (Value.slice none (0 : Nat) (0
 : Nat))), C.mp ((3 : Nat))] ((157 : Nat))), ((1 : Nat), Blk.row ka ga ((1 : Nat)) ((9 : Nat))), ((2 : Nat), Blk.row kb gb ((5 : Nat)) ((71 : Nat))), ((3 : Nat), Blk.map ((0 : Nat))
 l3), ((4 : Nat), Blk.row n4 f4 ((6 : Nat)) ((74 : Nat)))]))))) else none) else some (T.leaf (AV.c (C.d (D.v (Value.int IntKind.i64 (0 : Int)))), [((0 : Nat), Blk.cells [C.d (D.v
 (Value.string s0)), C.row ((1 : Nat)) ((1 : Nat)) ka, C.row ((2 : Nat)) ((5 : Nat)) kb, C.row ((4 : Nat)) ((6 : Nat)) n4, C.d (D.v (Value.slice none (0 : Nat) (0 : Nat))), C.mp ((3
 : Nat))] ((157 : Nat))), ((1 : Nat), Blk.row ka ga ((1 : Nat)) ((9 : Nat))), ((2 : Nat), Blk.row kb gb ((5 : Nat)) ((71 : Nat))), ((3 : Nat), Blk.map ((0 : Nat)) l3), ((4 : Nat),
 Blk.row n4 f4 ((6 : Nat)) ((74 : Nat)))]))) := by kernel_rfl
end Go.Proofs.YtngoglhlhlfknaaGreat.st
