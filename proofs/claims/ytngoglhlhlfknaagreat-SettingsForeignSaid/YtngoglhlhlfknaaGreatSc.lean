/-
  Check of the program: its bays, and the whole. No condition.
-/
import Derived.Test.YtngoglhlhlfknaaGreatSb
namespace Go.Proofs.YtngoglhlhlfknaaGreat.st
open Go.RowKit Go.Eb
set_option maxRecDepth 100000

abbrev A5 := (ByteArray × Nat × Nat × Nat × Nat × Unit × Unit) × (Nat × (Nat → List D)) × (Nat × (Nat → List D)) × (Nat × (Nat → List D)) × (Nat × (Nat → List D)) × (List (Value × Value)) × Unit
def dH5 : Dec Hp A5 := .cons (.blk 0 (.cells 157 (.cons .str (.cons (.row 1 1) (.cons (.row 2 5) (.cons (.row 3 6) (.cons (.row 4 12) (.cons (.mp 5) .nil)))))))) (.cons (.blk 1 (.rowB 1 9)) (.cons (.blk 2 (.rowB 5 71)) (.cons (.blk 3 (.rowB 6 74)) (.cons (.blk 4 (.rowB 12 66)) (.cons (.blk 5 (.mapB 0)) .nil)))))
def dBay : Dec (List AV) (Unit × RBay × Unit) := .cons (.c (.ptr 0 0)) (.cons (.agg bayD) .nil)
def d55 : Dec (List AV × Hp) ((Unit × RBay × Unit) × A5) := .pair dBay dH5
noncomputable def o55 : Orc := oWi
noncomputable def ann55 : Ann := annOf [(5, ⟨[3, 0, 27, 28, 29], []⟩)]
noncomputable def L55_5 (x : SBay) (s0 : ByteArray) (ka : Nat) (ga : Nat → List D) (kb : Nat) (gb : Nat → List D) (kc : Nat) (gc : Nat → List D) (kd : Nat) (gd : Nat → List D) (mpa : List (Value × Value)) (g m : Nat) (i29 : Int) := LK Tryz.prog o55 ann55 (List.length (α := Nat × Blk) [(0, .cells [.d (dS s0), .row 1 1 ka, .row 2 5 kb, .row 3 6 kc, .row 4 12 kd, .mp 5] 157), (1, .row ka ga 1 9), (2, .row kb gb 5 71), (3, .row kc gc 6 74), (4, .row kd gd 12 66), (5, .map 0 mpa)]) g Tryz.f104 5 m ⟨frm [(0, AV.c (C.ptr 0 0)), (3, AV.c (C.ptr 6 0)), (27, AV.c (C.d (D.sl 2 (List.length (SBay.links x)) fun i => linkC (List.getD (SBay.links x) i link0)))), (28, AV.c (C.d (D.v (Value.int IntKind.i64 (↑(List.length (SBay.links x)) : Int))))), (29, AV.c (C.d (D.v (Value.int IntKind.i64 i29))))] 0 Tryz.f104.ntmps, [(0, Blk.cells [C.d (D.v (Value.string s0)), C.row 1 1 ka, C.row 2 5 kb, C.row 3 6 kc, C.row 4 12 kd, C.mp 5] 157), (1, Blk.row ka ga 1 9), (2, Blk.row kb gb 5 71), (3, Blk.row kc gc 6 74), (4, Blk.row kd gd 12 66), (5, Blk.map 0 mpa), (6, Blk.cells [C.d (D.v (Value.string (SBay.name x))), C.d (D.v (Value.int IntKind.i64 (SBay.kind x))), C.d (D.v (Value.int IntKind.i64 (SBay.off x))), C.d (D.v (Value.int IntKind.i64 (SBay.fin x))), C.d (D.v (Value.int IntKind.i64 (SBay.zr x))), C.d (D.v (Value.int IntKind.i64 (SBay.zx x))), C.d (D.sl 2 (List.length (SBay.links x)) fun i => linkC (List.getD (SBay.links x) i link0)), C.d (D.v (Value.bool (SBay.closed x))), C.d (D.v (Value.int IntKind.i64 (SBay.ct x))), C.d (D.v (Value.int IntKind.i64 (SBay.vt x))), C.d (D.v (Value.int IntKind.i64 (SBay.sat x))), C.d (D.v (Value.int IntKind.i64 (SBay.travel x)))] 66)], 7⟩
theorem b55 : Tryz.f104.body = some (bodyOf Tryz.f104) := by kernel_rfl
set_option maxRecDepth 100000 in
theorem ev55 (x : SBay) (s0 : ByteArray) (ka : Nat) (ga : Nat → List D) (kb : Nat) (gb : Nat → List D) (kc : Nat) (gc : Nat → List D) (kd : Nat) (gd : Nat → List D) (mpa : List (Value × Value)) (g : Nat) : callC Tryz.prog o55 ann55 g Tryz.f104 (bodyOf Tryz.f104) [.c (.ptr 0 0), aBay x] [(0, .cells [.d (dS s0), .row 1 1 ka, .row 2 5 kb, .row 3 6 kc, .row 4 12 kd, .mp 5] 157), (1, .row ka ga 1 9), (2, .row kb gb 5 71), (3, .row kc gc 6 74), (4, .row kd gd 12 66), (5, .map 0 mpa)] =
 (bif decide ((↑(List.length (SBay.links x)) : Int) < (1 : Int)) then some (T.leaf (AV.c (C.d (D.v (Value.int IntKind.i64 (3 : Int)))), [((0 : Nat), Blk.cells [C.d (D.v (Value.string
 s0)), C.row ((1 : Nat)) ((1 : Nat)) ka, C.row ((2 : Nat)) ((5 : Nat)) kb, C.row ((3 : Nat)) ((6 : Nat)) kc, C.row ((4 : Nat)) ((12 : Nat)) kd, C.mp ((5 : Nat))] ((157 : Nat))), ((1
 : Nat), Blk.row ka ga ((1 : Nat)) ((9 : Nat))), ((2 : Nat), Blk.row kb gb ((5 : Nat)) ((71 : Nat))), ((3 : Nat), Blk.row kc gc ((6 : Nat)) ((74 : Nat))), ((4 : Nat), Blk.row kd gd
 ((12 : Nat)) ((66 : Nat))), ((5 : Nat), Blk.map ((0 : Nat)) mpa)])) else (bif decide ((↑(List.length (SBay.links x)) : Int) > (2 : Int)) then some (T.leaf (AV.c (C.d (D.v (Value.int
 IntKind.i64 (3 : Int)))), [((0 : Nat), Blk.cells [C.d (D.v (Value.string s0)), C.row ((1 : Nat)) ((1 : Nat)) ka, C.row ((2 : Nat)) ((5 : Nat)) kb, C.row ((3 : Nat)) ((6 : Nat)) kc,
 C.row ((4 : Nat)) ((12 : Nat)) kd, C.mp ((5 : Nat))] ((157 : Nat))), ((1 : Nat), Blk.row ka ga ((1 : Nat)) ((9 : Nat))), ((2 : Nat), Blk.row kb gb ((5 : Nat)) ((71 : Nat))), ((3 :
 Nat), Blk.row kc gc ((6 : Nat)) ((74 : Nat))), ((4 : Nat), Blk.row kd gd ((12 : Nat)) ((66 : Nat))), ((5 : Nat), Blk.map ((0 : Nat)) mpa)])) else (bif SBay.kind x == (3 : Int) then
 (bif (↑(List.length (SBay.links x)) : Int) != (2 : Int) then some (T.leaf (AV.c (C.d (D.v (Value.int IntKind.i64 (3 : Int)))), [((0 : Nat), Blk.cells [C.d (D.v (Value.string s0)),
 C.row ((1 : Nat)) ((1 : Nat)) ka, C.row ((2 : Nat)) ((5 : Nat)) kb, C.row ((3 : Nat)) ((6 : Nat)) kc, C.row ((4 : Nat)) ((12 : Nat)) kd, C.mp ((5 : Nat))] ((157 : Nat))), ((1 :
 Nat), Blk.row ka ga ((1 : Nat)) ((9 : Nat))), ((2 : Nat), Blk.row kb gb ((5 : Nat)) ((71 : Nat))), ((3 : Nat), Blk.row kc gc ((6 : Nat)) ((74 : Nat))), ((4 : Nat), Blk.row kd gd
 ((12 : Nat)) ((66 : Nat))), ((5 : Nat), Blk.map ((0 : Nat)) mpa)])) else L55_5 x s0 ka ga kb gb kc gc kd gd mpa g g ((0 : Int))) else L55_5 x s0 ka ga kb gb kc gc kd gd mpa g g ((0
 : Int))))) := by kernel_rfl
set_option maxRecDepth 100000 in
theorem st55_5 (x : SBay) (s0 : ByteArray) (ka : Nat) (ga : Nat → List D) (kb : Nat) (gb : Nat → List D) (kc : Nat) (gc : Nat → List D) (kd : Nat) (gd : Nat → List D) (mpa : List (Value × Value)) (g m : Nat) (i29 : Int) : L55_5 x s0 ka ga kb gb kc gc kd gd mpa g (m + 1) i29 =
 (bif decide (i29 < (↑(List.length (SBay.links x)) : Int)) then (bif decide ((0 : Int) ≤ i29) && decide (i29 < (↑(List.length (SBay.links x)) : Int)) then (bif decide (SLink.bus
 (List.getD (SBay.links x) (Int.toNat i29) link0) ≥ (0 : Int)) then (bif !decide (SLink.bus (List.getD (SBay.links x) (Int.toNat i29) link0) ≤ IntKind.wrap IntKind.i64 ((↑ka : Int) -
 (1 : Int))) then some (T.leaf (AV.c (C.d (D.v (Value.int IntKind.i64 (9 : Int)))), [((0 : Nat), Blk.cells [C.d (D.v (Value.string s0)), C.row ((1 : Nat)) ((1 : Nat)) ka, C.row ((2 :
 Nat)) ((5 : Nat)) kb, C.row ((3 : Nat)) ((6 : Nat)) kc, C.row ((4 : Nat)) ((12 : Nat)) kd, C.mp ((5 : Nat))] ((157 : Nat))), ((1 : Nat), Blk.row ka ga ((1 : Nat)) ((9 : Nat))), ((2
 : Nat), Blk.row kb gb ((5 : Nat)) ((71 : Nat))), ((3 : Nat), Blk.row kc gc ((6 : Nat)) ((74 : Nat))), ((4 : Nat), Blk.row kd gd ((12 : Nat)) ((66 : Nat))), ((5 : Nat), Blk.map ((0 :
 Nat)) mpa)])) else (bif SLink.pos (List.getD (SBay.links x) (Int.toNat i29) link0) != (1 : Int) then (bif SLink.pos (List.getD (SBay.links x) (Int.toNat i29) link0) != (0 : Int)
 then some (T.leaf (AV.c (C.d (D.v (Value.int IntKind.i64 (16 : Int)))), [((0 : Nat), Blk.cells [C.d (D.v (Value.string s0)), C.row ((1 : Nat)) ((1 : Nat)) ka, C.row ((2 : Nat)) ((5
 : Nat)) kb, C.row ((3 : Nat)) ((6 : Nat)) kc, C.row ((4 : Nat)) ((12 : Nat)) kd, C.mp ((5 : Nat))] ((157 : Nat))), ((1 : Nat), Blk.row ka ga ((1 : Nat)) ((9 : Nat))), ((2 : Nat),
 Blk.row kb gb ((5 : Nat)) ((71 : Nat))), ((3 : Nat), Blk.row kc gc ((6 : Nat)) ((74 : Nat))), ((4 : Nat), Blk.row kd gd ((12 : Nat)) ((66 : Nat))), ((5 : Nat), Blk.map ((0 : Nat))
 mpa)])) else (bif SBay.kind x == (3 : Int) then some (T.leaf (AV.c (C.d (D.v (Value.int IntKind.i64 (16 : Int)))), [((0 : Nat), Blk.cells [C.d (D.v (Value.string s0)), C.row ((1 :
 Nat)) ((1 : Nat)) ka, C.row ((2 : Nat)) ((5 : Nat)) kb, C.row ((3 : Nat)) ((6 : Nat)) kc, C.row ((4 : Nat)) ((12 : Nat)) kd, C.mp ((5 : Nat))] ((157 : Nat))), ((1 : Nat), Blk.row ka
 ga ((1 : Nat)) ((9 : Nat))), ((2 : Nat), Blk.row kb gb ((5 : Nat)) ((71 : Nat))), ((3 : Nat), Blk.row kc gc ((6 : Nat)) ((74 : Nat))), ((4 : Nat), Blk.row kd gd ((12 : Nat)) ((66 :
 Nat))), ((5 : Nat), Blk.map ((0 : Nat)) mpa)])) else (bif decide (i29 > (0 : Int)) then (bif decide ((0 : Int) ≤ IntKind.wrap IntKind.i64 (i29 - (1 : Int))) && decide (IntKind.wrap
 IntKind.i64 (i29 - (1 : Int)) < (↑(List.length (SBay.links x)) : Int)) then (bif SLink.bus (List.getD (SBay.links x) (Int.toNat (IntKind.wrap IntKind.i64 (i29 - (1 : Int)))) link0)
 == SLink.bus (List.getD (SBay.links x) (Int.toNat i29) link0) then some (T.leaf (AV.c (C.d (D.v (Value.int IntKind.i64 (12 : Int)))), [((0 : Nat), Blk.cells [C.d (D.v (Value.string
 s0)), C.row ((1 : Nat)) ((1 : Nat)) ka, C.row ((2 : Nat)) ((5 : Nat)) kb, C.row ((3 : Nat)) ((6 : Nat)) kc, C.row ((4 : Nat)) ((12 : Nat)) kd, C.mp ((5 : Nat))] ((157 : Nat))), ((1
 : Nat), Blk.row ka ga ((1 : Nat)) ((9 : Nat))), ((2 : Nat), Blk.row kb gb ((5 : Nat)) ((71 : Nat))), ((3 : Nat), Blk.row kc gc ((6 : Nat)) ((74 : Nat))), ((4 : Nat), Blk.row kd gd
 ((12 : Nat)) ((66 : Nat))), ((5 : Nat), Blk.map ((0 : Nat)) mpa)])) else L55_5 x s0 ka ga kb gb kc gc kd gd mpa g m (IntKind.wrap IntKind.i64 (i29 + (1 : Int)))) else none) else
 L55_5 x s0 ka ga kb gb kc gc kd gd mpa g m (IntKind.wrap IntKind.i64 (i29 + (1 : Int)))))) else (bif decide (i29 > (0 : Int)) then (bif decide ((0 : Int) ≤ IntKind.wrap IntKind.i64
 (i29 - (1 : Int))) && decide (IntKind.wrap IntKind.i64 (i29 - (1 : Int)) < (↑(List.length (SBay.links x)) : Int)) then (bif SLink.bus (List.getD (SBay.links x) (Int.toNat
 (IntKind.wrap IntKind.i64 (i29 - (1 : Int)))) link0) == SLink.bus (List.getD (SBay.links x) (Int.toNat i29) link0) then some (T.leaf (AV.c (C.d (D.v (Value.int IntKind.i64 (12 :
 Int)))), [((0 : Nat), Blk.cells [C.d (D.v (Value.string s0)), C.row ((1 : Nat)) ((1 : Nat)) ka, C.row ((2 : Nat)) ((5 : Nat)) kb, C.row ((3 : Nat)) ((6 : Nat)) kc, C.row ((4 : Nat))
 ((12 : Nat)) kd, C.mp ((5 : Nat))] ((157 : Nat))), ((1 : Nat), Blk.row ka ga ((1 : Nat)) ((9 : Nat))), ((2 : Nat), Blk.row kb gb ((5 : Nat)) ((71 : Nat))), ((3 : Nat), Blk.row kc gc
 ((6 : Nat)) ((74 : Nat))), ((4 : Nat), Blk.row kd gd ((12 : Nat)) ((66 : Nat))), ((5 : Nat), Blk.map ((0 : Nat)) mpa)])) else L55_5 x s0 ka ga kb gb kc gc kd gd mpa g m
 (IntKind.wrap IntKind.i64 (i29 + (1 : Int)))) else none) else L55_5 x s0 ka ga kb gb kc gc kd gd mpa g m (IntKind.wrap IntKind.i64 (i29 + (1 : Int)))))) else some (T.leaf (AV.c (C.d
 (D.v (Value.int IntKind.i64 (9 : Int)))), [((0 : Nat), Blk.cells [C.d (D.v (Value.string s0)), C.row ((1 : Nat)) ((1 : Nat)) ka, C.row ((2 : Nat)) ((5 : Nat)) kb, C.row ((3 : Nat))
 ((6 : Nat)) kc, C.row ((4 : Nat)) ((12 : Nat)) kd, C.mp ((5 : Nat))] ((157 : Nat))), ((1 : Nat), Blk.row ka ga ((1 : Nat)) ((9 : Nat))), ((2 : Nat), Blk.row kb gb ((5 : Nat)) ((71 :
 Nat))), ((3 : Nat), Blk.row kc gc ((6 : Nat)) ((74 : Nat))), ((4 : Nat), Blk.row kd gd ((12 : Nat)) ((66 : Nat))), ((5 : Nat), Blk.map ((0 : Nat)) mpa)]))) else none) else some
 (T.leaf (AV.c (C.d (D.v (Value.int IntKind.i64 (0 : Int)))), [((0 : Nat), Blk.cells [C.d (D.v (Value.string s0)), C.row ((1 : Nat)) ((1 : Nat)) ka, C.row ((2 : Nat)) ((5 : Nat)) kb,
 C.row ((3 : Nat)) ((6 : Nat)) kc, C.row ((4 : Nat)) ((12 : Nat)) kd, C.mp ((5 : Nat))] ((157 : Nat))), ((1 : Nat), Blk.row ka ga ((1 : Nat)) ((9 : Nat))), ((2 : Nat), Blk.row kb gb
 ((5 : Nat)) ((71 : Nat))), ((3 : Nat), Blk.row kc gc ((6 : Nat)) ((74 : Nat))), ((4 : Nat), Blk.row kd gd ((12 : Nat)) ((66 : Nat))), ((5 : Nat), Blk.map ((0 : Nat)) mpa)]))) := by kernel_rfl
noncomputable def o54 : Orc := Orc.cons 101 (inl Tryz.prog oWi na 1 Tryz.f101) oWi
noncomputable def ann54 : Ann := annOf []
theorem b54 : Tryz.f103.body = some (bodyOf Tryz.f103) := by kernel_rfl
set_option maxRecDepth 100000 in
theorem ev54 (x : SBay) (g : Nat) : callC Tryz.prog o54 ann54 g Tryz.f103 (bodyOf Tryz.f103) [aBay x] [] =
 (bif SBay.kind x == (3 : Int) then (bif decide (SBay.zr x ≥ (0 : Int)) then (bif decide (SBay.zr x ≤ (1000 : Int)) then (bif decide (SBay.zx x ≥ (1 : Int)) then (bif !decide
 (SBay.zx x ≤ (1000 : Int)) then some (T.leaf (AV.c (C.d (D.v (Value.bool false))), [])) else (bif SBay.vt x != (0 : Int) then some (T.leaf (AV.c (C.d (D.v (Value.bool false))), []))
 else (bif SBay.kind x == (1 : Int) then (bif decide (SBay.fin x ≥ (0 : Int)) then (bif decide (SBay.fin x ≤ (1 : Int)) then (bif decide (SBay.ct x ≥ (1 : Int)) then (bif decide
 (SBay.ct x ≤ (100 : Int)) then (bif decide (SBay.sat x ≥ (0 : Int)) then (bif decide (SBay.sat x ≤ (16383 : Int)) then (bif decide (SBay.travel x ≥ (1 : Int)) then some (T.leaf
 (AV.c (C.d (D.v (Value.bool (decide (SBay.travel x ≤ (6 : Int)))))), [])) else some (T.leaf (AV.c (C.d (D.v (Value.bool false))), []))) else some (T.leaf (AV.c (C.d (D.v (Value.bool
 false))), []))) else some (T.leaf (AV.c (C.d (D.v (Value.bool false))), []))) else some (T.leaf (AV.c (C.d (D.v (Value.bool false))), []))) else some (T.leaf (AV.c (C.d (D.v
 (Value.bool false))), []))) else some (T.leaf (AV.c (C.d (D.v (Value.bool false))), []))) else some (T.leaf (AV.c (C.d (D.v (Value.bool false))), []))) else (bif decide (SBay.fin x
 ≥ (0 : Int)) then (bif decide (SBay.fin x ≤ (0 : Int)) then (bif decide (SBay.ct x ≥ (1 : Int)) then (bif decide (SBay.ct x ≤ (100 : Int)) then (bif decide (SBay.sat x ≥ (0 : Int))
 then (bif decide (SBay.sat x ≤ (16383 : Int)) then (bif decide (SBay.travel x ≥ (1 : Int)) then some (T.leaf (AV.c (C.d (D.v (Value.bool (decide (SBay.travel x ≤ (6 : Int)))))),
 [])) else some (T.leaf (AV.c (C.d (D.v (Value.bool false))), []))) else some (T.leaf (AV.c (C.d (D.v (Value.bool false))), []))) else some (T.leaf (AV.c (C.d (D.v (Value.bool
 false))), []))) else some (T.leaf (AV.c (C.d (D.v (Value.bool false))), []))) else some (T.leaf (AV.c (C.d (D.v (Value.bool false))), []))) else some (T.leaf (AV.c (C.d (D.v
 (Value.bool false))), []))) else some (T.leaf (AV.c (C.d (D.v (Value.bool false))), [])))))) else some (T.leaf (AV.c (C.d (D.v (Value.bool false))), []))) else some (T.leaf (AV.c
 (C.d (D.v (Value.bool false))), []))) else some (T.leaf (AV.c (C.d (D.v (Value.bool false))), []))) else (bif !(SBay.zr x == (0 : Int) && (SBay.zx x == (0 : Int) && true)) then some
 (T.leaf (AV.c (C.d (D.v (Value.bool false))), [])) else (bif decide (SBay.vt x ≥ (1 : Int)) then (bif !decide (SBay.vt x ≤ (10000 : Int)) then some (T.leaf (AV.c (C.d (D.v
 (Value.bool false))), [])) else (bif SBay.kind x == (1 : Int) then (bif decide (SBay.fin x ≥ (0 : Int)) then (bif decide (SBay.fin x ≤ (1 : Int)) then (bif decide (SBay.ct x ≥ (1 :
 Int)) then (bif decide (SBay.ct x ≤ (100 : Int)) then (bif decide (SBay.sat x ≥ (0 : Int)) then (bif decide (SBay.sat x ≤ (16383 : Int)) then (bif decide (SBay.travel x ≥ (1 : Int))
 then some (T.leaf (AV.c (C.d (D.v (Value.bool (decide (SBay.travel x ≤ (6 : Int)))))), [])) else some (T.leaf (AV.c (C.d (D.v (Value.bool false))), []))) else some (T.leaf (AV.c
 (C.d (D.v (Value.bool false))), []))) else some (T.leaf (AV.c (C.d (D.v (Value.bool false))), []))) else some (T.leaf (AV.c (C.d (D.v (Value.bool false))), []))) else some (T.leaf
 (AV.c (C.d (D.v (Value.bool false))), []))) else some (T.leaf (AV.c (C.d (D.v (Value.bool false))), []))) else some (T.leaf (AV.c (C.d (D.v (Value.bool false))), []))) else (bif
 decide (SBay.fin x ≥ (0 : Int)) then (bif decide (SBay.fin x ≤ (0 : Int)) then (bif decide (SBay.ct x ≥ (1 : Int)) then (bif decide (SBay.ct x ≤ (100 : Int)) then (bif decide
 (SBay.sat x ≥ (0 : Int)) then (bif decide (SBay.sat x ≤ (16383 : Int)) then (bif decide (SBay.travel x ≥ (1 : Int)) then some (T.leaf (AV.c (C.d (D.v (Value.bool (decide
 (SBay.travel x ≤ (6 : Int)))))), [])) else some (T.leaf (AV.c (C.d (D.v (Value.bool false))), []))) else some (T.leaf (AV.c (C.d (D.v (Value.bool false))), []))) else some (T.leaf
 (AV.c (C.d (D.v (Value.bool false))), []))) else some (T.leaf (AV.c (C.d (D.v (Value.bool false))), []))) else some (T.leaf (AV.c (C.d (D.v (Value.bool false))), []))) else some
 (T.leaf (AV.c (C.d (D.v (Value.bool false))), []))) else some (T.leaf (AV.c (C.d (D.v (Value.bool false))), []))))) else some (T.leaf (AV.c (C.d (D.v (Value.bool false))), []))))) := by kernel_rfl
def d54 : Dec (List AV × Hp) ((RBay × Unit) × Unit) := .pair (.cons (.agg bayD) .nil) .nil
noncomputable def oRa (nk : ByteArray → Bool) (okr rg : RBay → Bool) : Orc := Orc.cons 103 (ansD d54 (fun a => okr a.1.1) (fun a => vB (rg a.1.1)) fun _ => []) (oIm nk)
noncomputable def o33 (nk : ByteArray → Bool) (okr rg : RBay → Bool) (ok : (Unit × RBay × Unit) × A5 → Bool) (lk : (Unit × RBay × Unit) × A5 → Int) : Orc := Orc.cons 104 (ansD d55 ok (fun a => vI (lk a)) (fun a => (d55.enc a).2)) (oRa nk okr rg)
noncomputable def ann33 : Ann := annOf [(18, ⟨[3, 50, 0, 51, 52], []⟩)]
noncomputable def L33_18 (nk : ByteArray → Bool) (okr rg : RBay → Bool) (ok : (Unit × RBay × Unit) × A5 → Bool) (lk : (Unit × RBay × Unit) × A5 → Int) (x : SBay) (s0 : ByteArray) (ka : Nat) (ga : Nat → List D) (kb : Nat) (gb : Nat → List D) (kc : Nat) (gc : Nat → List D) (bs : List SBay) (mpa : List (Value × Value)) (g m : Nat) (i52 : Int) := LK Tryz.prog (o33 nk okr rg ok lk) ann33 (List.length (α := Nat × Blk) [(0, .cells [.d (dS s0), .row 1 1 ka, .row 2 5 kb, .row 3 6 kc, .row 4 12 bs.length, .mp 5] 157), (1, .row ka ga 1 9), (2, .row kb gb 5 71), (3, .row kc gc 6 74), (4, .row bs.length (fun i => bayC (bs.getD i bay0)) 12 66), (5, .map 0 mpa)]) g Tryz.f59 18 m ⟨frm [(0, AV.c (C.ptr 0 0)), (3, AV.c (C.ptr 6 0)), (50, AV.c (C.row 4 12 (List.length bs))), (51, AV.c (C.d (D.v (Value.int IntKind.i64 (↑(List.length bs) : Int))))), (52, AV.c (C.d (D.v (Value.int IntKind.i64 i52))))] 0 Tryz.f59.ntmps, [(0, Blk.cells [C.d (D.v (Value.string s0)), C.row 1 1 ka, C.row 2 5 kb, C.row 3 6 kc, C.row 4 12 (List.length bs), C.mp 5] 157), (1, Blk.row ka ga 1 9), (2, Blk.row kb gb 5 71), (3, Blk.row kc gc 6 74), (4, Blk.row (List.length bs) (fun i => bayC (List.getD bs i bay0)) 12 66), (5, Blk.map 0 mpa), (6, Blk.cells [C.d (D.v (Value.string (SBay.name x))), C.d (D.v (Value.int IntKind.i64 (SBay.kind x))), C.d (D.v (Value.int IntKind.i64 (SBay.off x))), C.d (D.v (Value.int IntKind.i64 (SBay.fin x))), C.d (D.v (Value.int IntKind.i64 (SBay.zr x))), C.d (D.v (Value.int IntKind.i64 (SBay.zx x))), C.d (D.sl 2 (List.length (SBay.links x)) fun i => linkC (List.getD (SBay.links x) i link0)), C.d (D.v (Value.bool (SBay.closed x))), C.d (D.v (Value.int IntKind.i64 (SBay.ct x))), C.d (D.v (Value.int IntKind.i64 (SBay.vt x))), C.d (D.v (Value.int IntKind.i64 (SBay.sat x))), C.d (D.v (Value.int IntKind.i64 (SBay.travel x)))] 66)], 7⟩
theorem b33 : Tryz.f59.body = some (bodyOf Tryz.f59) := by kernel_rfl
set_option maxRecDepth 100000 in
theorem ev33 (nk : ByteArray → Bool) (okr rg : RBay → Bool) (ok : (Unit × RBay × Unit) × A5 → Bool) (lk : (Unit × RBay × Unit) × A5 → Int) (x : SBay) (s0 : ByteArray) (ka : Nat) (ga : Nat → List D) (kb : Nat) (gb : Nat → List D) (kc : Nat) (gc : Nat → List D) (bs : List SBay) (mpa : List (Value × Value)) (g : Nat) : callC Tryz.prog (o33 nk okr rg ok lk) ann33 g Tryz.f59 (bodyOf Tryz.f59) [.c (.ptr 0 0), aBay x] [(0, .cells [.d (dS s0), .row 1 1 ka, .row 2 5 kb, .row 3 6 kc, .row 4 12 bs.length, .mp 5] 157), (1, .row ka ga 1 9), (2, .row kb gb 5 71), (3, .row kc gc 6 74), (4, .row bs.length (fun i => bayC (bs.getD i bay0)) 12 66), (5, .map 0 mpa)] =
 (bif !nk (SBay.name x) then some (T.leaf (AV.c (C.d (D.v (Value.int IntKind.i64 (7 : Int)))), [((0 : Nat), Blk.cells [C.d (D.v (Value.string s0)), C.row ((1 : Nat)) ((1 : Nat)) ka,
 C.row ((2 : Nat)) ((5 : Nat)) kb, C.row ((3 : Nat)) ((6 : Nat)) kc, C.row ((4 : Nat)) ((12 : Nat)) (List.length bs), C.mp ((5 : Nat))] ((157 : Nat))), ((1 : Nat), Blk.row ka ga ((1
 : Nat)) ((9 : Nat))), ((2 : Nat), Blk.row kb gb ((5 : Nat)) ((71 : Nat))), ((3 : Nat), Blk.row kc gc ((6 : Nat)) ((74 : Nat))), ((4 : Nat), Blk.row (List.length bs) (fun i => bayC
 (List.getD bs i bay0)) ((12 : Nat)) ((66 : Nat))), ((5 : Nat), Blk.map ((0 : Nat)) mpa)])) else (bif boolOf (assoc mpa (Value.string (SBay.name x))) then some (T.leaf (AV.c (C.d
 (D.v (Value.int IntKind.i64 (8 : Int)))), [((0 : Nat), Blk.cells [C.d (D.v (Value.string s0)), C.row ((1 : Nat)) ((1 : Nat)) ka, C.row ((2 : Nat)) ((5 : Nat)) kb, C.row ((3 : Nat))
 ((6 : Nat)) kc, C.row ((4 : Nat)) ((12 : Nat)) (List.length bs), C.mp ((5 : Nat))] ((157 : Nat))), ((1 : Nat), Blk.row ka ga ((1 : Nat)) ((9 : Nat))), ((2 : Nat), Blk.row kb gb ((5
 : Nat)) ((71 : Nat))), ((3 : Nat), Blk.row kc gc ((6 : Nat)) ((74 : Nat))), ((4 : Nat), Blk.row (List.length bs) (fun i => bayC (List.getD bs i bay0)) ((12 : Nat)) ((66 : Nat))),
 ((5 : Nat), Blk.map ((0 : Nat)) mpa)])) else (bif SBay.kind x == (1 : Int) then (bif decide (SBay.off x ≥ (0 : Int)) then (bif !decide (SBay.off x ≤ IntKind.wrap IntKind.i64 ((↑kb :
 Int) - (1 : Int))) then some (T.leaf (AV.c (C.d (D.v (Value.int IntKind.i64 (9 : Int)))), [((0 : Nat), Blk.cells [C.d (D.v (Value.string s0)), C.row ((1 : Nat)) ((1 : Nat)) ka,
 C.row ((2 : Nat)) ((5 : Nat)) kb, C.row ((3 : Nat)) ((6 : Nat)) kc, C.row ((4 : Nat)) ((12 : Nat)) (List.length bs), C.mp ((5 : Nat))] ((157 : Nat))), ((1 : Nat), Blk.row ka ga ((1
 : Nat)) ((9 : Nat))), ((2 : Nat), Blk.row kb gb ((5 : Nat)) ((71 : Nat))), ((3 : Nat), Blk.row kc gc ((6 : Nat)) ((74 : Nat))), ((4 : Nat), Blk.row (List.length bs) (fun i => bayC
 (List.getD bs i bay0)) ((12 : Nat)) ((66 : Nat))), ((5 : Nat), Blk.map ((0 : Nat)) mpa)])) else (bif okr (SBay.name x, SBay.kind x, SBay.off x, SBay.fin x, SBay.zr x, SBay.zx x,
 linksD (SBay.links x), SBay.closed x, SBay.ct x, SBay.vt x, SBay.sat x, SBay.travel x, ()) then (bif !rg (SBay.name x, SBay.kind x, SBay.off x, SBay.fin x, SBay.zr x, SBay.zx x,
 linksD (SBay.links x), SBay.closed x, SBay.ct x, SBay.vt x, SBay.sat x, SBay.travel x, ()) then some (T.leaf (AV.c (C.d (D.v (Value.int IntKind.i64 (2 : Int)))), [((0 : Nat),
 Blk.cells [C.d (D.v (Value.string s0)), C.row ((1 : Nat)) ((1 : Nat)) ka, C.row ((2 : Nat)) ((5 : Nat)) kb, C.row ((3 : Nat)) ((6 : Nat)) kc, C.row ((4 : Nat)) ((12 : Nat))
 (List.length bs), C.mp ((5 : Nat))] ((157 : Nat))), ((1 : Nat), Blk.row ka ga ((1 : Nat)) ((9 : Nat))), ((2 : Nat), Blk.row kb gb ((5 : Nat)) ((71 : Nat))), ((3 : Nat), Blk.row kc
 gc ((6 : Nat)) ((74 : Nat))), ((4 : Nat), Blk.row (List.length bs) (fun i => bayC (List.getD bs i bay0)) ((12 : Nat)) ((66 : Nat))), ((5 : Nat), Blk.map ((0 : Nat)) mpa)])) else
 L33_18 nk okr rg ok lk x s0 ka ga kb gb kc gc bs mpa g g ((0 : Int))) else none)) else some (T.leaf (AV.c (C.d (D.v (Value.int IntKind.i64 (9 : Int)))), [((0 : Nat), Blk.cells [C.d
 (D.v (Value.string s0)), C.row ((1 : Nat)) ((1 : Nat)) ka, C.row ((2 : Nat)) ((5 : Nat)) kb, C.row ((3 : Nat)) ((6 : Nat)) kc, C.row ((4 : Nat)) ((12 : Nat)) (List.length bs), C.mp
 ((5 : Nat))] ((157 : Nat))), ((1 : Nat), Blk.row ka ga ((1 : Nat)) ((9 : Nat))), ((2 : Nat), Blk.row kb gb ((5 : Nat)) ((71 : Nat))), ((3 : Nat), Blk.row kc gc ((6 : Nat)) ((74 :
 Nat))), ((4 : Nat), Blk.row (List.length bs) (fun i => bayC (List.getD bs i bay0)) ((12 : Nat)) ((66 : Nat))), ((5 : Nat), Blk.map ((0 : Nat)) mpa)]))) else (bif SBay.kind x == (2 :
 Int) then (bif decide (SBay.off x ≥ (0 : Int)) then (bif !decide (SBay.off x ≤ IntKind.wrap IntKind.i64 ((↑kc : Int) - (1 : Int))) then some (T.leaf (AV.c (C.d (D.v (Value.int
 IntKind.i64 (9 : Int)))), [((0 : Nat), Blk.cells [C.d (D.v (Value.string s0)), C.row ((1 : Nat)) ((1 : Nat)) ka, C.row ((2 : Nat)) ((5 : Nat)) kb, C.row ((3 : Nat)) ((6 : Nat)) kc,
 C.row ((4 : Nat)) ((12 : Nat)) (List.length bs), C.mp ((5 : Nat))] ((157 : Nat))), ((1 : Nat), Blk.row ka ga ((1 : Nat)) ((9 : Nat))), ((2 : Nat), Blk.row kb gb ((5 : Nat)) ((71 :
 Nat))), ((3 : Nat), Blk.row kc gc ((6 : Nat)) ((74 : Nat))), ((4 : Nat), Blk.row (List.length bs) (fun i => bayC (List.getD bs i bay0)) ((12 : Nat)) ((66 : Nat))), ((5 : Nat),
 Blk.map ((0 : Nat)) mpa)])) else (bif okr (SBay.name x, SBay.kind x, SBay.off x, SBay.fin x, SBay.zr x, SBay.zx x, linksD (SBay.links x), SBay.closed x, SBay.ct x, SBay.vt x,
 SBay.sat x, SBay.travel x, ()) then (bif !rg (SBay.name x, SBay.kind x, SBay.off x, SBay.fin x, SBay.zr x, SBay.zx x, linksD (SBay.links x), SBay.closed x, SBay.ct x, SBay.vt x,
 SBay.sat x, SBay.travel x, ()) then some (T.leaf (AV.c (C.d (D.v (Value.int IntKind.i64 (2 : Int)))), [((0 : Nat), Blk.cells [C.d (D.v (Value.string s0)), C.row ((1 : Nat)) ((1 :
 Nat)) ka, C.row ((2 : Nat)) ((5 : Nat)) kb, C.row ((3 : Nat)) ((6 : Nat)) kc, C.row ((4 : Nat)) ((12 : Nat)) (List.length bs), C.mp ((5 : Nat))] ((157 : Nat))), ((1 : Nat), Blk.row
 ka ga ((1 : Nat)) ((9 : Nat))), ((2 : Nat), Blk.row kb gb ((5 : Nat)) ((71 : Nat))), ((3 : Nat), Blk.row kc gc ((6 : Nat)) ((74 : Nat))), ((4 : Nat), Blk.row (List.length bs) (fun i
 => bayC (List.getD bs i bay0)) ((12 : Nat)) ((66 : Nat))), ((5 : Nat), Blk.map ((0 : Nat)) mpa)])) else L33_18 nk okr rg ok lk x s0 ka ga kb gb kc gc bs mpa g g ((0 : Int))) else
 none)) else some (T.leaf (AV.c (C.d (D.v (Value.int IntKind.i64 (9 : Int)))), [((0 : Nat), Blk.cells [C.d (D.v (Value.string s0)), C.row ((1 : Nat)) ((1 : Nat)) ka, C.row ((2 :
 Nat)) ((5 : Nat)) kb, C.row ((3 : Nat)) ((6 : Nat)) kc, C.row ((4 : Nat)) ((12 : Nat)) (List.length bs), C.mp ((5 : Nat))] ((157 : Nat))), ((1 : Nat), Blk.row ka ga ((1 : Nat)) ((9
 : Nat))), ((2 : Nat), Blk.row kb gb ((5 : Nat)) ((71 : Nat))), ((3 : Nat), Blk.row kc gc ((6 : Nat)) ((74 : Nat))), ((4 : Nat), Blk.row (List.length bs) (fun i => bayC (List.getD bs
 i bay0)) ((12 : Nat)) ((66 : Nat))), ((5 : Nat), Blk.map ((0 : Nat)) mpa)]))) else (bif SBay.kind x == (3 : Int) then (bif decide (SBay.off x ≥ (0 : Int)) then (bif !decide
 (SBay.off x ≤ IntKind.wrap IntKind.i64 ((1 : Int) - (1 : Int))) then some (T.leaf (AV.c (C.d (D.v (Value.int IntKind.i64 (9 : Int)))), [((0 : Nat), Blk.cells [C.d (D.v (Value.string
 s0)), C.row ((1 : Nat)) ((1 : Nat)) ka, C.row ((2 : Nat)) ((5 : Nat)) kb, C.row ((3 : Nat)) ((6 : Nat)) kc, C.row ((4 : Nat)) ((12 : Nat)) (List.length bs), C.mp ((5 : Nat))] ((157
 : Nat))), ((1 : Nat), Blk.row ka ga ((1 : Nat)) ((9 : Nat))), ((2 : Nat), Blk.row kb gb ((5 : Nat)) ((71 : Nat))), ((3 : Nat), Blk.row kc gc ((6 : Nat)) ((74 : Nat))), ((4 : Nat),
 Blk.row (List.length bs) (fun i => bayC (List.getD bs i bay0)) ((12 : Nat)) ((66 : Nat))), ((5 : Nat), Blk.map ((0 : Nat)) mpa)])) else (bif okr (SBay.name x, SBay.kind x, SBay.off
 x, SBay.fin x, SBay.zr x, SBay.zx x, linksD (SBay.links x), SBay.closed x, SBay.ct x, SBay.vt x, SBay.sat x, SBay.travel x, ()) then (bif !rg (SBay.name x, SBay.kind x, SBay.off x,
 SBay.fin x, SBay.zr x, SBay.zx x, linksD (SBay.links x), SBay.closed x, SBay.ct x, SBay.vt x, SBay.sat x, SBay.travel x, ()) then some (T.leaf (AV.c (C.d (D.v (Value.int IntKind.i64
 (2 : Int)))), [((0 : Nat), Blk.cells [C.d (D.v (Value.string s0)), C.row ((1 : Nat)) ((1 : Nat)) ka, C.row ((2 : Nat)) ((5 : Nat)) kb, C.row ((3 : Nat)) ((6 : Nat)) kc, C.row ((4 :
 Nat)) ((12 : Nat)) (List.length bs), C.mp ((5 : Nat))] ((157 : Nat))), ((1 : Nat), Blk.row ka ga ((1 : Nat)) ((9 : Nat))), ((2 : Nat), Blk.row kb gb ((5 : Nat)) ((71 : Nat))), ((3 :
 Nat), Blk.row kc gc ((6 : Nat)) ((74 : Nat))), ((4 : Nat), Blk.row (List.length bs) (fun i => bayC (List.getD bs i bay0)) ((12 : Nat)) ((66 : Nat))), ((5 : Nat), Blk.map ((0 : Nat))
 mpa)])) else L33_18 nk okr rg ok lk x s0 ka ga kb gb kc gc bs mpa g g ((0 : Int))) else none)) else some (T.leaf (AV.c (C.d (D.v (Value.int IntKind.i64 (9 : Int)))), [((0 : Nat),
 Blk.cells [C.d (D.v (Value.string s0)), C.row ((1 : Nat)) ((1 : Nat)) ka, C.row ((2 : Nat)) ((5 : Nat)) kb, C.row ((3 : Nat)) ((6 : Nat)) kc, C.row ((4 : Nat)) ((12 : Nat))
 (List.length bs), C.mp ((5 : Nat))] ((157 : Nat))), ((1 : Nat), Blk.row ka ga ((1 : Nat)) ((9 : Nat))), ((2 : Nat), Blk.row kb gb ((5 : Nat)) ((71 : Nat))), ((3 : Nat), Blk.row kc
 gc ((6 : Nat)) ((74 : Nat))), ((4 : Nat), Blk.row (List.length bs) (fun i => bayC (List.getD bs i bay0)) ((12 : Nat)) ((66 : Nat))), ((5 : Nat), Blk.map ((0 : Nat)) mpa)]))) else
 some (T.leaf (AV.c (C.d (D.v (Value.int IntKind.i64 (10 : Int)))), [((0 : Nat), Blk.cells [C.d (D.v (Value.string s0)), C.row ((1 : Nat)) ((1 : Nat)) ka, C.row ((2 : Nat)) ((5 :
 Nat)) kb, C.row ((3 : Nat)) ((6 : Nat)) kc, C.row ((4 : Nat)) ((12 : Nat)) (List.length bs), C.mp ((5 : Nat))] ((157 : Nat))), ((1 : Nat), Blk.row ka ga ((1 : Nat)) ((9 : Nat))),
 ((2 : Nat), Blk.row kb gb ((5 : Nat)) ((71 : Nat))), ((3 : Nat), Blk.row kc gc ((6 : Nat)) ((74 : Nat))), ((4 : Nat), Blk.row (List.length bs) (fun i => bayC (List.getD bs i bay0))
 ((12 : Nat)) ((66 : Nat))), ((5 : Nat), Blk.map ((0 : Nat)) mpa)]))))))) := by kernel_rfl
set_option maxRecDepth 100000 in
theorem st33_18 (nk : ByteArray → Bool) (okr rg : RBay → Bool) (ok : (Unit × RBay × Unit) × A5 → Bool) (lk : (Unit × RBay × Unit) × A5 → Int) (x : SBay) (s0 : ByteArray) (ka : Nat) (ga : Nat → List D) (kb : Nat) (gb : Nat → List D) (kc : Nat) (gc : Nat → List D) (bs : List SBay) (mpa : List (Value × Value)) (g m : Nat) (i52 : Int) : L33_18 nk okr rg ok lk x s0 ka ga kb gb kc gc bs mpa g (m + 1) i52 =
 (bif decide (i52 < (↑(List.length bs) : Int)) then (bif decide ((0 : Int) ≤ i52) && decide (i52 < (↑(List.length bs) : Int)) then (bif SBay.kind x != (3 : Int) then (bif SBay.kind x
 == SBay.kind (List.getD bs (Int.toNat i52) bay0) then (bif SBay.off x == SBay.off (List.getD bs (Int.toNat i52) bay0) then (bif SBay.fin x == SBay.fin (List.getD bs (Int.toNat i52)
 bay0) then some (T.leaf (AV.c (C.d (D.v (Value.int IntKind.i64 (12 : Int)))), [((0 : Nat), Blk.cells [C.d (D.v (Value.string s0)), C.row ((1 : Nat)) ((1 : Nat)) ka, C.row ((2 :
 Nat)) ((5 : Nat)) kb, C.row ((3 : Nat)) ((6 : Nat)) kc, C.row ((4 : Nat)) ((12 : Nat)) (List.length bs), C.mp ((5 : Nat))] ((157 : Nat))), ((1 : Nat), Blk.row ka ga ((1 : Nat)) ((9
 : Nat))), ((2 : Nat), Blk.row kb gb ((5 : Nat)) ((71 : Nat))), ((3 : Nat), Blk.row kc gc ((6 : Nat)) ((74 : Nat))), ((4 : Nat), Blk.row (List.length bs) (fun i => bayC (List.getD bs
 i bay0)) ((12 : Nat)) ((66 : Nat))), ((5 : Nat), Blk.map ((0 : Nat)) mpa)])) else L33_18 nk okr rg ok lk x s0 ka ga kb gb kc gc bs mpa g m (IntKind.wrap IntKind.i64 (i52 + (1 :
 Int)))) else L33_18 nk okr rg ok lk x s0 ka ga kb gb kc gc bs mpa g m (IntKind.wrap IntKind.i64 (i52 + (1 : Int)))) else L33_18 nk okr rg ok lk x s0 ka ga kb gb kc gc bs mpa g m
 (IntKind.wrap IntKind.i64 (i52 + (1 : Int)))) else L33_18 nk okr rg ok lk x s0 ka ga kb gb kc gc bs mpa g m (IntKind.wrap IntKind.i64 (i52 + (1 : Int)))) else none) else (bif ok
 (((), (SBay.name x, SBay.kind x, SBay.off x, SBay.fin x, SBay.zr x, SBay.zx x, D.sl (2 : Nat) (List.length (SBay.links x)) fun i => linkC (List.getD (SBay.links x) i link0),
 SBay.closed x, SBay.ct x, SBay.vt x, SBay.sat x, SBay.travel x, ()), ()), (s0, ka, kb, kc, List.length bs, (), ()), (ka, ga), (kb, gb), (kc, gc), (List.length bs, fun i => bayC
 (List.getD bs i bay0)), mpa, ()) then (bif lk (((), (SBay.name x, SBay.kind x, SBay.off x, SBay.fin x, SBay.zr x, SBay.zx x, D.sl (2 : Nat) (List.length (SBay.links x)) fun i =>
 linkC (List.getD (SBay.links x) i link0), SBay.closed x, SBay.ct x, SBay.vt x, SBay.sat x, SBay.travel x, ()), ()), (s0, ka, kb, kc, List.length bs, (), ()), (ka, ga), (kb, gb),
 (kc, gc), (List.length bs, fun i => bayC (List.getD bs i bay0)), mpa, ()) != (0 : Int) then some (T.leaf (AV.c (C.d (D.v (Value.int IntKind.i64 (lk (((), (SBay.name x, SBay.kind x,
 SBay.off x, SBay.fin x, SBay.zr x, SBay.zx x, D.sl (2 : Nat) (List.length (SBay.links x)) fun i => linkC (List.getD (SBay.links x) i link0), SBay.closed x, SBay.ct x, SBay.vt x,
 SBay.sat x, SBay.travel x, ()), ()), (s0, ka, kb, kc, List.length bs, (), ()), (ka, ga), (kb, gb), (kc, gc), (List.length bs, fun i => bayC (List.getD bs i bay0)), mpa, ()))))),
 [((0 : Nat), Blk.cells [C.d (D.v (Value.string s0)), C.row ((1 : Nat)) ((1 : Nat)) ka, C.row ((2 : Nat)) ((5 : Nat)) kb, C.row ((3 : Nat)) ((6 : Nat)) kc, C.row ((4 : Nat)) ((12 :
 Nat)) (List.length bs), C.mp ((5 : Nat))] ((157 : Nat))), ((1 : Nat), Blk.row ka ga ((1 : Nat)) ((9 : Nat))), ((2 : Nat), Blk.row kb gb ((5 : Nat)) ((71 : Nat))), ((3 : Nat),
 Blk.row kc gc ((6 : Nat)) ((74 : Nat))), ((4 : Nat), Blk.row (List.length bs) (fun i => bayC (List.getD bs i bay0)) ((12 : Nat)) ((66 : Nat))), ((5 : Nat), Blk.map ((0 : Nat))
 (Prod.fst (Prod.snd (Prod.snd (Prod.snd (Prod.snd (Prod.snd (Prod.snd (((), (SBay.name x, SBay.kind x, SBay.off x, SBay.fin x, SBay.zr x, SBay.zx x, D.sl (2 : Nat) (List.length
 (SBay.links x)) fun i => linkC (List.getD (SBay.links x) i link0), SBay.closed x, SBay.ct x, SBay.vt x, SBay.sat x, SBay.travel x, ()), ()), (s0, ka, kb, kc, List.length bs, (),
 ()), (ka, ga), (kb, gb), (kc, gc), (List.length bs, fun i => bayC (List.getD bs i bay0)), mpa, ())))))))))])) else (bif decide ((List.length bs + (1 : Nat)) * (120 : Nat) ≤
 (140737488355328 : Nat)) && decide (List.length bs + (1 : Nat) ≤ (9223372036854775807 : Nat)) then some (T.leaf (AV.c (C.d (D.v (Value.int IntKind.i64 (0 : Int)))), [((0 : Nat),
 Blk.cells [C.d (D.v (Value.string s0)), C.row ((1 : Nat)) ((1 : Nat)) ka, C.row ((2 : Nat)) ((5 : Nat)) kb, C.row ((3 : Nat)) ((6 : Nat)) kc, C.row ((6 : Nat)) ((12 : Nat))
 (List.length bs + (1 : Nat)), C.mp ((5 : Nat))] ((157 : Nat))), ((1 : Nat), Blk.row ka ga ((1 : Nat)) ((9 : Nat))), ((2 : Nat), Blk.row kb gb ((5 : Nat)) ((71 : Nat))), ((3 : Nat),
 Blk.row kc gc ((6 : Nat)) ((74 : Nat))), ((4 : Nat), Blk.dead), ((5 : Nat), Blk.map ((0 : Nat)) ((Value.string (SBay.name x), Value.bool true) :: Prod.fst (Prod.snd (Prod.snd
 (Prod.snd (Prod.snd (Prod.snd (Prod.snd (((), (SBay.name x, SBay.kind x, SBay.off x, SBay.fin x, SBay.zr x, SBay.zx x, D.sl (2 : Nat) (List.length (SBay.links x)) fun i => linkC
 (List.getD (SBay.links x) i link0), SBay.closed x, SBay.ct x, SBay.vt x, SBay.sat x, SBay.travel x, ()), ()), (s0, ka, kb, kc, List.length bs, (), ()), (ka, ga), (kb, gb), (kc, gc),
 (List.length bs, fun i => bayC (List.getD bs i bay0)), mpa, ()))))))))), ((6 : Nat), Blk.row (List.length bs + (1 : Nat)) (appF (List.length bs) (fun i => bayC (List.getD bs i
 bay0)) (chunk [D.v (Value.string (SBay.name x)), D.v (Value.int IntKind.i64 (SBay.kind x)), D.v (Value.int IntKind.i64 (SBay.off x)), D.v (Value.int IntKind.i64 (SBay.fin x)), D.v
 (Value.int IntKind.i64 (SBay.zr x)), D.v (Value.int IntKind.i64 (SBay.zx x)), D.sl (2 : Nat) (List.length (SBay.links x)) fun i => linkC (List.getD (SBay.links x) i link0), D.v
 (Value.bool (SBay.closed x)), D.v (Value.int IntKind.i64 (SBay.ct x)), D.v (Value.int IntKind.i64 (SBay.vt x)), D.v (Value.int IntKind.i64 (SBay.sat x)), D.v (Value.int IntKind.i64
 (SBay.travel x))] ((11 : Nat) + (1 : Nat)))) ((12 : Nat)) ((66 : Nat)))])) else none)) else none)) := by kernel_rfl
noncomputable def h33 (cn : Nat → (Nat → List D) → (Nat → List D)) (bc : RBay → List D) (a : (Unit × RBay × Unit) × A5) : Hp := [(0, .cells [.d (dS a.2.1.1), .row 1 1 a.2.2.1.1, .row 2 5 a.2.2.2.1.1, .row 3 6 a.2.2.2.2.1.1, .row 6 12 (a.2.2.2.2.2.1.1 + 1), .mp 5] 157), (1, .row a.2.2.1.1 a.2.2.1.2 1 9), (2, .row a.2.2.2.1.1 a.2.2.2.1.2 5 71), (3, .row a.2.2.2.2.1.1 a.2.2.2.2.1.2 6 74), (4, .dead), (5, .map 0 ((.string a.1.2.1.1, .bool true) :: a.2.2.2.2.2.2.1)), (6, .row (a.2.2.2.2.2.1.1 + 1) (appF a.2.2.2.2.2.1.1 (cn a.2.2.2.2.2.1.1 a.2.2.2.2.2.1.2) (chunk (bc a.1.2.1) 12)) 12 66)]
noncomputable def h33e (cn : Nat → (Nat → List D) → (Nat → List D)) (a : (Unit × RBay × Unit) × A5) : Hp := [(0, .cells [.d (dS a.2.1.1), .row 1 1 a.2.2.1.1, .row 2 5 a.2.2.2.1.1, .row 3 6 a.2.2.2.2.1.1, .row 4 12 a.2.2.2.2.2.1.1, .mp 5] 157), (1, .row a.2.2.1.1 a.2.2.1.2 1 9), (2, .row a.2.2.2.1.1 a.2.2.2.1.2 5 71), (3, .row a.2.2.2.2.1.1 a.2.2.2.2.1.2 6 74), (4, .row a.2.2.2.2.2.1.1 (cn a.2.2.2.2.2.1.1 a.2.2.2.2.2.1.2) 12 66), (5, .map 0 a.2.2.2.2.2.2.1)]
noncomputable def o32 (cn : Nat → (Nat → List D) → (Nat → List D)) (bc : RBay → List D) (ok : (Unit × RBay × Unit) × A5 → Bool) (er : (Unit × RBay × Unit) × A5 → Int) : Orc := Orc.cons 59 (ansB d55 ok (fun a => er a == 0) (fun _ => vI 0) (h33 cn bc) (fun a => vI (er a)) (h33e cn)) Orc.nil
noncomputable def ann32 : Ann := annOf [(2, ⟨[1, 8, 9, 10], [(1, 4, 12, 66)]⟩)]
noncomputable def L32_2 (cn : Nat → (Nat → List D) → (Nat → List D)) (bc : RBay → List D) (ok : (Unit × RBay × Unit) × A5 → Bool) (er : (Unit × RBay × Unit) × A5 → Int) (l : List SBay) (s0 : ByteArray) (ka : Nat) (ga : Nat → List D) (kb : Nat) (gb : Nat → List D) (kc : Nat) (gc : Nat → List D) (mpa : List (Value × Value)) (g m : Nat) (l4 : List (Value × Value)) (n5 : Nat) (f5 : Nat → List D) (i10 : Int) := LK Tryz.prog (o32 cn bc ok er) ann32 (List.length (α := Nat × Blk) [(0, .cells [.d (dS s0), .row 1 1 ka, .row 2 5 kb, .row 3 6 kc, nilC, .mp 4] 157), (1, .row ka ga 1 9), (2, .row kb gb 5 71), (3, .row kc gc 6 74), (4, .map 0 mpa)]) g Tryz.f58 2 m ⟨frm [(1, AV.c (C.fn 59 [Rf.ptr 0 0] [])), (8, AV.c (C.d (D.sl 12 (List.length l) fun i => bayC (List.getD l i bay0)))), (9, AV.c (C.d (D.v (Value.int IntKind.i64 (↑(List.length l) : Int))))), (10, AV.c (C.d (D.v (Value.int IntKind.i64 i10))))] 0 Tryz.f58.ntmps, [(0, Blk.cells [C.d (D.v (Value.string s0)), C.row 1 1 ka, C.row 2 5 kb, C.row 3 6 kc, C.row 5 12 n5, C.mp 4] 157), (1, Blk.row ka ga 1 9), (2, Blk.row kb gb 5 71), (3, Blk.row kc gc 6 74), (4, Blk.map 0 l4), (5, Blk.row n5 f5 12 66)], 6⟩
theorem b32 : Tryz.f58.body = some (bodyOf Tryz.f58) := by kernel_rfl
set_option maxRecDepth 100000 in
theorem ev32 (cn : Nat → (Nat → List D) → (Nat → List D)) (bc : RBay → List D) (ok : (Unit × RBay × Unit) × A5 → Bool) (er : (Unit × RBay × Unit) × A5 → Int) (l : List SBay) (s0 : ByteArray) (ka : Nat) (ga : Nat → List D) (kb : Nat) (gb : Nat → List D) (kc : Nat) (gc : Nat → List D) (mpa : List (Value × Value)) (g : Nat) : callC Tryz.prog (o32 cn bc ok er) ann32 g Tryz.f58 (bodyOf Tryz.f58) [.c (.d (baysD l)), fnOf 59] [(0, .cells [.d (dS s0), .row 1 1 ka, .row 2 5 kb, .row 3 6 kc, nilC, .mp 4] 157), (1, .row ka ga 1 9), (2, .row kb gb 5 71), (3, .row kc gc 6 74), (4, .map 0 mpa)] =
 L32_2 cn bc ok er l s0 ka ga kb gb kc gc mpa g g mpa (0 : Nat) (fun x => []) ((0 : Int)) := by kernel_rfl
set_option maxRecDepth 100000 in
theorem st32_2 (cn : Nat → (Nat → List D) → (Nat → List D)) (bc : RBay → List D) (ok : (Unit × RBay × Unit) × A5 → Bool) (er : (Unit × RBay × Unit) × A5 → Int) (l : List SBay) (s0 : ByteArray) (ka : Nat) (ga : Nat → List D) (kb : Nat) (gb : Nat → List D) (kc : Nat) (gc : Nat → List D) (mpa : List (Value × Value)) (g m : Nat) (l4 : List (Value × Value)) (n5 : Nat) (f5 : Nat → List D) (i10 : Int) : L32_2 cn bc ok er l s0 ka ga kb gb kc gc mpa g (m + 1) l4 n5 f5 i10 =
 (bif decide (i10 < (↑(List.length l) : Int)) then (bif decide ((0 : Int) ≤ i10) && decide (i10 < (↑(List.length l) : Int)) then (bif ok (((), (SBay.name (List.getD l (Int.toNat i10)
 bay0), SBay.kind (List.getD l (Int.toNat i10) bay0), SBay.off (List.getD l (Int.toNat i10) bay0), SBay.fin (List.getD l (Int.toNat i10) bay0), SBay.zr (List.getD l (Int.toNat i10)
 bay0), SBay.zx (List.getD l (Int.toNat i10) bay0), linksD (SBay.links (List.getD l (Int.toNat i10) bay0)), SBay.closed (List.getD l (Int.toNat i10) bay0), SBay.ct (List.getD l
 (Int.toNat i10) bay0), SBay.vt (List.getD l (Int.toNat i10) bay0), SBay.sat (List.getD l (Int.toNat i10) bay0), SBay.travel (List.getD l (Int.toNat i10) bay0), ()), ()), (s0, ka,
 kb, kc, n5, (), ()), (ka, ga), (kb, gb), (kc, gc), (n5, f5), l4, ()) then (bif er (((), (SBay.name (List.getD l (Int.toNat i10) bay0), SBay.kind (List.getD l (Int.toNat i10) bay0),
 SBay.off (List.getD l (Int.toNat i10) bay0), SBay.fin (List.getD l (Int.toNat i10) bay0), SBay.zr (List.getD l (Int.toNat i10) bay0), SBay.zx (List.getD l (Int.toNat i10) bay0),
 linksD (SBay.links (List.getD l (Int.toNat i10) bay0)), SBay.closed (List.getD l (Int.toNat i10) bay0), SBay.ct (List.getD l (Int.toNat i10) bay0), SBay.vt (List.getD l (Int.toNat
 i10) bay0), SBay.sat (List.getD l (Int.toNat i10) bay0), SBay.travel (List.getD l (Int.toNat i10) bay0), ()), ()), (s0, ka, kb, kc, n5, (), ()), (ka, ga), (kb, gb), (kc, gc), (n5,
 f5), l4, ()) == (0 : Int) then L32_2 cn bc ok er l s0 ka ga kb gb kc gc mpa g m ((Value.string (SBay.name (List.getD l (Int.toNat i10) bay0)), Value.bool true) :: Prod.fst (Prod.snd
 (Prod.snd (Prod.snd (Prod.snd (Prod.snd (Prod.snd (((), (SBay.name (List.getD l (Int.toNat i10) bay0), SBay.kind (List.getD l (Int.toNat i10) bay0), SBay.off (List.getD l (Int.toNat
 i10) bay0), SBay.fin (List.getD l (Int.toNat i10) bay0), SBay.zr (List.getD l (Int.toNat i10) bay0), SBay.zx (List.getD l (Int.toNat i10) bay0), linksD (SBay.links (List.getD l
 (Int.toNat i10) bay0)), SBay.closed (List.getD l (Int.toNat i10) bay0), SBay.ct (List.getD l (Int.toNat i10) bay0), SBay.vt (List.getD l (Int.toNat i10) bay0), SBay.sat (List.getD l
 (Int.toNat i10) bay0), SBay.travel (List.getD l (Int.toNat i10) bay0), ()), ()), (s0, ka, kb, kc, n5, (), ()), (ka, ga), (kb, gb), (kc, gc), (n5, f5), l4, ())))))))) (n5 + (1 :
 Nat)) (appF n5 (cn n5 f5) (chunk (bc (SBay.name (List.getD l (Int.toNat i10) bay0), SBay.kind (List.getD l (Int.toNat i10) bay0), SBay.off (List.getD l (Int.toNat i10) bay0),
 SBay.fin (List.getD l (Int.toNat i10) bay0), SBay.zr (List.getD l (Int.toNat i10) bay0), SBay.zx (List.getD l (Int.toNat i10) bay0), linksD (SBay.links (List.getD l (Int.toNat i10)
 bay0)), SBay.closed (List.getD l (Int.toNat i10) bay0), SBay.ct (List.getD l (Int.toNat i10) bay0), SBay.vt (List.getD l (Int.toNat i10) bay0), SBay.sat (List.getD l (Int.toNat i10)
 bay0), SBay.travel (List.getD l (Int.toNat i10) bay0), ())) (12 : Nat))) (IntKind.wrap IntKind.i64 (i10 + (1 : Int))) else (bif er (((), (SBay.name (List.getD l (Int.toNat i10)
 bay0), SBay.kind (List.getD l (Int.toNat i10) bay0), SBay.off (List.getD l (Int.toNat i10) bay0), SBay.fin (List.getD l (Int.toNat i10) bay0), SBay.zr (List.getD l (Int.toNat i10)
 bay0), SBay.zx (List.getD l (Int.toNat i10) bay0), linksD (SBay.links (List.getD l (Int.toNat i10) bay0)), SBay.closed (List.getD l (Int.toNat i10) bay0), SBay.ct (List.getD l
 (Int.toNat i10) bay0), SBay.vt (List.getD l (Int.toNat i10) bay0), SBay.sat (List.getD l (Int.toNat i10) bay0), SBay.travel (List.getD l (Int.toNat i10) bay0), ()), ()), (s0, ka,
 kb, kc, n5, (), ()), (ka, ga), (kb, gb), (kc, gc), (n5, f5), l4, ()) != (0 : Int) then some (T.leaf (AV.c (C.d (D.v (Value.int IntKind.i64 (er (((), (SBay.name (List.getD l
 (Int.toNat i10) bay0), SBay.kind (List.getD l (Int.toNat i10) bay0), SBay.off (List.getD l (Int.toNat i10) bay0), SBay.fin (List.getD l (Int.toNat i10) bay0), SBay.zr (List.getD l
 (Int.toNat i10) bay0), SBay.zx (List.getD l (Int.toNat i10) bay0), linksD (SBay.links (List.getD l (Int.toNat i10) bay0)), SBay.closed (List.getD l (Int.toNat i10) bay0), SBay.ct
 (List.getD l (Int.toNat i10) bay0), SBay.vt (List.getD l (Int.toNat i10) bay0), SBay.sat (List.getD l (Int.toNat i10) bay0), SBay.travel (List.getD l (Int.toNat i10) bay0), ()),
 ()), (s0, ka, kb, kc, n5, (), ()), (ka, ga), (kb, gb), (kc, gc), (n5, f5), l4, ()))))), [((0 : Nat), Blk.cells [C.d (D.v (Value.string s0)), C.row ((1 : Nat)) ((1 : Nat)) ka, C.row
 ((2 : Nat)) ((5 : Nat)) kb, C.row ((3 : Nat)) ((6 : Nat)) kc, C.row ((5 : Nat)) ((12 : Nat)) n5, C.mp ((4 : Nat))] ((157 : Nat))), ((1 : Nat), Blk.row ka ga ((1 : Nat)) ((9 :
 Nat))), ((2 : Nat), Blk.row kb gb ((5 : Nat)) ((71 : Nat))), ((3 : Nat), Blk.row kc gc ((6 : Nat)) ((74 : Nat))), ((4 : Nat), Blk.map ((0 : Nat)) (Prod.fst (Prod.snd (Prod.snd
 (Prod.snd (Prod.snd (Prod.snd (Prod.snd (((), (SBay.name (List.getD l (Int.toNat i10) bay0), SBay.kind (List.getD l (Int.toNat i10) bay0), SBay.off (List.getD l (Int.toNat i10)
 bay0), SBay.fin (List.getD l (Int.toNat i10) bay0), SBay.zr (List.getD l (Int.toNat i10) bay0), SBay.zx (List.getD l (Int.toNat i10) bay0), linksD (SBay.links (List.getD l
 (Int.toNat i10) bay0)), SBay.closed (List.getD l (Int.toNat i10) bay0), SBay.ct (List.getD l (Int.toNat i10) bay0), SBay.vt (List.getD l (Int.toNat i10) bay0), SBay.sat (List.getD l
 (Int.toNat i10) bay0), SBay.travel (List.getD l (Int.toNat i10) bay0), ()), ()), (s0, ka, kb, kc, n5, (), ()), (ka, ga), (kb, gb), (kc, gc), (n5, f5), l4, ()))))))))), ((5 : Nat),
 Blk.row n5 (cn n5 f5) ((12 : Nat)) ((66 : Nat)))])) else L32_2 cn bc ok er l s0 ka ga kb gb kc gc mpa g m (Prod.fst (Prod.snd (Prod.snd (Prod.snd (Prod.snd (Prod.snd (Prod.snd (((),
 (SBay.name (List.getD l (Int.toNat i10) bay0), SBay.kind (List.getD l (Int.toNat i10) bay0), SBay.off (List.getD l (Int.toNat i10) bay0), SBay.fin (List.getD l (Int.toNat i10)
 bay0), SBay.zr (List.getD l (Int.toNat i10) bay0), SBay.zx (List.getD l (Int.toNat i10) bay0), linksD (SBay.links (List.getD l (Int.toNat i10) bay0)), SBay.closed (List.getD l
 (Int.toNat i10) bay0), SBay.ct (List.getD l (Int.toNat i10) bay0), SBay.vt (List.getD l (Int.toNat i10) bay0), SBay.sat (List.getD l (Int.toNat i10) bay0), SBay.travel (List.getD l
 (Int.toNat i10) bay0), ()), ()), (s0, ka, kb, kc, n5, (), ()), (ka, ga), (kb, gb), (kc, gc), (n5, f5), l4, ())))))))) n5 (cn n5 f5) (IntKind.wrap IntKind.i64 (i10 + (1 : Int)))))
 else none) else none) else some (T.leaf (AV.c (C.d (D.v (Value.int IntKind.i64 (0 : Int)))), [((0 : Nat), Blk.cells [C.d (D.v (Value.string s0)), C.row ((1 : Nat)) ((1 : Nat)) ka,
 C.row ((2 : Nat)) ((5 : Nat)) kb, C.row ((3 : Nat)) ((6 : Nat)) kc, C.row ((5 : Nat)) ((12 : Nat)) n5, C.mp ((4 : Nat))] ((157 : Nat))), ((1 : Nat), Blk.row ka ga ((1 : Nat)) ((9 :
 Nat))), ((2 : Nat), Blk.row kb gb ((5 : Nat)) ((71 : Nat))), ((3 : Nat), Blk.row kc gc ((6 : Nat)) ((74 : Nat))), ((4 : Nat), Blk.map ((0 : Nat)) l4), ((5 : Nat), Blk.row n5 f5 ((12
 : Nat)) ((66 : Nat)))]))) := by kernel_rfl
end Go.Proofs.YtngoglhlhlfknaaGreat.st
