/-
  An evaluator of Go code on abstract values, proved sound, and what it computes of the functions that the statement reaches (part 4). No condition.
-/
import Derived.Test.YtngoglhlhlfknaaGreatQ3
import Derived.Test.YtngoglhlhlfknaaGreatProg
import Derived.KernelRfl
import Derived.Laws.RangeAny
set_option maxRecDepth 100000
namespace Go.Proofs.YtngoglhlhlfknaaGreat.st
open Go.RowKit Go.Eb
abbrev A5 := (ByteArray × Nat × Nat × Nat × Nat × Unit × Unit) × (Nat × (Nat → List D)) × (Nat × (Nat → List D)) × (Nat × (Nat → List D)) × (Nat × (Nat → List D)) × (List (Value × Value)) × Unit
def dH5 : Dec Hp A5 := .cons (.blk 0 (.cells 157 (.cons .str (.cons (.row 1 1) (.cons (.row 2 5) (.cons (.row 3 6) (.cons (.row 4 12) (.cons (.mp 5) .nil)))))))) (.cons (.blk 1 (.rowB 1 9)) (.cons (.blk 2 (.rowB 5 71)) (.cons (.blk 3 (.rowB 6 74)) (.cons (.blk 4 (.rowB 12 66)) (.cons (.blk 5 (.mapB 0)) .nil)))))
def dBay : Dec (List AV) (Unit × RBay × Unit) := .cons (.c (.ptr 0 0)) (.cons (.agg bayD) .nil)
def d55 : Dec (List AV × Hp) ((Unit × RBay × Unit) × A5) := .pair dBay dH5
noncomputable def o55 : Orc := oWi
noncomputable def ann55 : Ann := annOf [(5, ⟨[3, 0, 27, 28, 29], []⟩)]
noncomputable def L55_5 (x : SBay) (s0 : ByteArray) (ka : Nat) (ga : Nat → List D) (kb : Nat) (gb : Nat → List D) (kc : Nat) (gc : Nat → List D) (kd : Nat) (gd : Nat → List D) (mpa : List (Value × Value)) (g m : Nat) (i29 : Int) := LK Tryz.prog o55 ann55 (List.length (α := Nat × Blk) [(0, .cells [.d (dS s0), .row 1 1 ka, .row 2 5 kb, .row 3 6 kc, .row 4 12 kd, .mp 5] 157), (1, .row ka ga 1 9), (2, .row kb gb 5 71), (3, .row kc gc 6 74), (4, .row kd gd 12 66), (5, .map 0 mpa)]) g Tryz.f104 5 m ⟨frm [(0, .c (.ptr 0 0)), (3, .c (.ptr 6 0)), (27, .c (.d (D.sl 2 (List.length (SBay.links x)) fun i => linkC (List.getD (SBay.links x) i link0)))), (28, .c (.d (.v (.int .i64 (↑(List.length (SBay.links x)) : Int))))), (29, .c (.d (.v (.int .i64 i29))))] 0 Tryz.f104.ntmps, [(0, Blk.cells [.d (.v (.string s0)), C.row 1 1 ka, C.row 2 5 kb, C.row 3 6 kc, C.row 4 12 kd, C.mp 5] 157), (1, Blk.row ka ga 1 9), (2, Blk.row kb gb 5 71), (3, Blk.row kc gc 6 74), (4, Blk.row kd gd 12 66), (5, Blk.map 0 mpa), (6, Blk.cells [.d (.v (.string (SBay.name x))), .d (.v (.int .i64 (SBay.kind x))), .d (.v (.int .i64 (SBay.off x))), .d (.v (.int .i64 (SBay.fin x))), .d (.v (.int .i64 (SBay.zr x))), .d (.v (.int .i64 (SBay.zx x))), C.d (D.sl 2 (List.length (SBay.links x)) fun i => linkC (List.getD (SBay.links x) i link0)), .d (.v (.bool (SBay.closed x))), .d (.v (.int .i64 (SBay.ct x))), .d (.v (.int .i64 (SBay.vt x))), .d (.v (.int .i64 (SBay.sat x))), .d (.v (.int .i64 (SBay.travel x)))] 66)], 7⟩
theorem b55 : Tryz.f104.body = some (bodyOf Tryz.f104) := by kernel_rfl
theorem ev55 (x : SBay) (s0 : ByteArray) (ka : Nat) (ga : Nat → List D) (kb : Nat) (gb : Nat → List D) (kc : Nat) (gc : Nat → List D) (kd : Nat) (gd : Nat → List D) (mpa : List (Value × Value)) (g : Nat) : callC Tryz.prog o55 ann55 g Tryz.f104 (bodyOf Tryz.f104) [.c (.ptr 0 0), aBay x] [(0, .cells [.d (dS s0), .row 1 1 ka, .row 2 5 kb, .row 3 6 kc, .row 4 12 kd, .mp 5] 157), (1, .row ka ga 1 9), (2, .row kb gb 5 71), (3, .row kc gc 6 74), (4, .row kd gd 12 66), (5, .map 0 mpa)] =
 (bif decide ((↑(List.length (SBay.links x)) : Int) < (1 : Int)) then some (T.leaf (AV.c (.d (.v (.int .i64 (3 : Int)))), [(0, Blk.cells [C.d (D.v (Value.string
 s0)), C.row (1) (1) ka, C.row (2) (5) kb, C.row (3) (6) kc, C.row (4) (12) kd, C.mp (5)] (157)), ((1
 : Nat), Blk.row ka ga (1) (9)), (2, Blk.row kb gb (5) (71)), (3, Blk.row kc gc (6) (74)), (4, Blk.row kd gd
 (12) (66)), (5, Blk.map (0) mpa)])) else (bif decide ((↑(List.length (SBay.links x)) : Int) > (2 : Int)) then some (T.leaf (AV.c (C.d (D.v (Value.int
 IntKind.i64 (3 : Int)))), [(0, Blk.cells [C.d (.v (.string s0)), C.row (1) (1) ka, C.row (2) (5) kb, C.row (3) (6) kc,
 C.row (4) (12) kd, C.mp (5)] (157)), (1, Blk.row ka ga (1) (9)), (2, Blk.row kb gb (5) (71)), ((3 :
 Nat), Blk.row kc gc (6) (74)), (4, Blk.row kd gd (12) (66)), (5, Blk.map (0) mpa)])) else (bif SBay.kind x == (3 : Int) then
 (bif (↑(List.length (SBay.links x)) : Int) != (2 : Int) then some (T.leaf (AV.c (.d (.v (.int .i64 (3 : Int)))), [(0, Blk.cells [C.d (.v (.string s0)),
 C.row (1) (1) ka, C.row (2) (5) kb, C.row (3) (6) kc, C.row (4) (12) kd, C.mp (5)] (157)), ((1 :
 Nat), Blk.row ka ga (1) (9)), (2, Blk.row kb gb (5) (71)), (3, Blk.row kc gc (6) (74)), (4, Blk.row kd gd
 (12) (66)), (5, Blk.map (0) mpa)])) else L55_5 x s0 ka ga kb gb kc gc kd gd mpa g g ((0 : Int))) else L55_5 x s0 ka ga kb gb kc gc kd gd mpa g g ((0
 : Int))))) := by kernel_rfl
theorem st55_5 (x : SBay) (s0 : ByteArray) (ka : Nat) (ga : Nat → List D) (kb : Nat) (gb : Nat → List D) (kc : Nat) (gc : Nat → List D) (kd : Nat) (gd : Nat → List D) (mpa : List (Value × Value)) (g m : Nat) (i29 : Int) : L55_5 x s0 ka ga kb gb kc gc kd gd mpa g (m + 1) i29 =
 (bif decide (i29 < (↑(List.length (SBay.links x)) : Int)) then (bif decide ((0 : Int) ≤ i29) && decide (i29 < (↑(List.length (SBay.links x)) : Int)) then (bif decide (SLink.bus
 (List.getD (SBay.links x) (Int.toNat i29) link0) ≥ (0 : Int)) then (bif !decide (SLink.bus (List.getD (SBay.links x) (Int.toNat i29) link0) ≤ IntKind.wrap .i64 ((↑ka : Int) -
 (1 : Int))) then some (T.leaf (AV.c (.d (.v (.int .i64 (9 : Int)))), [(0, Blk.cells [C.d (.v (.string s0)), C.row (1) (1) ka, C.row ((2 :
 Nat)) (5) kb, C.row (3) (6) kc, C.row (4) (12) kd, C.mp (5)] (157)), (1, Blk.row ka ga (1) (9)), ((2
 : Nat), Blk.row kb gb (5) (71)), (3, Blk.row kc gc (6) (74)), (4, Blk.row kd gd (12) (66)), (5, Blk.map ((0 :
 Nat)) mpa)])) else (bif SLink.pos (List.getD (SBay.links x) (Int.toNat i29) link0) != (1 : Int) then (bif SLink.pos (List.getD (SBay.links x) (Int.toNat i29) link0) != (0 : Int)
 then some (T.leaf (AV.c (.d (.v (.int .i64 (16 : Int)))), [(0, Blk.cells [C.d (.v (.string s0)), C.row (1) (1) ka, C.row (2) ((5
 : Nat)) kb, C.row (3) (6) kc, C.row (4) (12) kd, C.mp (5)] (157)), (1, Blk.row ka ga (1) (9)), (2,
 Blk.row kb gb (5) (71)), (3, Blk.row kc gc (6) (74)), (4, Blk.row kd gd (12) (66)), (5, Blk.map (0)
 mpa)])) else (bif SBay.kind x == (3 : Int) then some (T.leaf (AV.c (.d (.v (.int .i64 (16 : Int)))), [(0, Blk.cells [C.d (.v (.string s0)), C.row ((1 :
 Nat)) (1) ka, C.row (2) (5) kb, C.row (3) (6) kc, C.row (4) (12) kd, C.mp (5)] (157)), (1, Blk.row ka
 ga (1) (9)), (2, Blk.row kb gb (5) (71)), (3, Blk.row kc gc (6) (74)), (4, Blk.row kd gd (12) ((66 :
 Nat))), (5, Blk.map (0) mpa)])) else (bif decide (i29 > (0 : Int)) then (bif decide ((0 : Int) ≤ IntKind.wrap .i64 (i29 - (1 : Int))) && decide (IntKind.wrap
 IntKind.i64 (i29 - (1 : Int)) < (↑(List.length (SBay.links x)) : Int)) then (bif SLink.bus (List.getD (SBay.links x) (Int.toNat (IntKind.wrap .i64 (i29 - (1 : Int)))) link0)
 == SLink.bus (List.getD (SBay.links x) (Int.toNat i29) link0) then some (T.leaf (AV.c (.d (.v (.int .i64 (12 : Int)))), [(0, Blk.cells [C.d (D.v (Value.string
 s0)), C.row (1) (1) ka, C.row (2) (5) kb, C.row (3) (6) kc, C.row (4) (12) kd, C.mp (5)] (157)), ((1
 : Nat), Blk.row ka ga (1) (9)), (2, Blk.row kb gb (5) (71)), (3, Blk.row kc gc (6) (74)), (4, Blk.row kd gd
 (12) (66)), (5, Blk.map (0) mpa)])) else L55_5 x s0 ka ga kb gb kc gc kd gd mpa g m (IntKind.wrap .i64 (i29 + (1 : Int)))) else none) else
 L55_5 x s0 ka ga kb gb kc gc kd gd mpa g m (IntKind.wrap .i64 (i29 + (1 : Int)))))) else (bif decide (i29 > (0 : Int)) then (bif decide ((0 : Int) ≤ IntKind.wrap .i64
 (i29 - (1 : Int))) && decide (IntKind.wrap .i64 (i29 - (1 : Int)) < (↑(List.length (SBay.links x)) : Int)) then (bif SLink.bus (List.getD (SBay.links x) (Int.toNat
 (IntKind.wrap .i64 (i29 - (1 : Int)))) link0) == SLink.bus (List.getD (SBay.links x) (Int.toNat i29) link0) then some (T.leaf (AV.c (.d (.v (.int .i64 (12 :
 Int)))), [(0, Blk.cells [C.d (.v (.string s0)), C.row (1) (1) ka, C.row (2) (5) kb, C.row (3) (6) kc, C.row (4)
 (12) kd, C.mp (5)] (157)), (1, Blk.row ka ga (1) (9)), (2, Blk.row kb gb (5) (71)), (3, Blk.row kc gc
 (6) (74)), (4, Blk.row kd gd (12) (66)), (5, Blk.map (0) mpa)])) else L55_5 x s0 ka ga kb gb kc gc kd gd mpa g m
 (IntKind.wrap .i64 (i29 + (1 : Int)))) else none) else L55_5 x s0 ka ga kb gb kc gc kd gd mpa g m (IntKind.wrap .i64 (i29 + (1 : Int)))))) else some (T.leaf (AV.c (C.d
 (D.v (.int .i64 (9 : Int)))), [(0, Blk.cells [C.d (.v (.string s0)), C.row (1) (1) ka, C.row (2) (5) kb, C.row (3)
 (6) kc, C.row (4) (12) kd, C.mp (5)] (157)), (1, Blk.row ka ga (1) (9)), (2, Blk.row kb gb (5) ((71 :
 Nat))), (3, Blk.row kc gc (6) (74)), (4, Blk.row kd gd (12) (66)), (5, Blk.map (0) mpa)]))) else none) else some
 (T.leaf (AV.c (.d (.v (.int .i64 (0 : Int)))), [(0, Blk.cells [C.d (.v (.string s0)), C.row (1) (1) ka, C.row (2) (5) kb,
 C.row (3) (6) kc, C.row (4) (12) kd, C.mp (5)] (157)), (1, Blk.row ka ga (1) (9)), (2, Blk.row kb gb
 (5) (71)), (3, Blk.row kc gc (6) (74)), (4, Blk.row kd gd (12) (66)), (5, Blk.map (0) mpa)]))) := by kernel_rfl
noncomputable def o54 : Orc := Orc.cons 101 (inl Tryz.prog oWi na 1 Tryz.f101) oWi
noncomputable def ann54 : Ann := annOf []
theorem b54 : Tryz.f103.body = some (bodyOf Tryz.f103) := by kernel_rfl
theorem ev54 (x : SBay) (g : Nat) : callC Tryz.prog o54 ann54 g Tryz.f103 (bodyOf Tryz.f103) [aBay x] [] =
 (bif SBay.kind x == (3 : Int) then (bif decide (SBay.zr x ≥ (0 : Int)) then (bif decide (SBay.zr x ≤ (1000 : Int)) then (bif decide (SBay.zx x ≥ (1 : Int)) then (bif !decide
 (SBay.zx x ≤ (1000 : Int)) then some (T.leaf (AV.c (.d (.v (.bool false))), [])) else (bif SBay.vt x != (0 : Int) then some (T.leaf (AV.c (.d (.v (.bool false))), []))
 else (bif SBay.kind x == (1 : Int) then (bif decide (SBay.fin x ≥ (0 : Int)) then (bif decide (SBay.fin x ≤ (1 : Int)) then (bif decide (SBay.ct x ≥ (1 : Int)) then (bif decide
 (SBay.ct x ≤ (100 : Int)) then (bif decide (SBay.sat x ≥ (0 : Int)) then (bif decide (SBay.sat x ≤ (16383 : Int)) then (bif decide (SBay.travel x ≥ (1 : Int)) then some (T.leaf
 (AV.c (.d (.v (.bool (decide (SBay.travel x ≤ (6 : Int)))))), [])) else some (T.leaf (AV.c (.d (.v (.bool false))), []))) else some (T.leaf (AV.c (C.d (D.v (Value.bool
 false))), []))) else some (T.leaf (AV.c (.d (.v (.bool false))), []))) else some (T.leaf (AV.c (.d (.v (.bool false))), []))) else some (T.leaf (AV.c (C.d (D.v
 (Value.bool false))), []))) else some (T.leaf (AV.c (.d (.v (.bool false))), []))) else some (T.leaf (AV.c (.d (.v (.bool false))), []))) else (bif decide (SBay.fin x
 ≥ (0 : Int)) then (bif decide (SBay.fin x ≤ (0 : Int)) then (bif decide (SBay.ct x ≥ (1 : Int)) then (bif decide (SBay.ct x ≤ (100 : Int)) then (bif decide (SBay.sat x ≥ (0 : Int))
 then (bif decide (SBay.sat x ≤ (16383 : Int)) then (bif decide (SBay.travel x ≥ (1 : Int)) then some (T.leaf (AV.c (.d (.v (.bool (decide (SBay.travel x ≤ (6 : Int)))))),
 [])) else some (T.leaf (AV.c (.d (.v (.bool false))), []))) else some (T.leaf (AV.c (.d (.v (.bool false))), []))) else some (T.leaf (AV.c (C.d (D.v (Value.bool
 false))), []))) else some (T.leaf (AV.c (.d (.v (.bool false))), []))) else some (T.leaf (AV.c (.d (.v (.bool false))), []))) else some (T.leaf (AV.c (C.d (D.v
 (Value.bool false))), []))) else some (T.leaf (AV.c (.d (.v (.bool false))), [])))))) else some (T.leaf (AV.c (.d (.v (.bool false))), []))) else some (T.leaf (AV.c
 (C.d (.v (.bool false))), []))) else some (T.leaf (AV.c (.d (.v (.bool false))), []))) else (bif !(SBay.zr x == (0 : Int) && (SBay.zx x == (0 : Int) && true)) then some
 (T.leaf (AV.c (.d (.v (.bool false))), [])) else (bif decide (SBay.vt x ≥ (1 : Int)) then (bif !decide (SBay.vt x ≤ (10000 : Int)) then some (T.leaf (AV.c (C.d (D.v
 (Value.bool false))), [])) else (bif SBay.kind x == (1 : Int) then (bif decide (SBay.fin x ≥ (0 : Int)) then (bif decide (SBay.fin x ≤ (1 : Int)) then (bif decide (SBay.ct x ≥ (1 :
 Int)) then (bif decide (SBay.ct x ≤ (100 : Int)) then (bif decide (SBay.sat x ≥ (0 : Int)) then (bif decide (SBay.sat x ≤ (16383 : Int)) then (bif decide (SBay.travel x ≥ (1 : Int))
 then some (T.leaf (AV.c (.d (.v (.bool (decide (SBay.travel x ≤ (6 : Int)))))), [])) else some (T.leaf (AV.c (.d (.v (.bool false))), []))) else some (T.leaf (AV.c
 (C.d (.v (.bool false))), []))) else some (T.leaf (AV.c (.d (.v (.bool false))), []))) else some (T.leaf (AV.c (.d (.v (.bool false))), []))) else some (T.leaf
 (AV.c (.d (.v (.bool false))), []))) else some (T.leaf (AV.c (.d (.v (.bool false))), []))) else some (T.leaf (AV.c (.d (.v (.bool false))), []))) else (bif
 decide (SBay.fin x ≥ (0 : Int)) then (bif decide (SBay.fin x ≤ (0 : Int)) then (bif decide (SBay.ct x ≥ (1 : Int)) then (bif decide (SBay.ct x ≤ (100 : Int)) then (bif decide
 (SBay.sat x ≥ (0 : Int)) then (bif decide (SBay.sat x ≤ (16383 : Int)) then (bif decide (SBay.travel x ≥ (1 : Int)) then some (T.leaf (AV.c (.d (.v (.bool (decide
 (SBay.travel x ≤ (6 : Int)))))), [])) else some (T.leaf (AV.c (.d (.v (.bool false))), []))) else some (T.leaf (AV.c (.d (.v (.bool false))), []))) else some (T.leaf
 (AV.c (.d (.v (.bool false))), []))) else some (T.leaf (AV.c (.d (.v (.bool false))), []))) else some (T.leaf (AV.c (.d (.v (.bool false))), []))) else some
 (T.leaf (AV.c (.d (.v (.bool false))), []))) else some (T.leaf (AV.c (.d (.v (.bool false))), []))))) else some (T.leaf (AV.c (.d (.v (.bool false))), []))))) := by kernel_rfl
def d54 : Dec (List AV × Hp) ((RBay × Unit) × Unit) := .pair (.cons (.agg bayD) .nil) .nil
noncomputable def oRa (nk : ByteArray → Bool) (okr rg : RBay → Bool) : Orc := Orc.cons 103 (ansD d54 (fun a => okr a.1.1) (fun a => vB (rg a.1.1)) fun _ => []) (oIm nk)
noncomputable def o33 (nk : ByteArray → Bool) (okr rg : RBay → Bool) (ok : (Unit × RBay × Unit) × A5 → Bool) (lk : (Unit × RBay × Unit) × A5 → Int) : Orc := Orc.cons 104 (ansD d55 ok (fun a => vI (lk a)) (fun a => (d55.enc a).2)) (oRa nk okr rg)
noncomputable def ann33 : Ann := annOf [(18, ⟨[3, 50, 0, 51, 52], []⟩)]
noncomputable def L33_18 (nk : ByteArray → Bool) (okr rg : RBay → Bool) (ok : (Unit × RBay × Unit) × A5 → Bool) (lk : (Unit × RBay × Unit) × A5 → Int) (x : SBay) (s0 : ByteArray) (ka : Nat) (ga : Nat → List D) (kb : Nat) (gb : Nat → List D) (kc : Nat) (gc : Nat → List D) (bs : List SBay) (mpa : List (Value × Value)) (g m : Nat) (i52 : Int) := LK Tryz.prog (o33 nk okr rg ok lk) ann33 (List.length (α := Nat × Blk) [(0, .cells [.d (dS s0), .row 1 1 ka, .row 2 5 kb, .row 3 6 kc, .row 4 12 bs.length, .mp 5] 157), (1, .row ka ga 1 9), (2, .row kb gb 5 71), (3, .row kc gc 6 74), (4, .row bs.length (fun i => bayC (bs.getD i bay0)) 12 66), (5, .map 0 mpa)]) g Tryz.f59 18 m ⟨frm [(0, .c (.ptr 0 0)), (3, .c (.ptr 6 0)), (50, .c (.row 4 12 (List.length bs))), (51, .c (.d (.v (.int .i64 (↑(List.length bs) : Int))))), (52, .c (.d (.v (.int .i64 i52))))] 0 Tryz.f59.ntmps, [(0, Blk.cells [.d (.v (.string s0)), C.row 1 1 ka, C.row 2 5 kb, C.row 3 6 kc, C.row 4 12 (List.length bs), C.mp 5] 157), (1, Blk.row ka ga 1 9), (2, Blk.row kb gb 5 71), (3, Blk.row kc gc 6 74), (4, Blk.row (List.length bs) (fun i => bayC (List.getD bs i bay0)) 12 66), (5, Blk.map 0 mpa), (6, Blk.cells [.d (.v (.string (SBay.name x))), .d (.v (.int .i64 (SBay.kind x))), .d (.v (.int .i64 (SBay.off x))), .d (.v (.int .i64 (SBay.fin x))), .d (.v (.int .i64 (SBay.zr x))), .d (.v (.int .i64 (SBay.zx x))), C.d (D.sl 2 (List.length (SBay.links x)) fun i => linkC (List.getD (SBay.links x) i link0)), .d (.v (.bool (SBay.closed x))), .d (.v (.int .i64 (SBay.ct x))), .d (.v (.int .i64 (SBay.vt x))), .d (.v (.int .i64 (SBay.sat x))), .d (.v (.int .i64 (SBay.travel x)))] 66)], 7⟩
theorem b33 : Tryz.f59.body = some (bodyOf Tryz.f59) := by kernel_rfl
theorem ev33 (nk : ByteArray → Bool) (okr rg : RBay → Bool) (ok : (Unit × RBay × Unit) × A5 → Bool) (lk : (Unit × RBay × Unit) × A5 → Int) (x : SBay) (s0 : ByteArray) (ka : Nat) (ga : Nat → List D) (kb : Nat) (gb : Nat → List D) (kc : Nat) (gc : Nat → List D) (bs : List SBay) (mpa : List (Value × Value)) (g : Nat) : callC Tryz.prog (o33 nk okr rg ok lk) ann33 g Tryz.f59 (bodyOf Tryz.f59) [.c (.ptr 0 0), aBay x] [(0, .cells [.d (dS s0), .row 1 1 ka, .row 2 5 kb, .row 3 6 kc, .row 4 12 bs.length, .mp 5] 157), (1, .row ka ga 1 9), (2, .row kb gb 5 71), (3, .row kc gc 6 74), (4, .row bs.length (fun i => bayC (bs.getD i bay0)) 12 66), (5, .map 0 mpa)] =
 (bif !nk (SBay.name x) then some (T.leaf (AV.c (.d (.v (.int .i64 (7 : Int)))), [(0, Blk.cells [C.d (.v (.string s0)), C.row (1) (1) ka,
 C.row (2) (5) kb, C.row (3) (6) kc, C.row (4) (12) (List.length bs), C.mp (5)] (157)), (1, Blk.row ka ga ((1
 : Nat)) (9)), (2, Blk.row kb gb (5) (71)), (3, Blk.row kc gc (6) (74)), (4, Blk.row (List.length bs) (fun i => bayC
 (List.getD bs i bay0)) (12) (66)), (5, Blk.map (0) mpa)])) else (bif boolOf (assoc mpa (Value.string (SBay.name x))) then some (T.leaf (AV.c (C.d
 (D.v (.int .i64 (8 : Int)))), [(0, Blk.cells [C.d (.v (.string s0)), C.row (1) (1) ka, C.row (2) (5) kb, C.row (3)
 (6) kc, C.row (4) (12) (List.length bs), C.mp (5)] (157)), (1, Blk.row ka ga (1) (9)), (2, Blk.row kb gb ((5
 : Nat)) (71)), (3, Blk.row kc gc (6) (74)), (4, Blk.row (List.length bs) (fun i => bayC (List.getD bs i bay0)) (12) (66)),
 (5, Blk.map (0) mpa)])) else (bif SBay.kind x == (1 : Int) then (bif decide (SBay.off x ≥ (0 : Int)) then (bif !decide (SBay.off x ≤ IntKind.wrap .i64 ((↑kb :
 Int) - (1 : Int))) then some (T.leaf (AV.c (.d (.v (.int .i64 (9 : Int)))), [(0, Blk.cells [C.d (.v (.string s0)), C.row (1) (1) ka,
 C.row (2) (5) kb, C.row (3) (6) kc, C.row (4) (12) (List.length bs), C.mp (5)] (157)), (1, Blk.row ka ga ((1
 : Nat)) (9)), (2, Blk.row kb gb (5) (71)), (3, Blk.row kc gc (6) (74)), (4, Blk.row (List.length bs) (fun i => bayC
 (List.getD bs i bay0)) (12) (66)), (5, Blk.map (0) mpa)])) else (bif okr (SBay.name x, SBay.kind x, SBay.off x, SBay.fin x, SBay.zr x, SBay.zx x,
 linksD (SBay.links x), SBay.closed x, SBay.ct x, SBay.vt x, SBay.sat x, SBay.travel x, ()) then (bif !rg (SBay.name x, SBay.kind x, SBay.off x, SBay.fin x, SBay.zr x, SBay.zx x,
 linksD (SBay.links x), SBay.closed x, SBay.ct x, SBay.vt x, SBay.sat x, SBay.travel x, ()) then some (T.leaf (AV.c (.d (.v (.int .i64 (2 : Int)))), [(0,
 Blk.cells [C.d (.v (.string s0)), C.row (1) (1) ka, C.row (2) (5) kb, C.row (3) (6) kc, C.row (4) (12)
 (List.length bs), C.mp (5)] (157)), (1, Blk.row ka ga (1) (9)), (2, Blk.row kb gb (5) (71)), (3, Blk.row kc
 gc (6) (74)), (4, Blk.row (List.length bs) (fun i => bayC (List.getD bs i bay0)) (12) (66)), (5, Blk.map (0) mpa)])) else
 L33_18 nk okr rg ok lk x s0 ka ga kb gb kc gc bs mpa g g ((0 : Int))) else none)) else some (T.leaf (AV.c (.d (.v (.int .i64 (9 : Int)))), [(0, Blk.cells [C.d
 (D.v (.string s0)), C.row (1) (1) ka, C.row (2) (5) kb, C.row (3) (6) kc, C.row (4) (12) (List.length bs), C.mp
 (5)] (157)), (1, Blk.row ka ga (1) (9)), (2, Blk.row kb gb (5) (71)), (3, Blk.row kc gc (6) ((74 :
 Nat))), (4, Blk.row (List.length bs) (fun i => bayC (List.getD bs i bay0)) (12) (66)), (5, Blk.map (0) mpa)]))) else (bif SBay.kind x == (2 :
 Int) then (bif decide (SBay.off x ≥ (0 : Int)) then (bif !decide (SBay.off x ≤ IntKind.wrap .i64 ((↑kc : Int) - (1 : Int))) then some (T.leaf (AV.c (C.d (D.v (Value.int
 IntKind.i64 (9 : Int)))), [(0, Blk.cells [C.d (.v (.string s0)), C.row (1) (1) ka, C.row (2) (5) kb, C.row (3) (6) kc,
 C.row (4) (12) (List.length bs), C.mp (5)] (157)), (1, Blk.row ka ga (1) (9)), (2, Blk.row kb gb (5) ((71 :
 Nat))), (3, Blk.row kc gc (6) (74)), (4, Blk.row (List.length bs) (fun i => bayC (List.getD bs i bay0)) (12) (66)), (5,
 Blk.map (0) mpa)])) else (bif okr (SBay.name x, SBay.kind x, SBay.off x, SBay.fin x, SBay.zr x, SBay.zx x, linksD (SBay.links x), SBay.closed x, SBay.ct x, SBay.vt x,
 SBay.sat x, SBay.travel x, ()) then (bif !rg (SBay.name x, SBay.kind x, SBay.off x, SBay.fin x, SBay.zr x, SBay.zx x, linksD (SBay.links x), SBay.closed x, SBay.ct x, SBay.vt x,
 SBay.sat x, SBay.travel x, ()) then some (T.leaf (AV.c (.d (.v (.int .i64 (2 : Int)))), [(0, Blk.cells [C.d (.v (.string s0)), C.row (1) ((1 :
 Nat)) ka, C.row (2) (5) kb, C.row (3) (6) kc, C.row (4) (12) (List.length bs), C.mp (5)] (157)), (1, Blk.row
 ka ga (1) (9)), (2, Blk.row kb gb (5) (71)), (3, Blk.row kc gc (6) (74)), (4, Blk.row (List.length bs) (fun i
 => bayC (List.getD bs i bay0)) (12) (66)), (5, Blk.map (0) mpa)])) else L33_18 nk okr rg ok lk x s0 ka ga kb gb kc gc bs mpa g g ((0 : Int))) else
 none)) else some (T.leaf (AV.c (.d (.v (.int .i64 (9 : Int)))), [(0, Blk.cells [C.d (.v (.string s0)), C.row (1) (1) ka, C.row ((2 :
 Nat)) (5) kb, C.row (3) (6) kc, C.row (4) (12) (List.length bs), C.mp (5)] (157)), (1, Blk.row ka ga (1) ((9
 : Nat))), (2, Blk.row kb gb (5) (71)), (3, Blk.row kc gc (6) (74)), (4, Blk.row (List.length bs) (fun i => bayC (List.getD bs
 i bay0)) (12) (66)), (5, Blk.map (0) mpa)]))) else (bif SBay.kind x == (3 : Int) then (bif decide (SBay.off x ≥ (0 : Int)) then (bif !decide
 (SBay.off x ≤ IntKind.wrap .i64 ((1 : Int) - (1 : Int))) then some (T.leaf (AV.c (.d (.v (.int .i64 (9 : Int)))), [(0, Blk.cells [C.d (D.v (Value.string
 s0)), C.row (1) (1) ka, C.row (2) (5) kb, C.row (3) (6) kc, C.row (4) (12) (List.length bs), C.mp (5)] ((157
 : Nat))), (1, Blk.row ka ga (1) (9)), (2, Blk.row kb gb (5) (71)), (3, Blk.row kc gc (6) (74)), (4,
 Blk.row (List.length bs) (fun i => bayC (List.getD bs i bay0)) (12) (66)), (5, Blk.map (0) mpa)])) else (bif okr (SBay.name x, SBay.kind x, SBay.off
 x, SBay.fin x, SBay.zr x, SBay.zx x, linksD (SBay.links x), SBay.closed x, SBay.ct x, SBay.vt x, SBay.sat x, SBay.travel x, ()) then (bif !rg (SBay.name x, SBay.kind x, SBay.off x,
 SBay.fin x, SBay.zr x, SBay.zx x, linksD (SBay.links x), SBay.closed x, SBay.ct x, SBay.vt x, SBay.sat x, SBay.travel x, ()) then some (T.leaf (AV.c (C.d (D.v (Value.int IntKind.i64
 (2 : Int)))), [(0, Blk.cells [C.d (.v (.string s0)), C.row (1) (1) ka, C.row (2) (5) kb, C.row (3) (6) kc, C.row ((4 :
 Nat)) (12) (List.length bs), C.mp (5)] (157)), (1, Blk.row ka ga (1) (9)), (2, Blk.row kb gb (5) (71)), ((3 :
 Nat), Blk.row kc gc (6) (74)), (4, Blk.row (List.length bs) (fun i => bayC (List.getD bs i bay0)) (12) (66)), (5, Blk.map (0)
 mpa)])) else L33_18 nk okr rg ok lk x s0 ka ga kb gb kc gc bs mpa g g ((0 : Int))) else none)) else some (T.leaf (AV.c (.d (.v (.int .i64 (9 : Int)))), [(0,
 Blk.cells [C.d (.v (.string s0)), C.row (1) (1) ka, C.row (2) (5) kb, C.row (3) (6) kc, C.row (4) (12)
 (List.length bs), C.mp (5)] (157)), (1, Blk.row ka ga (1) (9)), (2, Blk.row kb gb (5) (71)), (3, Blk.row kc
 gc (6) (74)), (4, Blk.row (List.length bs) (fun i => bayC (List.getD bs i bay0)) (12) (66)), (5, Blk.map (0) mpa)]))) else
 some (T.leaf (AV.c (.d (.v (.int .i64 (10 : Int)))), [(0, Blk.cells [C.d (.v (.string s0)), C.row (1) (1) ka, C.row (2) ((5 :
 Nat)) kb, C.row (3) (6) kc, C.row (4) (12) (List.length bs), C.mp (5)] (157)), (1, Blk.row ka ga (1) (9)),
 (2, Blk.row kb gb (5) (71)), (3, Blk.row kc gc (6) (74)), (4, Blk.row (List.length bs) (fun i => bayC (List.getD bs i bay0))
 (12) (66)), (5, Blk.map (0) mpa)]))))))) := by kernel_rfl
theorem st33_18 (nk : ByteArray → Bool) (okr rg : RBay → Bool) (ok : (Unit × RBay × Unit) × A5 → Bool) (lk : (Unit × RBay × Unit) × A5 → Int) (x : SBay) (s0 : ByteArray) (ka : Nat) (ga : Nat → List D) (kb : Nat) (gb : Nat → List D) (kc : Nat) (gc : Nat → List D) (bs : List SBay) (mpa : List (Value × Value)) (g m : Nat) (i52 : Int) : L33_18 nk okr rg ok lk x s0 ka ga kb gb kc gc bs mpa g (m + 1) i52 =
 (bif decide (i52 < (↑(List.length bs) : Int)) then (bif decide ((0 : Int) ≤ i52) && decide (i52 < (↑(List.length bs) : Int)) then (bif SBay.kind x != (3 : Int) then (bif SBay.kind x
 == SBay.kind (List.getD bs (Int.toNat i52) bay0) then (bif SBay.off x == SBay.off (List.getD bs (Int.toNat i52) bay0) then (bif SBay.fin x == SBay.fin (List.getD bs (Int.toNat i52)
 bay0) then some (T.leaf (AV.c (.d (.v (.int .i64 (12 : Int)))), [(0, Blk.cells [C.d (.v (.string s0)), C.row (1) (1) ka, C.row ((2 :
 Nat)) (5) kb, C.row (3) (6) kc, C.row (4) (12) (List.length bs), C.mp (5)] (157)), (1, Blk.row ka ga (1) ((9
 : Nat))), (2, Blk.row kb gb (5) (71)), (3, Blk.row kc gc (6) (74)), (4, Blk.row (List.length bs) (fun i => bayC (List.getD bs
 i bay0)) (12) (66)), (5, Blk.map (0) mpa)])) else L33_18 nk okr rg ok lk x s0 ka ga kb gb kc gc bs mpa g m (IntKind.wrap .i64 (i52 + (1 :
 Int)))) else L33_18 nk okr rg ok lk x s0 ka ga kb gb kc gc bs mpa g m (IntKind.wrap .i64 (i52 + (1 : Int)))) else L33_18 nk okr rg ok lk x s0 ka ga kb gb kc gc bs mpa g m
 (IntKind.wrap .i64 (i52 + (1 : Int)))) else L33_18 nk okr rg ok lk x s0 ka ga kb gb kc gc bs mpa g m (IntKind.wrap .i64 (i52 + (1 : Int)))) else none) else (bif ok
 (((), (SBay.name x, SBay.kind x, SBay.off x, SBay.fin x, SBay.zr x, SBay.zx x, D.sl 2 (List.length (SBay.links x)) fun i => linkC (List.getD (SBay.links x) i link0),
 SBay.closed x, SBay.ct x, SBay.vt x, SBay.sat x, SBay.travel x, ()), ()), (s0, ka, kb, kc, List.length bs, (), ()), (ka, ga), (kb, gb), (kc, gc), (List.length bs, fun i => bayC
 (List.getD bs i bay0)), mpa, ()) then (bif lk (((), (SBay.name x, SBay.kind x, SBay.off x, SBay.fin x, SBay.zr x, SBay.zx x, D.sl 2 (List.length (SBay.links x)) fun i =>
 linkC (List.getD (SBay.links x) i link0), SBay.closed x, SBay.ct x, SBay.vt x, SBay.sat x, SBay.travel x, ()), ()), (s0, ka, kb, kc, List.length bs, (), ()), (ka, ga), (kb, gb),
 (kc, gc), (List.length bs, fun i => bayC (List.getD bs i bay0)), mpa, ()) != (0 : Int) then some (T.leaf (AV.c (.d (.v (.int .i64 (lk (((), (SBay.name x, SBay.kind x,
 SBay.off x, SBay.fin x, SBay.zr x, SBay.zx x, D.sl 2 (List.length (SBay.links x)) fun i => linkC (List.getD (SBay.links x) i link0), SBay.closed x, SBay.ct x, SBay.vt x,
 SBay.sat x, SBay.travel x, ()), ()), (s0, ka, kb, kc, List.length bs, (), ()), (ka, ga), (kb, gb), (kc, gc), (List.length bs, fun i => bayC (List.getD bs i bay0)), mpa, ()))))),
 [(0, Blk.cells [C.d (.v (.string s0)), C.row (1) (1) ka, C.row (2) (5) kb, C.row (3) (6) kc, C.row (4) ((12 :
 Nat)) (List.length bs), C.mp (5)] (157)), (1, Blk.row ka ga (1) (9)), (2, Blk.row kb gb (5) (71)), (3,
 Blk.row kc gc (6) (74)), (4, Blk.row (List.length bs) (fun i => bayC (List.getD bs i bay0)) (12) (66)), (5, Blk.map (0)
 (Prod.fst (Prod.snd (Prod.snd (Prod.snd (Prod.snd (Prod.snd (Prod.snd (((), (SBay.name x, SBay.kind x, SBay.off x, SBay.fin x, SBay.zr x, SBay.zx x, D.sl 2 (List.length
 (SBay.links x)) fun i => linkC (List.getD (SBay.links x) i link0), SBay.closed x, SBay.ct x, SBay.vt x, SBay.sat x, SBay.travel x, ()), ()), (s0, ka, kb, kc, List.length bs, (),
 ()), (ka, ga), (kb, gb), (kc, gc), (List.length bs, fun i => bayC (List.getD bs i bay0)), mpa, ())))))))))])) else (bif decide ((List.length bs + 1) * 120 ≤
 140737488355328) && decide (List.length bs + 1 ≤ 9223372036854775807) then some (T.leaf (AV.c (.d (.v (.int .i64 (0 : Int)))), [(0,
 Blk.cells [C.d (.v (.string s0)), C.row (1) (1) ka, C.row (2) (5) kb, C.row (3) (6) kc, C.row (6) (12)
 (List.length bs + 1), C.mp (5)] (157)), (1, Blk.row ka ga (1) (9)), (2, Blk.row kb gb (5) (71)), (3,
 Blk.row kc gc (6) (74)), (4, Blk.dead), (5, Blk.map (0) ((Value.string (SBay.name x), Value.bool true) :: Prod.fst (Prod.snd (Prod.snd
 (Prod.snd (Prod.snd (Prod.snd (Prod.snd (((), (SBay.name x, SBay.kind x, SBay.off x, SBay.fin x, SBay.zr x, SBay.zx x, D.sl 2 (List.length (SBay.links x)) fun i => linkC
 (List.getD (SBay.links x) i link0), SBay.closed x, SBay.ct x, SBay.vt x, SBay.sat x, SBay.travel x, ()), ()), (s0, ka, kb, kc, List.length bs, (), ()), (ka, ga), (kb, gb), (kc, gc),
 (List.length bs, fun i => bayC (List.getD bs i bay0)), mpa, ()))))))))), (6, Blk.row (List.length bs + 1) (appF (List.length bs) (fun i => bayC (List.getD bs i
 bay0)) (chunk [D.v (.string (SBay.name x)), D.v (.int .i64 (SBay.kind x)), D.v (.int .i64 (SBay.off x)), D.v (.int .i64 (SBay.fin x)), D.v
 (Value.int IntKind.i64 (SBay.zr x)), D.v (.int .i64 (SBay.zx x)), D.sl 2 (List.length (SBay.links x)) fun i => linkC (List.getD (SBay.links x) i link0), D.v
 (Value.bool (SBay.closed x)), D.v (.int .i64 (SBay.ct x)), D.v (.int .i64 (SBay.vt x)), D.v (.int .i64 (SBay.sat x)), D.v (Value.int IntKind.i64
 (SBay.travel x))] (11 + 1))) (12) (66))])) else none)) else none)) := by kernel_rfl
noncomputable def h33 (cn : Nat → (Nat → List D) → (Nat → List D)) (bc : RBay → List D) (a : (Unit × RBay × Unit) × A5) : Hp := [(0, .cells [.d (dS a.2.1.1), .row 1 1 a.2.2.1.1, .row 2 5 a.2.2.2.1.1, .row 3 6 a.2.2.2.2.1.1, .row 6 12 (a.2.2.2.2.2.1.1 + 1), .mp 5] 157), (1, .row a.2.2.1.1 a.2.2.1.2 1 9), (2, .row a.2.2.2.1.1 a.2.2.2.1.2 5 71), (3, .row a.2.2.2.2.1.1 a.2.2.2.2.1.2 6 74), (4, .dead), (5, .map 0 ((.string a.1.2.1.1, .bool true) :: a.2.2.2.2.2.2.1)), (6, .row (a.2.2.2.2.2.1.1 + 1) (appF a.2.2.2.2.2.1.1 (cn a.2.2.2.2.2.1.1 a.2.2.2.2.2.1.2) (chunk (bc a.1.2.1) 12)) 12 66)]
noncomputable def h33e (cn : Nat → (Nat → List D) → (Nat → List D)) (a : (Unit × RBay × Unit) × A5) : Hp := [(0, .cells [.d (dS a.2.1.1), .row 1 1 a.2.2.1.1, .row 2 5 a.2.2.2.1.1, .row 3 6 a.2.2.2.2.1.1, .row 4 12 a.2.2.2.2.2.1.1, .mp 5] 157), (1, .row a.2.2.1.1 a.2.2.1.2 1 9), (2, .row a.2.2.2.1.1 a.2.2.2.1.2 5 71), (3, .row a.2.2.2.2.1.1 a.2.2.2.2.1.2 6 74), (4, .row a.2.2.2.2.2.1.1 (cn a.2.2.2.2.2.1.1 a.2.2.2.2.2.1.2) 12 66), (5, .map 0 a.2.2.2.2.2.2.1)]
noncomputable def o32 (cn : Nat → (Nat → List D) → (Nat → List D)) (bc : RBay → List D) (ok : (Unit × RBay × Unit) × A5 → Bool) (er : (Unit × RBay × Unit) × A5 → Int) : Orc := Orc.cons 59 (ansB d55 ok (fun a => er a == 0) (fun _ => vI 0) (h33 cn bc) (fun a => vI (er a)) (h33e cn)) Orc.nil
noncomputable def ann32 : Ann := annOf [(2, ⟨[1, 8, 9, 10], [(1, 4, 12, 66)]⟩)]
noncomputable def L32_2 (cn : Nat → (Nat → List D) → (Nat → List D)) (bc : RBay → List D) (ok : (Unit × RBay × Unit) × A5 → Bool) (er : (Unit × RBay × Unit) × A5 → Int) (l : List SBay) (s0 : ByteArray) (ka : Nat) (ga : Nat → List D) (kb : Nat) (gb : Nat → List D) (kc : Nat) (gc : Nat → List D) (mpa : List (Value × Value)) (g m : Nat) (l4 : List (Value × Value)) (n5 : Nat) (f5 : Nat → List D) (i10 : Int) := LK Tryz.prog (o32 cn bc ok er) ann32 (List.length (α := Nat × Blk) [(0, .cells [.d (dS s0), .row 1 1 ka, .row 2 5 kb, .row 3 6 kc, nilC, .mp 4] 157), (1, .row ka ga 1 9), (2, .row kb gb 5 71), (3, .row kc gc 6 74), (4, .map 0 mpa)]) g Tryz.f58 2 m ⟨frm [(1, .c (.fn 59 [Rf.ptr 0 0] [])), (8, .c (.d (D.sl 12 (List.length l) fun i => bayC (List.getD l i bay0)))), (9, .c (.d (.v (.int .i64 (↑(List.length l) : Int))))), (10, .c (.d (.v (.int .i64 i10))))] 0 Tryz.f58.ntmps, [(0, Blk.cells [.d (.v (.string s0)), C.row 1 1 ka, C.row 2 5 kb, C.row 3 6 kc, C.row 5 12 n5, C.mp 4] 157), (1, Blk.row ka ga 1 9), (2, Blk.row kb gb 5 71), (3, Blk.row kc gc 6 74), (4, Blk.map 0 l4), (5, Blk.row n5 f5 12 66)], 6⟩
theorem b32 : Tryz.f58.body = some (bodyOf Tryz.f58) := by kernel_rfl
theorem ev32 (cn : Nat → (Nat → List D) → (Nat → List D)) (bc : RBay → List D) (ok : (Unit × RBay × Unit) × A5 → Bool) (er : (Unit × RBay × Unit) × A5 → Int) (l : List SBay) (s0 : ByteArray) (ka : Nat) (ga : Nat → List D) (kb : Nat) (gb : Nat → List D) (kc : Nat) (gc : Nat → List D) (mpa : List (Value × Value)) (g : Nat) : callC Tryz.prog (o32 cn bc ok er) ann32 g Tryz.f58 (bodyOf Tryz.f58) [.c (.d (baysD l)), fnOf 59] [(0, .cells [.d (dS s0), .row 1 1 ka, .row 2 5 kb, .row 3 6 kc, nilC, .mp 4] 157), (1, .row ka ga 1 9), (2, .row kb gb 5 71), (3, .row kc gc 6 74), (4, .map 0 mpa)] =
 L32_2 cn bc ok er l s0 ka ga kb gb kc gc mpa g g mpa 0 (fun x => []) ((0 : Int)) := by kernel_rfl
theorem st32_2 (cn : Nat → (Nat → List D) → (Nat → List D)) (bc : RBay → List D) (ok : (Unit × RBay × Unit) × A5 → Bool) (er : (Unit × RBay × Unit) × A5 → Int) (l : List SBay) (s0 : ByteArray) (ka : Nat) (ga : Nat → List D) (kb : Nat) (gb : Nat → List D) (kc : Nat) (gc : Nat → List D) (mpa : List (Value × Value)) (g m : Nat) (l4 : List (Value × Value)) (n5 : Nat) (f5 : Nat → List D) (i10 : Int) : L32_2 cn bc ok er l s0 ka ga kb gb kc gc mpa g (m + 1) l4 n5 f5 i10 =
 (bif decide (i10 < (↑(List.length l) : Int)) then (bif decide ((0 : Int) ≤ i10) && decide (i10 < (↑(List.length l) : Int)) then (bif ok (((), (SBay.name (List.getD l (Int.toNat i10)
 bay0), SBay.kind (List.getD l (Int.toNat i10) bay0), SBay.off (List.getD l (Int.toNat i10) bay0), SBay.fin (List.getD l (Int.toNat i10) bay0), SBay.zr (List.getD l (Int.toNat i10)
 bay0), SBay.zx (List.getD l (Int.toNat i10) bay0), linksD (SBay.links (List.getD l (Int.toNat i10) bay0)), SBay.closed (List.getD l (Int.toNat i10) bay0), SBay.ct (List.getD l
 (Int.toNat i10) bay0), SBay.vt (List.getD l (Int.toNat i10) bay0), SBay.sat (List.getD l (Int.toNat i10) bay0), SBay.travel (List.getD l (Int.toNat i10) bay0), ()), ()), (s0, ka,
 kb, kc, n5, (), ()), (ka, ga), (kb, gb), (kc, gc), (n5, f5), l4, ()) then (bif er (((), (SBay.name (List.getD l (Int.toNat i10) bay0), SBay.kind (List.getD l (Int.toNat i10) bay0),
 SBay.off (List.getD l (Int.toNat i10) bay0), SBay.fin (List.getD l (Int.toNat i10) bay0), SBay.zr (List.getD l (Int.toNat i10) bay0), SBay.zx (List.getD l (Int.toNat i10) bay0),
 linksD (SBay.links (List.getD l (Int.toNat i10) bay0)), SBay.closed (List.getD l (Int.toNat i10) bay0), SBay.ct (List.getD l (Int.toNat i10) bay0), SBay.vt (List.getD l (Int.toNat
 i10) bay0), SBay.sat (List.getD l (Int.toNat i10) bay0), SBay.travel (List.getD l (Int.toNat i10) bay0), ()), ()), (s0, ka, kb, kc, n5, (), ()), (ka, ga), (kb, gb), (kc, gc), (n5,
 f5), l4, ()) == (0 : Int) then L32_2 cn bc ok er l s0 ka ga kb gb kc gc mpa g m ((Value.string (SBay.name (List.getD l (Int.toNat i10) bay0)), Value.bool true) :: Prod.fst (Prod.snd
 (Prod.snd (Prod.snd (Prod.snd (Prod.snd (Prod.snd (((), (SBay.name (List.getD l (Int.toNat i10) bay0), SBay.kind (List.getD l (Int.toNat i10) bay0), SBay.off (List.getD l (Int.toNat
 i10) bay0), SBay.fin (List.getD l (Int.toNat i10) bay0), SBay.zr (List.getD l (Int.toNat i10) bay0), SBay.zx (List.getD l (Int.toNat i10) bay0), linksD (SBay.links (List.getD l
 (Int.toNat i10) bay0)), SBay.closed (List.getD l (Int.toNat i10) bay0), SBay.ct (List.getD l (Int.toNat i10) bay0), SBay.vt (List.getD l (Int.toNat i10) bay0), SBay.sat (List.getD l
 (Int.toNat i10) bay0), SBay.travel (List.getD l (Int.toNat i10) bay0), ()), ()), (s0, ka, kb, kc, n5, (), ()), (ka, ga), (kb, gb), (kc, gc), (n5, f5), l4, ())))))))) (n5 + (1 :
 Nat)) (appF n5 (cn n5 f5) (chunk (bc (SBay.name (List.getD l (Int.toNat i10) bay0), SBay.kind (List.getD l (Int.toNat i10) bay0), SBay.off (List.getD l (Int.toNat i10) bay0),
 SBay.fin (List.getD l (Int.toNat i10) bay0), SBay.zr (List.getD l (Int.toNat i10) bay0), SBay.zx (List.getD l (Int.toNat i10) bay0), linksD (SBay.links (List.getD l (Int.toNat i10)
 bay0)), SBay.closed (List.getD l (Int.toNat i10) bay0), SBay.ct (List.getD l (Int.toNat i10) bay0), SBay.vt (List.getD l (Int.toNat i10) bay0), SBay.sat (List.getD l (Int.toNat i10)
 bay0), SBay.travel (List.getD l (Int.toNat i10) bay0), ())) 12)) (IntKind.wrap .i64 (i10 + (1 : Int))) else (bif er (((), (SBay.name (List.getD l (Int.toNat i10)
 bay0), SBay.kind (List.getD l (Int.toNat i10) bay0), SBay.off (List.getD l (Int.toNat i10) bay0), SBay.fin (List.getD l (Int.toNat i10) bay0), SBay.zr (List.getD l (Int.toNat i10)
 bay0), SBay.zx (List.getD l (Int.toNat i10) bay0), linksD (SBay.links (List.getD l (Int.toNat i10) bay0)), SBay.closed (List.getD l (Int.toNat i10) bay0), SBay.ct (List.getD l
 (Int.toNat i10) bay0), SBay.vt (List.getD l (Int.toNat i10) bay0), SBay.sat (List.getD l (Int.toNat i10) bay0), SBay.travel (List.getD l (Int.toNat i10) bay0), ()), ()), (s0, ka,
 kb, kc, n5, (), ()), (ka, ga), (kb, gb), (kc, gc), (n5, f5), l4, ()) != (0 : Int) then some (T.leaf (AV.c (.d (.v (.int .i64 (er (((), (SBay.name (List.getD l
 (Int.toNat i10) bay0), SBay.kind (List.getD l (Int.toNat i10) bay0), SBay.off (List.getD l (Int.toNat i10) bay0), SBay.fin (List.getD l (Int.toNat i10) bay0), SBay.zr (List.getD l
 (Int.toNat i10) bay0), SBay.zx (List.getD l (Int.toNat i10) bay0), linksD (SBay.links (List.getD l (Int.toNat i10) bay0)), SBay.closed (List.getD l (Int.toNat i10) bay0), SBay.ct
 (List.getD l (Int.toNat i10) bay0), SBay.vt (List.getD l (Int.toNat i10) bay0), SBay.sat (List.getD l (Int.toNat i10) bay0), SBay.travel (List.getD l (Int.toNat i10) bay0), ()),
 ()), (s0, ka, kb, kc, n5, (), ()), (ka, ga), (kb, gb), (kc, gc), (n5, f5), l4, ()))))), [(0, Blk.cells [C.d (.v (.string s0)), C.row (1) (1) ka, C.row
 (2) (5) kb, C.row (3) (6) kc, C.row (5) (12) n5, C.mp (4)] (157)), (1, Blk.row ka ga (1) ((9 :
 Nat))), (2, Blk.row kb gb (5) (71)), (3, Blk.row kc gc (6) (74)), (4, Blk.map (0) (Prod.fst (Prod.snd (Prod.snd
 (Prod.snd (Prod.snd (Prod.snd (Prod.snd (((), (SBay.name (List.getD l (Int.toNat i10) bay0), SBay.kind (List.getD l (Int.toNat i10) bay0), SBay.off (List.getD l (Int.toNat i10)
 bay0), SBay.fin (List.getD l (Int.toNat i10) bay0), SBay.zr (List.getD l (Int.toNat i10) bay0), SBay.zx (List.getD l (Int.toNat i10) bay0), linksD (SBay.links (List.getD l
 (Int.toNat i10) bay0)), SBay.closed (List.getD l (Int.toNat i10) bay0), SBay.ct (List.getD l (Int.toNat i10) bay0), SBay.vt (List.getD l (Int.toNat i10) bay0), SBay.sat (List.getD l
 (Int.toNat i10) bay0), SBay.travel (List.getD l (Int.toNat i10) bay0), ()), ()), (s0, ka, kb, kc, n5, (), ()), (ka, ga), (kb, gb), (kc, gc), (n5, f5), l4, ()))))))))), (5,
 Blk.row n5 (cn n5 f5) (12) (66))])) else L32_2 cn bc ok er l s0 ka ga kb gb kc gc mpa g m (Prod.fst (Prod.snd (Prod.snd (Prod.snd (Prod.snd (Prod.snd (Prod.snd (((),
 (SBay.name (List.getD l (Int.toNat i10) bay0), SBay.kind (List.getD l (Int.toNat i10) bay0), SBay.off (List.getD l (Int.toNat i10) bay0), SBay.fin (List.getD l (Int.toNat i10)
 bay0), SBay.zr (List.getD l (Int.toNat i10) bay0), SBay.zx (List.getD l (Int.toNat i10) bay0), linksD (SBay.links (List.getD l (Int.toNat i10) bay0)), SBay.closed (List.getD l
 (Int.toNat i10) bay0), SBay.ct (List.getD l (Int.toNat i10) bay0), SBay.vt (List.getD l (Int.toNat i10) bay0), SBay.sat (List.getD l (Int.toNat i10) bay0), SBay.travel (List.getD l
 (Int.toNat i10) bay0), ()), ()), (s0, ka, kb, kc, n5, (), ()), (ka, ga), (kb, gb), (kc, gc), (n5, f5), l4, ())))))))) n5 (cn n5 f5) (IntKind.wrap .i64 (i10 + (1 : Int)))))
 else none) else none) else some (T.leaf (AV.c (.d (.v (.int .i64 (0 : Int)))), [(0, Blk.cells [C.d (.v (.string s0)), C.row (1) (1) ka,
 C.row (2) (5) kb, C.row (3) (6) kc, C.row (5) (12) n5, C.mp (4)] (157)), (1, Blk.row ka ga (1) ((9 :
 Nat))), (2, Blk.row kb gb (5) (71)), (3, Blk.row kc gc (6) (74)), (4, Blk.map (0) l4), (5, Blk.row n5 f5 ((12
 : Nat)) (66))]))) := by kernel_rfl
end Go.Proofs.YtngoglhlhlfknaaGreat.st
namespace Go.Proofs.YtngoglhlhlfknaaGreat.st
open Go.RowKit Go.Eb
theorem appOk {k b : Nat} (h : k + 1 ≤ 1000) (hb : b ≤ 1000) : (decide ((k + 1) * b ≤ 140737488355328) && decide (k + 1 ≤ 9223372036854775807)) = true := by
  have h1 : (k + 1) * b ≤ 1000 * 1000 := Nat.mul_le_mul h hb
  rw [decide_eq_true (by omega), decide_eq_true (by omega)]; rfl
theorem sNm : OrcS Tryz.prog (oNm nameOk) := .cons (.p decS_ok c15) .nil
theorem sNam : OrcS Tryz.prog (oNam nameOk) := .cons (.inl sNm Tryz.func100 (by kernel_rfl)) .nil
theorem s26 : OrcS Tryz.prog (o26 nameOk) := .cons (.inl sNam Tryz.func53 (by kernel_rfl)) .nil
theorem sWi : OrcS Tryz.prog oWi := .cons (.inl .nil Tryz.func102 (by kernel_rfl)) .nil
theorem sIm : OrcS Tryz.prog (oIm nameOk) := .cons (.inl sWi Tryz.func101 (by kernel_rfl)) (.cons (.inl .nil Tryz.func102 (by kernel_rfl)) sNam)
theorem s28 : OrcS Tryz.prog (o28 nameOk) := .cons (.inl sIm Tryz.func55 (by kernel_rfl)) .nil
theorem s30 : OrcS Tryz.prog (o30 nameOk) := .cons (.inl sIm Tryz.func57 (by kernel_rfl)) .nil
theorem c26 (l : List ByteArray) (s0 : ByteArray) (N : List ByteArray) (hl : l.length ≤ 900) :
    CX Tryz.prog 52 [.c (.d (busesD l)), fnOf 53] (H1 s0 (mapOf N)) (vI (takeN id (fun N _ x => namErr N x) N [] l).1)
      (H1' s0 (mapOf (N ++ (takeN id (fun N _ x => namErr N x) N [] l).2.map id)) (takeN id (fun N _ x => namErr N x) N [] l).2.length (fun i => busC ((takeN id (fun N _ x => namErr N x) N [] l).2.getD i e0))) := by
  obtain ⟨g, hg⟩ : ∃ g, l.length < g := ⟨l.length + 1, by omega⟩
  obtain ⟨f', hr, he⟩ := first_loop (nm := id) (F := fun N _ x => namErr N x) (N := N) (c := busC) (d0 := e0) (l := l) (L := fun m mp n f i => L26_2 nameOk l s0 (mapOf N) g m mp n f i) (HX := fun mp n f => H1' s0 mp n f)
    (fun m k before f hk hb hr => by
      refine ⟨_, f, hr.app' rfl, hr, ?_⟩
      rw [st26_2]
      simp only [lt1 hk, ge0, tn, Bool.and_self, cond_true, nx hk (by omega), assoc_mapOf, appOk (k := k) (b := 16) (by omega) (by omega)]
      unfold namErr
      simp only [id]
      cases nameOk (l.getD k e0) with
      | false => rfl
      | true => cases inB (N ++ before.map id) (l.getD k e0) <;> rfl)
    (fun m mp n f => by
      rw [st26_2, lt0 (Nat.lt_irrefl _)]
      rfl) g 0 [] (fun _ => []) (by omega) (by omega) rfl (.nil _)
  have hev := ev26 nameOk l s0 (mapOf N) g
  simp only [List.map_nil, List.append_nil, List.drop_zero] at he hr
  refine (cx_of s26.ok Tryz.func52 b26 rfl (hev.trans he)).le (.refl _) ?_
  exact .cons (.refl _) (.cons (.refl _) (.cons hr.ble .nil))
theorem c28 (l : List SLine) (s0 : ByteArray) (ka : Nat) (ga : Nat → List D) (N : List ByteArray) (hl : l.length ≤ 900) :
    CX Tryz.prog 54 [.c (.d (linesD l)), fnOf 55] (H2 s0 ka ga (mapOf N)) (vI (tLine N l).1)
      (H2' s0 ka ga (mapOf (N ++ (tLine N l).2.map SLine.name)) (tLine N l).2.length (fun i => lineC ((tLine N l).2.getD i line0))) := by
  obtain ⟨g, hg⟩ : ∃ g, l.length < g := ⟨l.length + 1, by omega⟩
  obtain ⟨f', hr, he⟩ := first_loop (nm := SLine.name) (F := fun N _ x => lineErr N x) (N := N) (c := lineC) (d0 := line0) (l := l) (L := fun m mp n f i => L28_2 nameOk l s0 ka ga (mapOf N) g m mp n f i) (HX := fun mp n f => H2' s0 ka ga mp n f)
    (fun m k before f hk hb hr => by
      refine ⟨_, f, hr.app' rfl, hr, ?_⟩
      rw [st28_2]
      simp only [lt1 hk, ge0, tn, Bool.and_self, cond_true, nx hk (by omega), assoc_mapOf, appOk (k := k) (b := 48) (by omega) (by omega), fNot, fAnd]
      unfold lineErr namErr impOk within
      cases nameOk (l.getD k line0).name with
      | false => rfl
      | true =>
        cases inB (N ++ before.map SLine.name) (l.getD k line0).name with
        | true => rfl
        | false =>
          generalize decide ((l.getD k line0).r1 ≥ 0) = b1
          generalize decide ((l.getD k line0).r1 ≤ 1000) = b2
          generalize decide ((l.getD k line0).x1 ≥ 1) = b3
          generalize decide ((l.getD k line0).x1 ≤ 1000) = b4
          generalize decide ((l.getD k line0).r0 ≥ 0) = b5
          generalize decide ((l.getD k line0).r0 ≤ 1000) = b6
          generalize decide ((l.getD k line0).x0 ≥ 1) = b7
          generalize decide ((l.getD k line0).x0 ≤ 1000) = b8
          cases b1 <;> cases b2 <;> cases b3 <;> cases b4 <;> first | rfl | (cases b5 <;> cases b6 <;> cases b7 <;> cases b8 <;> rfl))
    (fun m mp n f => by
      rw [st28_2, lt0 (Nat.lt_irrefl _)]
      rfl) g 0 [] (fun _ => []) (by omega) (by omega) rfl (.nil _)
  have hev := ev28 nameOk l s0 ka ga (mapOf N) g
  simp only [List.map_nil, List.append_nil, List.drop_zero] at he hr
  refine (cx_of s28.ok Tryz.func54 b28 rfl (hev.trans he)).le (.refl _) ?_
  exact .cons (.refl _) (.cons (.refl _) (.cons (.refl _) (.cons hr.ble .nil)))
theorem c30 (l : List SSrc) (s0 : ByteArray) (ka : Nat) (ga : Nat → List D) (kb : Nat) (gb : Nat → List D) (N : List ByteArray) (hl : l.length ≤ 900) :
    CX Tryz.prog 56 [.c (.d (srcsD l)), fnOf 57] (H3 s0 ka ga kb gb (mapOf N)) (vI (tSrc N l).1)
      (H3' s0 ka ga kb gb (mapOf (N ++ (tSrc N l).2.map SSrc.name)) (tSrc N l).2.length (fun i => srcC' ((tSrc N l).2.getD i src0))) := by
  obtain ⟨g, hg⟩ : ∃ g, l.length < g := ⟨l.length + 1, by omega⟩
  obtain ⟨f', hr, he⟩ := first_loop (nm := SSrc.name) (F := fun N _ x => srcErr N x) (N := N) (c := srcC') (d0 := src0) (l := l) (L := fun m mp n f i => L30_2 nameOk l s0 ka ga kb gb (mapOf N) g m mp n f i) (HX := fun mp n f => H3' s0 ka ga kb gb mp n f)
    (fun m k before f hk hb hr => by
      refine ⟨_, f, hr.app' rfl, hr, ?_⟩
      rw [st30_2]
      simp only [lt1 hk, ge0, tn, Bool.and_self, cond_true, nx hk (by omega), assoc_mapOf, appOk (k := k) (b := 56) (by omega) (by omega), fNot, fAnd]
      unfold srcErr namErr impOk within
      cases nameOk (l.getD k src0).name with
      | false => rfl
      | true =>
        cases inB (N ++ before.map SSrc.name) (l.getD k src0).name with
        | true => rfl
        | false =>
          generalize decide ((l.getD k src0).emf ≥ 1) = a1
          generalize decide ((l.getD k src0).emf ≤ 1000000) = a2
          generalize decide ((l.getD k src0).r1 ≥ 0) = b1
          generalize decide ((l.getD k src0).r1 ≤ 1000) = b2
          generalize decide ((l.getD k src0).x1 ≥ 1) = b3
          generalize decide ((l.getD k src0).x1 ≤ 1000) = b4
          generalize decide ((l.getD k src0).r0 ≥ 0) = b5
          generalize decide ((l.getD k src0).r0 ≤ 1000) = b6
          generalize decide ((l.getD k src0).x0 ≥ 1) = b7
          generalize decide ((l.getD k src0).x0 ≤ 1000) = b8
          cases a1 <;> cases a2 <;> first | rfl | (cases b1 <;> cases b2 <;> cases b3 <;> cases b4 <;> first | rfl | (cases b5 <;> cases b6 <;> cases b7 <;> cases b8 <;> rfl)))
    (fun m mp n f => by
      rw [st30_2, lt0 (Nat.lt_irrefl _)]
      rfl) g 0 [] (fun _ => []) (by omega) (by omega) rfl (.nil _)
  have hev := ev30 nameOk l s0 ka ga kb gb (mapOf N) g
  simp only [List.map_nil, List.append_nil, List.drop_zero] at he hr
  refine (cx_of s30.ok Tryz.func56 b30 rfl (hev.trans he)).le (.refl _) ?_
  exact .cons (.refl _) (.cons (.refl _) (.cons (.refl _) (.cons (.refl _) (.cons hr.ble .nil))))
end Go.Proofs.YtngoglhlhlfknaaGreat.st
namespace Go.Proofs.YtngoglhlhlfknaaGreat.st
open Go.RowKit Go.Eb
abbrev lI (e : Int) (H : Hp) : Option (T (AV × Hp)) := some (.leaf (vI e, H))
theorem w1 {k : Nat} (h : k ≤ 9223372036854775807) : IntKind.wrap IntKind.i64 ((k : Int) - 1) = (k : Int) - 1 := wrap_id (by omega) (by omega)
theorem len_lt1 (n : Nat) : decide ((n : Int) < 1) = decide (n < 1) := by rw [decide_eq_decide]; omega
theorem len_gt2 (n : Nat) : decide ((n : Int) > 2) = decide (2 < n) := by rw [decide_eq_decide]; omega
theorem len_ne2 (n : Nat) : ((n : Int) != 2) = (n != 2) := by
  rw [Bool.eq_iff_iff]; simp only [bne_iff_ne]; omega
theorem gt0 (k : Nat) : decide ((k : Int) > 0) = decide (0 < k) := by rw [decide_eq_decide]; omega
section
variable (x : SBay) (s0 : ByteArray) (ka : Nat) (ga : Nat → List D) (kb : Nat) (gb : Nat → List D) (kc : Nat) (gc : Nat → List D) (kd : Nat) (gd : Nat → List D) (mpa : List (Value × Value))
def prevB (l : List SLink) : Nat → Option Int
  | 0 => none
  | k + 1 => some (l.getD k link0).bus
theorem lp55 (hka : ka ≤ 9223372036854775807) (hl : x.links.length ≤ 9223372036854775807) (g : Nat) : ∀ (m k : Nat), k ≤ x.links.length → x.links.length - k < m →
    L55_5 x s0 ka ga kb gb kc gc kd gd mpa g m k = lI (linkErr ka x.kind (prevB x.links k) (x.links.drop k)) (H5 s0 ka ga kb gb kc gc kd gd mpa)
  | 0, k, _, h => by omega
  | m + 1, k, hk, h => by
    rw [st55_5]
    by_cases hlt : k < x.links.length
    · have ih := lp55 hka hl g m (k + 1) (by omega) (by omega)
      rw [drop_at' (d := link0) hlt]
      simp only [lt1 hlt, ge0, tn, Bool.and_self, cond_true, nx hlt (by omega), ih, w1 hka, linkErr, within]
      cases k with
      | zero =>
        simp only [prevB, List.getD_cons_zero]
        generalize decide ((x.links.getD 0 link0).bus ≥ 0) = b1
        generalize decide ((x.links.getD 0 link0).bus ≤ (ka : Int) - 1) = b2
        generalize ((x.links.getD 0 link0).pos != 1) = b3
        generalize ((x.links.getD 0 link0).pos != 0) = b4
        generalize (x.kind == 3) = b5
        cases b1 <;> cases b2 <;> cases b3 <;> cases b4 <;> cases b5 <;> rfl
      | succ k =>
        have e1 : IntKind.wrap IntKind.i64 (((k + 1 : Nat) : Int) - 1) = (k : Int) := by rw [wrap_id (by omega) (by omega)]; omega
        have e2 : decide (((k + 1 : Nat) : Int) > 0) = true := by rw [gt0]; simp
        have e3 : decide ((k : Int) < (x.links.length : Int)) = true := lt1 (by omega)
        have e4 : (some (x.links.getD k link0).bus == some (x.links.getD (k + 1) link0).bus) = ((x.links.getD k link0).bus == (x.links.getD (k + 1) link0).bus) := rfl
        simp only [prevB, e1, e2, e3, e4, ge0, tn, Bool.and_self, cond_true]
        generalize decide ((x.links.getD (k + 1) link0).bus ≥ 0) = b1
        generalize decide ((x.links.getD (k + 1) link0).bus ≤ (ka : Int) - 1) = b2
        generalize ((x.links.getD (k + 1) link0).pos != 1) = b3
        generalize ((x.links.getD (k + 1) link0).pos != 0) = b4
        generalize (x.kind == 3) = b5
        generalize ((x.links.getD k link0).bus == (x.links.getD (k + 1) link0).bus) = b6
        cases b1 <;> cases b2 <;> cases b3 <;> cases b4 <;> cases b5 <;> cases b6 <;> rfl
    · rw [lt0 hlt, List.drop_of_length_le (by omega)]
      rfl
theorem c55 (hka : ka ≤ 9223372036854775807) (hl : x.links.length ≤ 9223372036854775807) : CX Tryz.prog 104 [.c (.ptr 0 0), aBay x] (H5 s0 ka ga kb gb kc gc kd gd mpa) (vI (linksErr ka x)) (H5 s0 ka ga kb gb kc gc kd gd mpa) := by
  obtain ⟨g, hg⟩ : ∃ g, x.links.length < g := ⟨x.links.length + 1, by omega⟩
  refine cx_of (sWi.ok) Tryz.func104 b55 rfl ((ev55 x s0 ka ga kb gb kc gc kd gd mpa g).trans ?_)
  have := lp55 x s0 ka ga kb gb kc gc kd gd mpa hka hl g g 0 (by omega) (by omega)
  have e0 : L55_5 x s0 ka ga kb gb kc gc kd gd mpa g g 0 = lI (linkErr ka x.kind none x.links) (H5 s0 ka ga kb gb kc gc kd gd mpa) := this
  rw [e0, len_lt1, len_gt2, len_ne2]
  unfold linksErr
  generalize decide (x.links.length < 1) = b1
  generalize decide (2 < x.links.length) = b2
  generalize (x.kind == 3) = b3
  generalize (x.links.length != 2) = b4
  cases b1 <;> cases b2 <;> cases b3 <;> cases b4 <;> rfl
end
theorem s54 : OrcS Tryz.prog o54 := .cons (.inl sWi Tryz.func101 (by kernel_rfl)) sWi
theorem c54 (x : SBay) : CX Tryz.prog 103 [aBay x] [] (vB (rngOk x)) [] := by
  refine cx_of s54.ok Tryz.func103 b54 rfl ((ev54 x 1).trans ?_)
  simp only [fNot, bAnd, neN, Bool.and_true]
  unfold rngOk impOk within
  cases (x.kind == 3) with
  | true =>
    simp only [cond_true]
    cases (x.kind == 1) <;> simp only [cond_true, cond_false, Bool.and_assoc, bAnd]
  | false =>
    simp only [cond_false]
    cases (x.kind == 1) <;> simp only [cond_true, cond_false, Bool.and_assoc, bAnd]
def eqs (a : A5) : Bool := Nat.beq a.1.2.1 a.2.1.1 && (Nat.beq a.1.2.2.1 a.2.2.1.1 && (Nat.beq a.1.2.2.2.1 a.2.2.2.1.1 && (Nat.beq a.1.2.2.2.2.1 a.2.2.2.2.1.1 && (Nat.ble a.1.2.1 900 && (Nat.ble a.1.2.2.1 900 && (Nat.ble a.1.2.2.2.1 900 && Nat.ble a.1.2.2.2.2.1 900))))))
theorem enc55 (a : (Unit × RBay × Unit) × A5) (h : eqs a.2 = true) : (d55.enc a).2 = H5 a.2.1.1 a.2.2.1.1 a.2.2.1.2 a.2.2.2.1.1 a.2.2.2.1.2 a.2.2.2.2.1.1 a.2.2.2.2.1.2 a.2.2.2.2.2.1.1 a.2.2.2.2.2.1.2 a.2.2.2.2.2.2.1 ∧ (a.2.2.1.1 ≤ 900 ∧ a.2.2.2.1.1 ≤ 900 ∧ a.2.2.2.2.1.1 ≤ 900 ∧ a.2.2.2.2.2.1.1 ≤ 900) := by
  unfold eqs at h
  simp only [Bool.and_eq_true] at h
  obtain ⟨h1, h2, h3, h4, h5, h6, h7, h8⟩ := h
  have e1 := Nat.eq_of_beq_eq_true h1
  have e2 := Nat.eq_of_beq_eq_true h2
  have e3 := Nat.eq_of_beq_eq_true h3
  have e4 := Nat.eq_of_beq_eq_true h4
  have g5 := Nat.le_of_ble_eq_true h5
  have g6 := Nat.le_of_ble_eq_true h6
  have g7 := Nat.le_of_ble_eq_true h7
  have g8 := Nat.le_of_ble_eq_true h8
  refine ⟨?_, by omega, by omega, by omega, by omega⟩
  show [(0, Blk.cells [.d (dS a.2.1.1), .row 1 1 a.2.1.2.1, .row 2 5 a.2.1.2.2.1, .row 3 6 a.2.1.2.2.2.1, .row 4 12 a.2.1.2.2.2.2.1, .mp 5] 157), (1, .row a.2.2.1.1 a.2.2.1.2 1 9), (2, .row a.2.2.2.1.1 a.2.2.2.1.2 5 71), (3, .row a.2.2.2.2.1.1 a.2.2.2.2.1.2 6 74), (4, .row a.2.2.2.2.2.1.1 a.2.2.2.2.2.1.2 12 66), (5, .map 0 a.2.2.2.2.2.2.1)] = _
  rw [e1, e2, e3, e4]
noncomputable def ok33 (a : (Unit × RBay × Unit) × A5) : Bool := okRB a.1.2.1 && eqs a.2
noncomputable def lk33 (a : (Unit × RBay × Unit) × A5) : Int := linksErr a.2.2.1.1 (rbay a.1.2.1)
theorem okRB_len {x : RBay} (h : okRB x = true) : (rbay x).links.length ≤ 9223372036854775807 := by
  unfold okRB okLk at h
  simp only [Bool.and_eq_true, decide_eq_true_eq] at h
  exact h.2
theorem s33 : OrcS Tryz.prog (o33 nameOk okRB (fun a => rngOk (rbay a)) ok33 lk33) := by
  refine .cons (.d fun a ha => ?_) (.cons (.d fun a ha => ?_) sIm)
  · unfold ok33 at ha
    simp only [Bool.and_eq_true] at ha
    obtain ⟨e, h1, _⟩ := enc55 a ha.2
    rw [e]
    exact (c55 (rbay a.1.2.1) _ _ _ _ _ _ _ _ _ _ (by omega) (okRB_len ha.1)).ge (.cons (.refl _) (.cons (bay_le _ ha.1) .nil)) (.refl _)
  · exact (c54 (rbay a.1.1)).ge (.cons (bay_le _ ha) .nil) (.refl _)
section
variable (x : SBay) (s0 : ByteArray) (ka : Nat) (ga : Nat → List D) (kb : Nat) (gb : Nat → List D) (kc : Nat) (gc : Nat → List D) (bs : List SBay) (mpa : List (Value × Value))
abbrev cnB (bs : List SBay) : Nat → List D := fun i => bayC (bs.getD i bay0)
def H33 : Hp := [(0, .cells [.d (dS s0), .row 1 1 ka, .row 2 5 kb, .row 3 6 kc, .row 6 12 (bs.length + 1), .mp 5] 157), (1, .row ka ga 1 9), (2, .row kb gb 5 71), (3, .row kc gc 6 74), (4, .dead), (5, .map 0 ((.string x.name, .bool true) :: mpa)), (6, .row (bs.length + 1) (appF bs.length (cnB bs) (chunk (bayC x) 12)) 12 66)]
def aft33 : Option (T (AV × Hp)) := bif linksErr ka x != 0 then lI (linksErr ka x) (H5 s0 ka ga kb gb kc gc bs.length (cnB bs) mpa) else lI 0 (H33 x s0 ka ga kb gb kc gc bs mpa)
theorem lp33 (hka : ka ≤ 900) (hkb : kb ≤ 900) (hkc : kc ≤ 900) (hbs : bs.length ≤ 900) (hl : x.links.length ≤ 9223372036854775807) (g : Nat) : ∀ (m k : Nat), k ≤ bs.length → bs.length - k < m →
    L33_18 nameOk okRB (fun a => rngOk (rbay a)) ok33 lk33 x s0 ka ga kb gb kc gc bs mpa g m k = bif (bs.drop k).any (clash x) then lI 12 (H5 s0 ka ga kb gb kc gc bs.length (cnB bs) mpa) else aft33 x s0 ka ga kb gb kc gc bs mpa
  | 0, k, _, h => by omega
  | m + 1, k, hk, h => by
    rw [st33_18]
    by_cases hlt : k < bs.length
    · have ih := lp33 hka hkb hkc hbs hl g m (k + 1) (by omega) (by omega)
      rw [drop_at' (d := bay0) hlt]
      simp only [lt1 hlt, ge0, tn, Bool.and_self, cond_true, nx hlt (by omega), ih, List.any_cons, clash]
      generalize (x.kind != 3) = b1
      generalize (x.kind == (bs.getD k bay0).kind) = b2
      generalize (x.off == (bs.getD k bay0).off) = b3
      generalize (x.fin == (bs.getD k bay0).fin) = b4
      cases b1 <;> cases b2 <;> cases b3 <;> cases b4 <;> rfl
    · rw [lt0 hlt, List.drop_of_length_le (by omega)]
      have hok : ok33 (((), bayR x, ()), (s0, ka, kb, kc, bs.length, (), ()), (ka, ga), (kb, gb), (kc, gc), (bs.length, cnB bs), mpa, ()) = true := by
        unfold ok33
        have e1 : okRB (bayR x) = true := okLk_links hl
        have e2 : eqs ((s0, ka, kb, kc, bs.length, (), ()), (ka, ga), (kb, gb), (kc, gc), (bs.length, cnB bs), mpa, ()) = true := by
          unfold eqs
          simp only [Nat.beq_refl, Bool.true_and, bleD, decide_eq_true hka, decide_eq_true hkb, decide_eq_true hkc, decide_eq_true hbs]
        simp only [e1, e2, Bool.and_self]
      have hlk : lk33 (((), bayR x, ()), (s0, ka, kb, kc, bs.length, (), ()), (ka, ga), (kb, gb), (kc, gc), (bs.length, cnB bs), mpa, ()) = linksErr ka x := by
        unfold lk33
        simp only [rbay_bayR]
      simp only [cond_false, List.any_nil]
      show (bif ok33 (((), bayR x, ()), (s0, ka, kb, kc, bs.length, (), ()), (ka, ga), (kb, gb), (kc, gc), (bs.length, cnB bs), mpa, ()) then (bif lk33 (((), bayR x, ()), (s0, ka, kb, kc, bs.length, (), ()), (ka, ga), (kb, gb), (kc, gc), (bs.length, cnB bs), mpa, ()) != 0 then
        lI (lk33 (((), bayR x, ()), (s0, ka, kb, kc, bs.length, (), ()), (ka, ga), (kb, gb), (kc, gc), (bs.length, cnB bs), mpa, ())) (H5 s0 ka ga kb gb kc gc bs.length (cnB bs) mpa) else
        (bif decide ((bs.length + 1) * 120 ≤ 140737488355328) && decide (bs.length + 1 ≤ 9223372036854775807) then lI 0 (H33 x s0 ka ga kb gb kc gc bs mpa) else none)) else none) = _
      rw [hok, hlk, appOk (k := bs.length) (b := 120) (by omega) (by omega)]
      unfold aft33
      cases (linksErr ka x != 0) <;> rfl
def r33 : Option (T (AV × Hp)) := bif bayErrD ka kb kc (boolOf (assoc mpa (.string x.name))) bs x != 0 then lI (bayErrD ka kb kc (boolOf (assoc mpa (.string x.name))) bs x) (H5 s0 ka ga kb gb kc gc bs.length (cnB bs) mpa) else lI 0 (H33 x s0 ka ga kb gb kc gc bs mpa)
theorem e33 (hka : ka ≤ 900) (hkb : kb ≤ 900) (hkc : kc ≤ 900) (hbs : bs.length ≤ 900) (hl : x.links.length ≤ 9223372036854775807) (g : Nat) (hg : bs.length < g) :
    callC Tryz.prog (o33 nameOk okRB (fun a => rngOk (rbay a)) ok33 lk33) ann33 g Tryz.f59 (bodyOf Tryz.f59) [.c (.ptr 0 0), aBay x] (H5 s0 ka ga kb gb kc gc bs.length (cnB bs) mpa) = r33 x s0 ka ga kb gb kc gc bs mpa := by
  refine (ev33 nameOk okRB (fun a => rngOk (rbay a)) ok33 lk33 x s0 ka ga kb gb kc gc bs mpa g).trans ?_
  have hL := lp33 x s0 ka ga kb gb kc gc bs mpa hka hkb hkc hbs hl g g 0 (by omega) (by omega)
  have hL0 : L33_18 nameOk okRB (fun a => rngOk (rbay a)) ok33 lk33 x s0 ka ga kb gb kc gc bs mpa g g 0 = bif bs.any (clash x) then lI 12 (H5 s0 ka ga kb gb kc gc bs.length (cnB bs) mpa) else aft33 x s0 ka ga kb gb kc gc bs mpa := hL
  have e1 : okRB (bayR x) = true := okLk_links hl
  have e2 : rngOk (rbay (bayR x)) = rngOk x := by rw [rbay_bayR]
  have e1' : okRB (x.name, x.kind, x.off, x.fin, x.zr, x.zx, linksD x.links, x.closed, x.ct, x.vt, x.sat, x.travel, ()) = true := e1
  have e2' : rngOk (rbay (x.name, x.kind, x.off, x.fin, x.zr, x.zx, linksD x.links, x.closed, x.ct, x.vt, x.sat, x.travel, ())) = rngOk x := e2
  have w0 : IntKind.wrap IntKind.i64 ((1 : Int) - 1) = (1 : Int) - 1 := by decide
  rw [hL0]
  simp only [e1', e2', w1 (show kb ≤ 9223372036854775807 by omega), w1 (show kc ≤ 9223372036854775807 by omega), w0, cond_true]
  unfold r33 bayErrD cntOf within aft33
  cases nameOk x.name with
  | false => rfl
  | true =>
    cases boolOf (assoc mpa (Value.string x.name)) with
    | true => rfl
    | false =>
      cases (x.kind == 1) with
      | true =>
        simp only [cond_true, cond_false, Bool.not_true]
        generalize decide (x.off ≥ 0) = b1
        generalize decide (x.off ≤ (kb : Int) - 1) = b2
        cases b1 <;> cases b2 <;> first | rfl | (cases rngOk x <;> first | rfl | (cases bs.any (clash x) <;> rfl))
      | false =>
        cases (x.kind == 2) with
        | true =>
          simp only [cond_true, cond_false, Bool.not_true]
          generalize decide (x.off ≥ 0) = b1
          generalize decide (x.off ≤ (kc : Int) - 1) = b2
          cases b1 <;> cases b2 <;> first | rfl | (cases rngOk x <;> first | rfl | (cases bs.any (clash x) <;> rfl))
        | false =>
          cases (x.kind == 3) with
          | true =>
            simp only [cond_true, cond_false, Bool.not_true]
            generalize decide (x.off ≥ 0) = b1
            generalize decide (x.off ≤ (1 : Int) - 1) = b2
            cases b1 <;> cases b2 <;> first | rfl | (cases rngOk x <;> first | rfl | (cases bs.any (clash x) <;> rfl))
          | false => rfl
end
end Go.Proofs.YtngoglhlhlfknaaGreat.st
namespace Go.Proofs.YtngoglhlhlfknaaGreat.st
open Go.RowKit Go.Eb
noncomputable def ok32 (a : (Unit × RBay × Unit) × A5) : Bool := (okRB a.1.2.1 && eqs a.2) && okE baysD (.sl 12 a.2.2.2.2.2.1.1 a.2.2.2.2.2.1.2)
noncomputable def er32 (a : (Unit × RBay × Unit) × A5) : Int := bayErrD a.2.2.1.1 a.2.2.2.1.1 a.2.2.2.2.1.1 (boolOf (assoc a.2.2.2.2.2.2.1 (.string (rbay a.1.2.1).name))) (theE baysD (.sl 12 a.2.2.2.2.2.1.1 a.2.2.2.2.2.1.2)) (rbay a.1.2.1)
noncomputable def cn32 (n : Nat) (f : Nat → List D) : Nat → List D := cnB (theE baysD (.sl 12 n f))
noncomputable def bc32 (x : RBay) : List D := bayC (rbay x)
theorem s32 : OrcS Tryz.prog (o32 cn32 bc32 ok32 er32) := by
  have key : ∀ a, ok32 a = true → ∀ e K, r33 (rbay a.1.2.1) a.2.1.1 a.2.2.1.1 a.2.2.1.2 a.2.2.2.1.1 a.2.2.2.1.2 a.2.2.2.2.1.1 a.2.2.2.2.1.2 (theE baysD (.sl 12 a.2.2.2.2.2.1.1 a.2.2.2.2.2.1.2)) a.2.2.2.2.2.2.1 = lI e K → CX Tryz.prog 59 (d55.enc a).1 (d55.enc a).2 (vI e) K := by
    intro a ha e K hr
    unfold ok32 at ha
    simp only [Bool.and_eq_true] at ha
    obtain ⟨⟨h1, h2⟩, h3⟩ := ha
    obtain ⟨he, g1, g2, g3, g4⟩ := enc55 a h2
    have hn := (RL.of_ok h3).1
    have hb := ble_of_ok (t := 66) h3
    generalize hbs : theE baysD (.sl 12 a.2.2.2.2.2.1.1 a.2.2.2.2.2.1.2) = bs at hr hn hb
    have hc := e33 (rbay a.1.2.1) a.2.1.1 a.2.2.1.1 a.2.2.1.2 a.2.2.2.1.1 a.2.2.2.1.2 a.2.2.2.2.1.1 a.2.2.2.2.1.2 bs a.2.2.2.2.2.2.1 g1 g2 g3 (by omega) (okRB_len h1) (bs.length + 1) (by omega)
    rw [hr] at hc
    refine (cx_of s33.ok Tryz.func59 b33 rfl hc).ge (.cons (.refl _) (.cons (bay_le _ h1) .nil)) ?_
    rw [he]
    have e0 : a.2.2.2.2.2.1.1 = bs.length := hn
    refine .cons ?_ (.cons (.refl _) (.cons (.refl _) (.cons (.refl _) (.cons hb (.cons (.refl _) .nil)))))
    rw [e0]
    exact .refl _
  refine .cons (.b (fun a ha hb => ?_) (fun a ha hb => ?_)) .nil
  · have hb' : er32 a = 0 := by simpa using hb
    have h3 : okE baysD (.sl 12 a.2.2.2.2.2.1.1 a.2.2.2.2.2.1.2) = true := by unfold ok32 at ha; simp only [Bool.and_eq_true] at ha; exact ha.2
    have hn := (RL.of_ok h3).1
    refine (key a ha 0 _ ?_).le (.refl _) (.refl _)
    unfold r33
    unfold er32 at hb'
    rw [hb']
    simp only [bne_self_eq_false, cond_false]
    congr 3
    unfold h33 H33 cn32 bc32
    rw [← hn]
    rfl
  · have hb' : er32 a ≠ 0 := by intro e; rw [e] at hb; simp at hb
    have h3 : okE baysD (.sl 12 a.2.2.2.2.2.1.1 a.2.2.2.2.2.1.2) = true := by unfold ok32 at ha; simp only [Bool.and_eq_true] at ha; exact ha.2
    have h2 : eqs a.2 = true := by unfold ok32 at ha; simp only [Bool.and_eq_true] at ha; exact ha.1.2
    have hx := key a ha (er32 a) (H5 a.2.1.1 a.2.2.1.1 a.2.2.1.2 a.2.2.2.1.1 a.2.2.2.1.2 a.2.2.2.2.1.1 a.2.2.2.2.1.2 (theE baysD (.sl 12 a.2.2.2.2.2.1.1 a.2.2.2.2.2.1.2)).length (cnB (theE baysD (.sl 12 a.2.2.2.2.2.1.1 a.2.2.2.2.2.1.2))) a.2.2.2.2.2.2.1) (by
      unfold r33
      have : (bayErrD a.2.2.1.1 a.2.2.2.1.1 a.2.2.2.2.1.1 (boolOf (assoc a.2.2.2.2.2.2.1 (Value.string (rbay a.1.2.1).name))) (theE baysD (.sl 12 a.2.2.2.2.2.1.1 a.2.2.2.2.2.1.2)) (rbay a.1.2.1) != 0) = true := by
        unfold er32 at hb'
        simpa using hb'
      rw [this]
      rfl)
    refine hx.le (.refl _) ?_
    unfold h33e cn32
    have hn := (RL.of_ok h3).1
    rw [← hn]
    exact .refl _
theorem c32 (l : List SBay) (s0 : ByteArray) (ka : Nat) (ga : Nat → List D) (kb : Nat) (gb : Nat → List D) (kc : Nat) (gc : Nat → List D) (N : List ByteArray) (hl : l.length ≤ 900) (hka : ka ≤ 900) (hkb : kb ≤ 900) (hkc : kc ≤ 900) (hlk : ∀ i, i < l.length → (l.getD i bay0).links.length ≤ 9223372036854775807) :
    CX Tryz.prog 58 [.c (.d (baysD l)), fnOf 59] (H4 s0 ka ga kb gb kc gc (mapOf N)) (vI (tBay ka kb kc N l).1)
      (H4' s0 ka ga kb gb kc gc (mapOf (N ++ (tBay ka kb kc N l).2.map SBay.name)) (tBay ka kb kc N l).2.length (fun i => bayC ((tBay ka kb kc N l).2.getD i bay0))) := by
  obtain ⟨g, hg⟩ : ∃ g, l.length < g := ⟨l.length + 1, by omega⟩
  obtain ⟨f', hr, he⟩ := first_loop (nm := SBay.name) (F := fun N before x => bayErr ka kb kc N before x) (N := N) (c := bayC) (d0 := bay0) (l := l) (L := fun m mp n f i => L32_2 cn32 bc32 ok32 er32 l s0 ka ga kb gb kc gc (mapOf N) g m mp n f i) (HX := fun mp n f => H4' s0 ka ga kb gb kc gc mp n f)
    (fun m k before f hk hb hr => by
      have hthe := hr.the (sz := 12) bayC_inj
      have hx : rbay (bayR (l.getD k bay0)) = l.getD k bay0 := rbay_bayR _
      have hok : ok32 (((), bayR (l.getD k bay0), ()), (s0, ka, kb, kc, k, (), ()), (ka, ga), (kb, gb), (kc, gc), (k, f), mapOf (N ++ before.map SBay.name), ()) = true := by
        unfold ok32
        have e1 : okRB (bayR (l.getD k bay0)) = true := okLk_links (hlk k hk)
        have e2 : eqs ((s0, ka, kb, kc, k, (), ()), (ka, ga), (kb, gb), (kc, gc), (k, f), mapOf (N ++ before.map SBay.name), ()) = true := by
          unfold eqs
          simp only [Nat.beq_refl, Bool.true_and, bleD, decide_eq_true hka, decide_eq_true hkb, decide_eq_true hkc, decide_eq_true (show k ≤ 900 by omega)]
        simp only [e1, e2, hthe.1, Bool.and_self]
      have her : er32 (((), bayR (l.getD k bay0), ()), (s0, ka, kb, kc, k, (), ()), (ka, ga), (kb, gb), (kc, gc), (k, f), mapOf (N ++ before.map SBay.name), ()) = bayErr ka kb kc (N ++ before.map SBay.name) before (l.getD k bay0) := by
        unfold er32 bayErr
        simp only [hx, hthe.2, assoc_mapOf]
      refine ⟨appF k (cn32 k f) (chunk (bc32 (bayR (l.getD k bay0))) 12), cn32 k f, ?_, ?_, ?_⟩
      · unfold bc32 cn32
        rw [hx, hthe.2]
        have := (RL.data (c := bayC) (d0 := bay0) before).app' (x := l.getD k bay0) (sz := 12) rfl
        rw [hb] at this
        exact this
      · unfold cn32
        rw [hthe.2]
        have := RL.data (c := bayC) (d0 := bay0) before
        rw [hb] at this
        exact this
      · rw [st32_2]
        simp only [lt1 hk, ge0, tn, Bool.and_self, cond_true, nx hk (by omega)]
        show (bif ok32 (((), bayR (l.getD k bay0), ()), (s0, ka, kb, kc, k, (), ()), (ka, ga), (kb, gb), (kc, gc), (k, f), mapOf (N ++ before.map SBay.name), ()) then
          (bif er32 (((), bayR (l.getD k bay0), ()), (s0, ka, kb, kc, k, (), ()), (ka, ga), (kb, gb), (kc, gc), (k, f), mapOf (N ++ before.map SBay.name), ()) == 0 then
            L32_2 cn32 bc32 ok32 er32 l s0 ka ga kb gb kc gc (mapOf N) g m ((Value.string (l.getD k bay0).name, Value.bool true) :: mapOf (N ++ before.map SBay.name)) (k + 1) (appF k (cn32 k f) (chunk (bc32 (bayR (l.getD k bay0))) 12)) ((k + 1 : Nat) : Int)
          else (bif er32 (((), bayR (l.getD k bay0), ()), (s0, ka, kb, kc, k, (), ()), (ka, ga), (kb, gb), (kc, gc), (k, f), mapOf (N ++ before.map SBay.name), ()) != 0 then lI (er32 (((), bayR (l.getD k bay0), ()), (s0, ka, kb, kc, k, (), ()), (ka, ga), (kb, gb), (kc, gc), (k, f), mapOf (N ++ before.map SBay.name), ())) (H4' s0 ka ga kb gb kc gc (mapOf (N ++ before.map SBay.name)) k (cn32 k f)) else L32_2 cn32 bc32 ok32 er32 l s0 ka ga kb gb kc gc (mapOf N) g m (mapOf (N ++ before.map SBay.name)) k (cn32 k f) ((k + 1 : Nat) : Int))) else none) = _
        rw [hok, her]
        unfold bne
        cases (bayErr ka kb kc (N ++ before.map SBay.name) before (l.getD k bay0) == 0) <;> rfl)
    (fun m mp n f => by
      rw [st32_2, lt0 (Nat.lt_irrefl _)]
      rfl) g 0 [] (fun _ => []) (by omega) (by omega) rfl (.nil _)
  have hev := ev32 cn32 bc32 ok32 er32 l s0 ka ga kb gb kc gc (mapOf N) g
  simp only [List.map_nil, List.append_nil, List.drop_zero] at he hr
  refine (cx_of s32.ok Tryz.func58 b32 rfl (hev.trans he)).le (.refl _) ?_
  exact .cons (.refl _) (.cons (.refl _) (.cons (.refl _) (.cons (.refl _) (.cons (.refl _) (.cons hr.ble .nil)))))
end Go.Proofs.YtngoglhlhlfknaaGreat.st
namespace Go.Proofs.YtngoglhlhlfknaaGreat.st
open Go.RowKit Go.Eb
abbrev AL := D × Unit × Unit
abbrev RW1 := Nat × (Nat → List D)
abbrev A26 := AL × (ByteArray × Unit × Unit × Unit × Unit × Unit × Unit) × List (Value × Value) × Unit
def d26 : Dec (List AV × Hp) A26 := .pair (.cons (.c .data) (.cons (.c (.meth 53)) .nil)) (.cons (.blk 0 (.cells 157 (.cons .str (.cons .nilS (.cons .nilS (.cons .nilS (.cons .nilS (.cons (.mp 1) .nil)))))))) (.cons (.blk 1 (.mapB 0)) .nil))
abbrev A28 := AL × (ByteArray × Nat × Unit × Unit × Unit × Unit × Unit) × RW1 × List (Value × Value) × Unit
def d28 : Dec (List AV × Hp) A28 := .pair (.cons (.c .data) (.cons (.c (.meth 55)) .nil)) (.cons (.blk 0 (.cells 157 (.cons .str (.cons (.row 1 1) (.cons .nilS (.cons .nilS (.cons .nilS (.cons (.mp 2) .nil)))))))) (.cons (.blk 1 (.rowB 1 9)) (.cons (.blk 2 (.mapB 0)) .nil)))
abbrev A30 := AL × (ByteArray × Nat × Nat × Unit × Unit × Unit × Unit) × RW1 × RW1 × List (Value × Value) × Unit
def d30 : Dec (List AV × Hp) A30 := .pair (.cons (.c .data) (.cons (.c (.meth 57)) .nil)) (.cons (.blk 0 (.cells 157 (.cons .str (.cons (.row 1 1) (.cons (.row 2 5) (.cons .nilS (.cons .nilS (.cons (.mp 3) .nil)))))))) (.cons (.blk 1 (.rowB 1 9)) (.cons (.blk 2 (.rowB 5 71)) (.cons (.blk 3 (.mapB 0)) .nil))))
abbrev A32 := AL × (ByteArray × Nat × Nat × Nat × Unit × Unit × Unit) × RW1 × RW1 × RW1 × List (Value × Value) × Unit
def d32 : Dec (List AV × Hp) A32 := .pair (.cons (.c .data) (.cons (.c (.meth 59)) .nil)) (.cons (.blk 0 (.cells 157 (.cons .str (.cons (.row 1 1) (.cons (.row 2 5) (.cons (.row 3 6) (.cons .nilS (.cons (.mp 4) .nil)))))))) (.cons (.blk 1 (.rowB 1 9)) (.cons (.blk 2 (.rowB 5 71)) (.cons (.blk 3 (.rowB 6 74)) (.cons (.blk 4 (.mapB 0)) .nil)))))
structure K12 where
  nk : ByteArray → Bool
  ok1 : A26 → Bool
  e1 : A26 → Int
  m1 : A26 → List (Value × Value)
  n1 : A26 → Nat
  f1 : A26 → Nat → List D
  ok2 : A28 → Bool
  e2 : A28 → Int
  m2 : A28 → List (Value × Value)
  n2 : A28 → Nat
  f2 : A28 → Nat → List D
  ok3 : A30 → Bool
  e3 : A30 → Int
  m3 : A30 → List (Value × Value)
  n3 : A30 → Nat
  f3 : A30 → Nat → List D
  ok4 : A32 → Bool
  e4 : A32 → Int
  m4 : A32 → List (Value × Value)
  n4 : A32 → Nat
  f4 : A32 → Nat → List D
noncomputable def o12 (Z : K12) : Orc := Orc.cons 50 (ansP decS fun s => vB (Z.nk s)) (Orc.cons 51 (inl Tryz.prog Orc.nil na 1 Tryz.f51)
  (Orc.cons 52 (ansD d26 Z.ok1 (fun a => vI (Z.e1 a)) fun a => H1' a.2.1.1 (Z.m1 a) (Z.n1 a) (Z.f1 a))
  (Orc.cons 54 (ansD d28 Z.ok2 (fun a => vI (Z.e2 a)) fun a => H2' a.2.1.1 a.2.2.1.1 a.2.2.1.2 (Z.m2 a) (Z.n2 a) (Z.f2 a))
  (Orc.cons 56 (ansD d30 Z.ok3 (fun a => vI (Z.e3 a)) fun a => H3' a.2.1.1 a.2.2.1.1 a.2.2.1.2 a.2.2.2.1.1 a.2.2.2.1.2 (Z.m3 a) (Z.n3 a) (Z.f3 a))
  (Orc.cons 58 (ansD d32 Z.ok4 (fun a => vI (Z.e4 a)) fun a => H4' a.2.1.1 a.2.2.1.1 a.2.2.1.2 a.2.2.2.1.1 a.2.2.2.1.2 a.2.2.2.2.1.1 a.2.2.2.2.1.2 (Z.m4 a) (Z.n4 a) (Z.f4 a)) Orc.nil)))))
noncomputable def ann12 : Ann := annOf []
theorem b12 : Tryz.f26.body = some (bodyOf Tryz.f26) := by kernel_rfl
theorem ev12 (Z : K12) (s : SSta) (g : Nat) : callC Tryz.prog (o12 Z) ann12 g Tryz.f26 (bodyOf Tryz.f26) [aSta s] [] =
 (bif !K12.nk Z (SSta.name s) then some (T.leaf (AV.c (.d (.v (.int .i64 (7 : Int)))), [])) else (bif (↑(List.length (SSta.buses s)) : Int) == (0 : Int) then some
 (T.leaf (AV.c (.d (.v (.int .i64 (3 : Int)))), [])) else (bif decide ((↑(List.length (SSta.buses s)) : Int) > (4 : Int)) then some (T.leaf (AV.c (C.d (D.v (Value.int
 IntKind.i64 (3 : Int)))), [])) else (bif decide ((↑(List.length (SSta.lines s)) : Int) > (6 : Int)) then some (T.leaf (AV.c (.d (.v (.int .i64 (3 : Int)))), [])) else
 (bif decide ((↑(List.length (SSta.srcs s)) : Int) > (4 : Int)) then some (T.leaf (AV.c (.d (.v (.int .i64 (3 : Int)))), [])) else (bif decide ((↑(List.length
 (SSta.bays s)) : Int) > (16 : Int)) then some (T.leaf (AV.c (.d (.v (.int .i64 (3 : Int)))), [])) else (bif K12.ok1 Z ((busesD (SSta.buses s), (), ()), (⟨#[]⟩, (), (), (), (), (), ()), [], ()) then (bif K12.e1 Z ((busesD (SSta.buses s), (), ()), (⟨#[]⟩, (), (), (), (), (), ()), [], ()) == (0 : Int) then (bif K12.ok2 Z
 ((linesD (SSta.lines s), (), ()), (⟨#[]⟩, K12.n1 Z ((busesD (SSta.buses s), (), ()), (⟨#[]⟩, (), (), (), (), (), ()), [], ()), (), (), (), (), ()), (K12.n1 Z
 ((busesD (SSta.buses s), (), ()), (⟨#[]⟩, (), (), (), (), (), ()), [], ()), K12.f1 Z ((busesD (SSta.buses s), (), ()), (⟨#[]⟩, (), (), (), (), (), ()), [],
 ())), K12.m1 Z ((busesD (SSta.buses s), (), ()), (⟨#[]⟩, (), (), (), (), (), ()), [], ()), ()) then (bif K12.e2 Z ((linesD (SSta.lines s), (), ()), (⟨#[]⟩,
 K12.n1 Z ((busesD (SSta.buses s), (), ()), (⟨#[]⟩, (), (), (), (), (), ()), [], ()), (), (), (), (), ()), (K12.n1 Z ((busesD (SSta.buses s), (), ()), (⟨#[]⟩,
 (), (), (), (), (), ()), [], ()), K12.f1 Z ((busesD (SSta.buses s), (), ()), (⟨#[]⟩, (), (), (), (), (), ()), [], ())), K12.m1 Z ((busesD (SSta.buses s), (), ()),
 (⟨#[]⟩, (), (), (), (), (), ()), [], ()), ()) == (0 : Int) then (bif K12.ok3 Z ((srcsD (SSta.srcs s), (), ()), (⟨#[]⟩, K12.n1 Z ((busesD (SSta.buses s), (),
 ()), (⟨#[]⟩, (), (), (), (), (), ()), [], ()), K12.n2 Z ((linesD (SSta.lines s), (), ()), (⟨#[]⟩, K12.n1 Z ((busesD (SSta.buses s), (), ()), (⟨#[]⟩,
 (), (), (), (), (), ()), [], ()), (), (), (), (), ()), (K12.n1 Z ((busesD (SSta.buses s), (), ()), (⟨#[]⟩, (), (), (), (), (), ()), [], ()), K12.f1 Z ((busesD (SSta.buses
 s), (), ()), (⟨#[]⟩, (), (), (), (), (), ()), [], ())), K12.m1 Z ((busesD (SSta.buses s), (), ()), (⟨#[]⟩, (), (), (), (), (), ()), [], ()), ()), (), (), (),
 ()), (K12.n1 Z ((busesD (SSta.buses s), (), ()), (⟨#[]⟩, (), (), (), (), (), ()), [], ()), K12.f1 Z ((busesD (SSta.buses s), (), ()), (⟨#[]⟩, (), (), (), (),
 (), ()), [], ())), (K12.n2 Z ((linesD (SSta.lines s), (), ()), (⟨#[]⟩, K12.n1 Z ((busesD (SSta.buses s), (), ()), (⟨#[]⟩, (), (), (), (), (), ()), [], ()), (),
 (), (), (), ()), (K12.n1 Z ((busesD (SSta.buses s), (), ()), (⟨#[]⟩, (), (), (), (), (), ()), [], ()), K12.f1 Z ((busesD (SSta.buses s), (), ()), (⟨#[]⟩, (),
 (), (), (), (), ()), [], ())), K12.m1 Z ((busesD (SSta.buses s), (), ()), (⟨#[]⟩, (), (), (), (), (), ()), [], ()), ()), K12.f2 Z ((linesD (SSta.lines s), (), ()),
 (⟨#[]⟩, K12.n1 Z ((busesD (SSta.buses s), (), ()), (⟨#[]⟩, (), (), (), (), (), ()), [], ()), (), (), (), (), ()), (K12.n1 Z ((busesD (SSta.buses s), (), ()),
 (⟨#[]⟩, (), (), (), (), (), ()), [], ()), K12.f1 Z ((busesD (SSta.buses s), (), ()), (⟨#[]⟩, (), (), (), (), (), ()), [], ())), K12.m1 Z ((busesD (SSta.buses
 s), (), ()), (⟨#[]⟩, (), (), (), (), (), ()), [], ()), ())), K12.m2 Z ((linesD (SSta.lines s), (), ()), (⟨#[]⟩, K12.n1 Z ((busesD (SSta.buses s), (), ()),
 (⟨#[]⟩, (), (), (), (), (), ()), [], ()), (), (), (), (), ()), (K12.n1 Z ((busesD (SSta.buses s), (), ()), (⟨#[]⟩, (), (), (), (), (), ()), [], ()), K12.f1 Z
 ((busesD (SSta.buses s), (), ()), (⟨#[]⟩, (), (), (), (), (), ()), [], ())), K12.m1 Z ((busesD (SSta.buses s), (), ()), (⟨#[]⟩, (), (), (), (), (), ()), [],
 ()), ()), ()) then (bif K12.e3 Z ((srcsD (SSta.srcs s), (), ()), (⟨#[]⟩, K12.n1 Z ((busesD (SSta.buses s), (), ()), (⟨#[]⟩, (), (), (), (), (), ()), [], ()),
 K12.n2 Z ((linesD (SSta.lines s), (), ()), (⟨#[]⟩, K12.n1 Z ((busesD (SSta.buses s), (), ()), (⟨#[]⟩, (), (), (), (), (), ()), [], ()), (), (), (), (), ()),
 (K12.n1 Z ((busesD (SSta.buses s), (), ()), (⟨#[]⟩, (), (), (), (), (), ()), [], ()), K12.f1 Z ((busesD (SSta.buses s), (), ()), (⟨#[]⟩, (), (), (), (), (),
 ()), [], ())), K12.m1 Z ((busesD (SSta.buses s), (), ()), (⟨#[]⟩, (), (), (), (), (), ()), [], ()), ()), (), (), (), ()), (K12.n1 Z ((busesD (SSta.buses s), (), ()),
 (⟨#[]⟩, (), (), (), (), (), ()), [], ()), K12.f1 Z ((busesD (SSta.buses s), (), ()), (⟨#[]⟩, (), (), (), (), (), ()), [], ())), (K12.n2 Z ((linesD (SSta.lines
 s), (), ()), (⟨#[]⟩, K12.n1 Z ((busesD (SSta.buses s), (), ()), (⟨#[]⟩, (), (), (), (), (), ()), [], ()), (), (), (), (), ()), (K12.n1 Z ((busesD (SSta.buses
 s), (), ()), (⟨#[]⟩, (), (), (), (), (), ()), [], ()), K12.f1 Z ((busesD (SSta.buses s), (), ()), (⟨#[]⟩, (), (), (), (), (), ()), [], ())), K12.m1 Z ((busesD
 (SSta.buses s), (), ()), (⟨#[]⟩, (), (), (), (), (), ()), [], ()), ()), K12.f2 Z ((linesD (SSta.lines s), (), ()), (⟨#[]⟩, K12.n1 Z ((busesD (SSta.buses s),
 (), ()), (⟨#[]⟩, (), (), (), (), (), ()), [], ()), (), (), (), (), ()), (K12.n1 Z ((busesD (SSta.buses s), (), ()), (⟨#[]⟩, (), (), (), (), (), ()), [], ()),
 K12.f1 Z ((busesD (SSta.buses s), (), ()), (⟨#[]⟩, (), (), (), (), (), ()), [], ())), K12.m1 Z ((busesD (SSta.buses s), (), ()), (⟨#[]⟩, (), (), (), (), (),
 ()), [], ()), ())), K12.m2 Z ((linesD (SSta.lines s), (), ()), (⟨#[]⟩, K12.n1 Z ((busesD (SSta.buses s), (), ()), (⟨#[]⟩, (), (), (), (), (), ()), [], ()), (),
 (), (), (), ()), (K12.n1 Z ((busesD (SSta.buses s), (), ()), (⟨#[]⟩, (), (), (), (), (), ()), [], ()), K12.f1 Z ((busesD (SSta.buses s), (), ()), (⟨#[]⟩, (),
 (), (), (), (), ()), [], ())), K12.m1 Z ((busesD (SSta.buses s), (), ()), (⟨#[]⟩, (), (), (), (), (), ()), [], ()), ()), ()) == (0 : Int) then (bif K12.ok4 Z ((baysD
 (SSta.bays s), (), ()), (⟨#[]⟩, K12.n1 Z ((busesD (SSta.buses s), (), ()), (⟨#[]⟩, (), (), (), (), (), ()), [], ()), K12.n2 Z ((linesD (SSta.lines s), (), ()),
 (⟨#[]⟩, K12.n1 Z ((busesD (SSta.buses s), (), ()), (⟨#[]⟩, (), (), (), (), (), ()), [], ()), (), (), (), (), ()), (K12.n1 Z ((busesD (SSta.buses s), (), ()),
 (⟨#[]⟩, (), (), (), (), (), ()), [], ()), K12.f1 Z ((busesD (SSta.buses s), (), ()), (⟨#[]⟩, (), (), (), (), (), ()), [], ())), K12.m1 Z ((busesD (SSta.buses
 s), (), ()), (⟨#[]⟩, (), (), (), (), (), ()), [], ()), ()), K12.n3 Z ((srcsD (SSta.srcs s), (), ()), (⟨#[]⟩, K12.n1 Z ((busesD (SSta.buses s), (), ()),
 (⟨#[]⟩, (), (), (), (), (), ()), [], ()), K12.n2 Z ((linesD (SSta.lines s), (), ()), (⟨#[]⟩, K12.n1 Z ((busesD (SSta.buses s), (), ()), (⟨#[]⟩, (),
 (), (), (), (), ()), [], ()), (), (), (), (), ()), (K12.n1 Z ((busesD (SSta.buses s), (), ()), (⟨#[]⟩, (), (), (), (), (), ()), [], ()), K12.f1 Z ((busesD (SSta.buses s),
 (), ()), (⟨#[]⟩, (), (), (), (), (), ()), [], ())), K12.m1 Z ((busesD (SSta.buses s), (), ()), (⟨#[]⟩, (), (), (), (), (), ()), [], ()), ()), (), (), (), ()),
 (K12.n1 Z ((busesD (SSta.buses s), (), ()), (⟨#[]⟩, (), (), (), (), (), ()), [], ()), K12.f1 Z ((busesD (SSta.buses s), (), ()), (⟨#[]⟩, (), (), (), (), (),
 ()), [], ())), (K12.n2 Z ((linesD (SSta.lines s), (), ()), (⟨#[]⟩, K12.n1 Z ((busesD (SSta.buses s), (), ()), (⟨#[]⟩, (), (), (), (), (), ()), [], ()), (), (),
 (), (), ()), (K12.n1 Z ((busesD (SSta.buses s), (), ()), (⟨#[]⟩, (), (), (), (), (), ()), [], ()), K12.f1 Z ((busesD (SSta.buses s), (), ()), (⟨#[]⟩, (), (),
 (), (), (), ()), [], ())), K12.m1 Z ((busesD (SSta.buses s), (), ()), (⟨#[]⟩, (), (), (), (), (), ()), [], ()), ()), K12.f2 Z ((linesD (SSta.lines s), (), ()),
 (⟨#[]⟩, K12.n1 Z ((busesD (SSta.buses s), (), ()), (⟨#[]⟩, (), (), (), (), (), ()), [], ()), (), (), (), (), ()), (K12.n1 Z ((busesD (SSta.buses s), (), ()),
 (⟨#[]⟩, (), (), (), (), (), ()), [], ()), K12.f1 Z ((busesD (SSta.buses s), (), ()), (⟨#[]⟩, (), (), (), (), (), ()), [], ())), K12.m1 Z ((busesD (SSta.buses
 s), (), ()), (⟨#[]⟩, (), (), (), (), (), ()), [], ()), ())), K12.m2 Z ((linesD (SSta.lines s), (), ()), (⟨#[]⟩, K12.n1 Z ((busesD (SSta.buses s), (), ()),
 (⟨#[]⟩, (), (), (), (), (), ()), [], ()), (), (), (), (), ()), (K12.n1 Z ((busesD (SSta.buses s), (), ()), (⟨#[]⟩, (), (), (), (), (), ()), [], ()), K12.f1 Z
 ((busesD (SSta.buses s), (), ()), (⟨#[]⟩, (), (), (), (), (), ()), [], ())), K12.m1 Z ((busesD (SSta.buses s), (), ()), (⟨#[]⟩, (), (), (), (), (), ()), [],
 ()), ()), ()), (), (), ()), (K12.n1 Z ((busesD (SSta.buses s), (), ()), (⟨#[]⟩, (), (), (), (), (), ()), [], ()), K12.f1 Z ((busesD (SSta.buses s), (), ()), (⟨#[]⟩, (), (), (), (), (), ()), [], ())), (K12.n2 Z ((linesD (SSta.lines s), (), ()), (⟨#[]⟩, K12.n1 Z ((busesD (SSta.buses s), (), ()), (⟨#[]⟩, (), (), (), (),
 (), ()), [], ()), (), (), (), (), ()), (K12.n1 Z ((busesD (SSta.buses s), (), ()), (⟨#[]⟩, (), (), (), (), (), ()), [], ()), K12.f1 Z ((busesD (SSta.buses s), (), ()),
 (⟨#[]⟩, (), (), (), (), (), ()), [], ())), K12.m1 Z ((busesD (SSta.buses s), (), ()), (⟨#[]⟩, (), (), (), (), (), ()), [], ()), ()), K12.f2 Z ((linesD
 (SSta.lines s), (), ()), (⟨#[]⟩, K12.n1 Z ((busesD (SSta.buses s), (), ()), (⟨#[]⟩, (), (), (), (), (), ()), [], ()), (), (), (), (), ()), (K12.n1 Z ((busesD
 (SSta.buses s), (), ()), (⟨#[]⟩, (), (), (), (), (), ()), [], ()), K12.f1 Z ((busesD (SSta.buses s), (), ()), (⟨#[]⟩, (), (), (), (), (), ()), [], ())), K12.m1
 Z ((busesD (SSta.buses s), (), ()), (⟨#[]⟩, (), (), (), (), (), ()), [], ()), ())), (K12.n3 Z ((srcsD (SSta.srcs s), (), ()), (⟨#[]⟩, K12.n1 Z ((busesD
 (SSta.buses s), (), ()), (⟨#[]⟩, (), (), (), (), (), ()), [], ()), K12.n2 Z ((linesD (SSta.lines s), (), ()), (⟨#[]⟩, K12.n1 Z ((busesD (SSta.buses s), (),
 ()), (⟨#[]⟩, (), (), (), (), (), ()), [], ()), (), (), (), (), ()), (K12.n1 Z ((busesD (SSta.buses s), (), ()), (⟨#[]⟩, (), (), (), (), (), ()), [], ()),
 K12.f1 Z ((busesD (SSta.buses s), (), ()), (⟨#[]⟩, (), (), (), (), (), ()), [], ())), K12.m1 Z ((busesD (SSta.buses s), (), ()), (⟨#[]⟩, (), (), (), (), (),
 ()), [], ()), ()), (), (), (), ()), (K12.n1 Z ((busesD (SSta.buses s), (), ()), (⟨#[]⟩, (), (), (), (), (), ()), [], ()), K12.f1 Z ((busesD (SSta.buses s), (), ()),
 (⟨#[]⟩, (), (), (), (), (), ()), [], ())), (K12.n2 Z ((linesD (SSta.lines s), (), ()), (⟨#[]⟩, K12.n1 Z ((busesD (SSta.buses s), (), ()), (⟨#[]⟩,
 (), (), (), (), (), ()), [], ()), (), (), (), (), ()), (K12.n1 Z ((busesD (SSta.buses s), (), ()), (⟨#[]⟩, (), (), (), (), (), ()), [], ()), K12.f1 Z ((busesD (SSta.buses
 s), (), ()), (⟨#[]⟩, (), (), (), (), (), ()), [], ())), K12.m1 Z ((busesD (SSta.buses s), (), ()), (⟨#[]⟩, (), (), (), (), (), ()), [], ()), ()), K12.f2 Z
 ((linesD (SSta.lines s), (), ()), (⟨#[]⟩, K12.n1 Z ((busesD (SSta.buses s), (), ()), (⟨#[]⟩, (), (), (), (), (), ()), [], ()), (), (), (), (), ()), (K12.n1 Z
 ((busesD (SSta.buses s), (), ()), (⟨#[]⟩, (), (), (), (), (), ()), [], ()), K12.f1 Z ((busesD (SSta.buses s), (), ()), (⟨#[]⟩, (), (), (), (), (), ()), [],
 ())), K12.m1 Z ((busesD (SSta.buses s), (), ()), (⟨#[]⟩, (), (), (), (), (), ()), [], ()), ())), K12.m2 Z ((linesD (SSta.lines s), (), ()), (⟨#[]⟩, K12.n1 Z
 ((busesD (SSta.buses s), (), ()), (⟨#[]⟩, (), (), (), (), (), ()), [], ()), (), (), (), (), ()), (K12.n1 Z ((busesD (SSta.buses s), (), ()), (⟨#[]⟩, (), (),
 (), (), (), ()), [], ()), K12.f1 Z ((busesD (SSta.buses s), (), ()), (⟨#[]⟩, (), (), (), (), (), ()), [], ())), K12.m1 Z ((busesD (SSta.buses s), (), ()), (⟨#[]⟩, (), (), (), (), (), ()), [], ()), ()), ()), K12.f3 Z ((srcsD (SSta.srcs s), (), ()), (⟨#[]⟩, K12.n1 Z ((busesD (SSta.buses s), (), ()), (⟨#[]⟩, (), (),
 (), (), (), ()), [], ()), K12.n2 Z ((linesD (SSta.lines s), (), ()), (⟨#[]⟩, K12.n1 Z ((busesD (SSta.buses s), (), ()), (⟨#[]⟩, (), (), (), (), (), ()), [],
 ()), (), (), (), (), ()), (K12.n1 Z ((busesD (SSta.buses s), (), ()), (⟨#[]⟩, (), (), (), (), (), ()), [], ()), K12.f1 Z ((busesD (SSta.buses s), (), ()), (⟨#[]⟩, (), (), (), (), (), ()), [], ())), K12.m1 Z ((busesD (SSta.buses s), (), ()), (⟨#[]⟩, (), (), (), (), (), ()), [], ()), ()), (), (), (), ()), (K12.n1 Z ((busesD
 (SSta.buses s), (), ()), (⟨#[]⟩, (), (), (), (), (), ()), [], ()), K12.f1 Z ((busesD (SSta.buses s), (), ()), (⟨#[]⟩, (), (), (), (), (), ()), [], ())),
 (K12.n2 Z ((linesD (SSta.lines s), (), ()), (⟨#[]⟩, K12.n1 Z ((busesD (SSta.buses s), (), ()), (⟨#[]⟩, (), (), (), (), (), ()), [], ()), (), (), (), (), ()),
 (K12.n1 Z ((busesD (SSta.buses s), (), ()), (⟨#[]⟩, (), (), (), (), (), ()), [], ()), K12.f1 Z ((busesD (SSta.buses s), (), ()), (⟨#[]⟩, (), (), (), (), (),
 ()), [], ())), K12.m1 Z ((busesD (SSta.buses s), (), ()), (⟨#[]⟩, (), (), (), (), (), ()), [], ()), ()), K12.f2 Z ((linesD (SSta.lines s), (), ()), (⟨#[]⟩,
 K12.n1 Z ((busesD (SSta.buses s), (), ()), (⟨#[]⟩, (), (), (), (), (), ()), [], ()), (), (), (), (), ()), (K12.n1 Z ((busesD (SSta.buses s), (), ()), (⟨#[]⟩,
 (), (), (), (), (), ()), [], ()), K12.f1 Z ((busesD (SSta.buses s), (), ()), (⟨#[]⟩, (), (), (), (), (), ()), [], ())), K12.m1 Z ((busesD (SSta.buses s), (), ()),
 (⟨#[]⟩, (), (), (), (), (), ()), [], ()), ())), K12.m2 Z ((linesD (SSta.lines s), (), ()), (⟨#[]⟩, K12.n1 Z ((busesD (SSta.buses s), (), ()), (⟨#[]⟩, (), (), (), (), (), ()), [], ()), (), (), (), (), ()), (K12.n1 Z ((busesD (SSta.buses s), (), ()), (⟨#[]⟩, (), (), (), (), (), ()), [], ()), K12.f1 Z ((busesD
 (SSta.buses s), (), ()), (⟨#[]⟩, (), (), (), (), (), ()), [], ())), K12.m1 Z ((busesD (SSta.buses s), (), ()), (⟨#[]⟩, (), (), (), (), (), ()), [], ()), ()),
 ())), K12.m3 Z ((srcsD (SSta.srcs s), (), ()), (⟨#[]⟩, K12.n1 Z ((busesD (SSta.buses s), (), ()), (⟨#[]⟩, (), (), (), (), (), ()), [], ()), K12.n2 Z ((linesD
 (SSta.lines s), (), ()), (⟨#[]⟩, K12.n1 Z ((busesD (SSta.buses s), (), ()), (⟨#[]⟩, (), (), (), (), (), ()), [], ()), (), (), (), (), ()), (K12.n1 Z ((busesD
 (SSta.buses s), (), ()), (⟨#[]⟩, (), (), (), (), (), ()), [], ()), K12.f1 Z ((busesD (SSta.buses s), (), ()), (⟨#[]⟩, (), (), (), (), (), ()), [], ())), K12.m1
 Z ((busesD (SSta.buses s), (), ()), (⟨#[]⟩, (), (), (), (), (), ()), [], ()), ()), (), (), (), ()), (K12.n1 Z ((busesD (SSta.buses s), (), ()), (⟨#[]⟩, (), (),
 (), (), (), ()), [], ()), K12.f1 Z ((busesD (SSta.buses s), (), ()), (⟨#[]⟩, (), (), (), (), (), ()), [], ())), (K12.n2 Z ((linesD (SSta.lines s), (), ()), (⟨#[]⟩, K12.n1 Z ((busesD (SSta.buses s), (), ()), (⟨#[]⟩, (), (), (), (), (), ()), [], ()), (), (), (), (), ()), (K12.n1 Z ((busesD (SSta.buses s), (), ()), (⟨#[]⟩, (), (), (), (), (), ()), [], ()), K12.f1 Z ((busesD (SSta.buses s), (), ()), (⟨#[]⟩, (), (), (), (), (), ()), [], ())), K12.m1 Z ((busesD (SSta.buses s), (), ()),
 (⟨#[]⟩, (), (), (), (), (), ()), [], ()), ()), K12.f2 Z ((linesD (SSta.lines s), (), ()), (⟨#[]⟩, K12.n1 Z ((busesD (SSta.buses s), (), ()), (⟨#[]⟩,
 (), (), (), (), (), ()), [], ()), (), (), (), (), ()), (K12.n1 Z ((busesD (SSta.buses s), (), ()), (⟨#[]⟩, (), (), (), (), (), ()), [], ()), K12.f1 Z ((busesD (SSta.buses
 s), (), ()), (⟨#[]⟩, (), (), (), (), (), ()), [], ())), K12.m1 Z ((busesD (SSta.buses s), (), ()), (⟨#[]⟩, (), (), (), (), (), ()), [], ()), ())), K12.m2 Z
 ((linesD (SSta.lines s), (), ()), (⟨#[]⟩, K12.n1 Z ((busesD (SSta.buses s), (), ()), (⟨#[]⟩, (), (), (), (), (), ()), [], ()), (), (), (), (), ()), (K12.n1 Z
 ((busesD (SSta.buses s), (), ()), (⟨#[]⟩, (), (), (), (), (), ()), [], ()), K12.f1 Z ((busesD (SSta.buses s), (), ()), (⟨#[]⟩, (), (), (), (), (), ()), [],
 ())), K12.m1 Z ((busesD (SSta.buses s), (), ()), (⟨#[]⟩, (), (), (), (), (), ()), [], ()), ()), ()), ()) then some (T.leaf (AV.c (.d (.v (.int .i64 (K12.e4
 Z ((baysD (SSta.bays s), (), ()), (⟨#[]⟩, K12.n1 Z ((busesD (SSta.buses s), (), ()), (⟨#[]⟩, (), (), (), (), (), ()), [], ()), K12.n2 Z ((linesD (SSta.lines
 s), (), ()), (⟨#[]⟩, K12.n1 Z ((busesD (SSta.buses s), (), ()), (⟨#[]⟩, (), (), (), (), (), ()), [], ()), (), (), (), (), ()), (K12.n1 Z ((busesD (SSta.buses
 s), (), ()), (⟨#[]⟩, (), (), (), (), (), ()), [], ()), K12.f1 Z ((busesD (SSta.buses s), (), ()), (⟨#[]⟩, (), (), (), (), (), ()), [], ())), K12.m1 Z ((busesD
 (SSta.buses s), (), ()), (⟨#[]⟩, (), (), (), (), (), ()), [], ()), ()), K12.n3 Z ((srcsD (SSta.srcs s), (), ()), (⟨#[]⟩, K12.n1 Z ((busesD (SSta.buses s), (),
 ()), (⟨#[]⟩, (), (), (), (), (), ()), [], ()), K12.n2 Z ((linesD (SSta.lines s), (), ()), (⟨#[]⟩, K12.n1 Z ((busesD (SSta.buses s), (), ()), (⟨#[]⟩,
 (), (), (), (), (), ()), [], ()), (), (), (), (), ()), (K12.n1 Z ((busesD (SSta.buses s), (), ()), (⟨#[]⟩, (), (), (), (), (), ()), [], ()), K12.f1 Z ((busesD (SSta.buses
 s), (), ()), (⟨#[]⟩, (), (), (), (), (), ()), [], ())), K12.m1 Z ((busesD (SSta.buses s), (), ()), (⟨#[]⟩, (), (), (), (), (), ()), [], ()), ()), (), (), (),
 ()), (K12.n1 Z ((busesD (SSta.buses s), (), ()), (⟨#[]⟩, (), (), (), (), (), ()), [], ()), K12.f1 Z ((busesD (SSta.buses s), (), ()), (⟨#[]⟩, (), (), (), (),
 (), ()), [], ())), (K12.n2 Z ((linesD (SSta.lines s), (), ()), (⟨#[]⟩, K12.n1 Z ((busesD (SSta.buses s), (), ()), (⟨#[]⟩, (), (), (), (), (), ()), [], ()), (),
 (), (), (), ()), (K12.n1 Z ((busesD (SSta.buses s), (), ()), (⟨#[]⟩, (), (), (), (), (), ()), [], ()), K12.f1 Z ((busesD (SSta.buses s), (), ()), (⟨#[]⟩, (),
 (), (), (), (), ()), [], ())), K12.m1 Z ((busesD (SSta.buses s), (), ()), (⟨#[]⟩, (), (), (), (), (), ()), [], ()), ()), K12.f2 Z ((linesD (SSta.lines s), (), ()),
 (⟨#[]⟩, K12.n1 Z ((busesD (SSta.buses s), (), ()), (⟨#[]⟩, (), (), (), (), (), ()), [], ()), (), (), (), (), ()), (K12.n1 Z ((busesD (SSta.buses s), (), ()),
 (⟨#[]⟩, (), (), (), (), (), ()), [], ()), K12.f1 Z ((busesD (SSta.buses s), (), ()), (⟨#[]⟩, (), (), (), (), (), ()), [], ())), K12.m1 Z ((busesD (SSta.buses
 s), (), ()), (⟨#[]⟩, (), (), (), (), (), ()), [], ()), ())), K12.m2 Z ((linesD (SSta.lines s), (), ()), (⟨#[]⟩, K12.n1 Z ((busesD (SSta.buses s), (), ()),
 (⟨#[]⟩, (), (), (), (), (), ()), [], ()), (), (), (), (), ()), (K12.n1 Z ((busesD (SSta.buses s), (), ()), (⟨#[]⟩, (), (), (), (), (), ()), [], ()), K12.f1 Z
 ((busesD (SSta.buses s), (), ()), (⟨#[]⟩, (), (), (), (), (), ()), [], ())), K12.m1 Z ((busesD (SSta.buses s), (), ()), (⟨#[]⟩, (), (), (), (), (), ()), [],
 ()), ()), ()), (), (), ()), (K12.n1 Z ((busesD (SSta.buses s), (), ()), (⟨#[]⟩, (), (), (), (), (), ()), [], ()), K12.f1 Z ((busesD (SSta.buses s), (), ()), (⟨#[]⟩, (), (), (), (), (), ()), [], ())), (K12.n2 Z ((linesD (SSta.lines s), (), ()), (⟨#[]⟩, K12.n1 Z ((busesD (SSta.buses s), (), ()), (⟨#[]⟩, (), (), (), (),
 (), ()), [], ()), (), (), (), (), ()), (K12.n1 Z ((busesD (SSta.buses s), (), ()), (⟨#[]⟩, (), (), (), (), (), ()), [], ()), K12.f1 Z ((busesD (SSta.buses s), (), ()),
 (⟨#[]⟩, (), (), (), (), (), ()), [], ())), K12.m1 Z ((busesD (SSta.buses s), (), ()), (⟨#[]⟩, (), (), (), (), (), ()), [], ()), ()), K12.f2 Z ((linesD
 (SSta.lines s), (), ()), (⟨#[]⟩, K12.n1 Z ((busesD (SSta.buses s), (), ()), (⟨#[]⟩, (), (), (), (), (), ()), [], ()), (), (), (), (), ()), (K12.n1 Z ((busesD
 (SSta.buses s), (), ()), (⟨#[]⟩, (), (), (), (), (), ()), [], ()), K12.f1 Z ((busesD (SSta.buses s), (), ()), (⟨#[]⟩, (), (), (), (), (), ()), [], ())), K12.m1
 Z ((busesD (SSta.buses s), (), ()), (⟨#[]⟩, (), (), (), (), (), ()), [], ()), ())), (K12.n3 Z ((srcsD (SSta.srcs s), (), ()), (⟨#[]⟩, K12.n1 Z ((busesD
 (SSta.buses s), (), ()), (⟨#[]⟩, (), (), (), (), (), ()), [], ()), K12.n2 Z ((linesD (SSta.lines s), (), ()), (⟨#[]⟩, K12.n1 Z ((busesD (SSta.buses s), (),
 ()), (⟨#[]⟩, (), (), (), (), (), ()), [], ()), (), (), (), (), ()), (K12.n1 Z ((busesD (SSta.buses s), (), ()), (⟨#[]⟩, (), (), (), (), (), ()), [], ()),
 K12.f1 Z ((busesD (SSta.buses s), (), ()), (⟨#[]⟩, (), (), (), (), (), ()), [], ())), K12.m1 Z ((busesD (SSta.buses s), (), ()), (⟨#[]⟩, (), (), (), (), (),
 ()), [], ()), ()), (), (), (), ()), (K12.n1 Z ((busesD (SSta.buses s), (), ()), (⟨#[]⟩, (), (), (), (), (), ()), [], ()), K12.f1 Z ((busesD (SSta.buses s), (), ()),
 (⟨#[]⟩, (), (), (), (), (), ()), [], ())), (K12.n2 Z ((linesD (SSta.lines s), (), ()), (⟨#[]⟩, K12.n1 Z ((busesD (SSta.buses s), (), ()), (⟨#[]⟩,
 (), (), (), (), (), ()), [], ()), (), (), (), (), ()), (K12.n1 Z ((busesD (SSta.buses s), (), ()), (⟨#[]⟩, (), (), (), (), (), ()), [], ()), K12.f1 Z ((busesD (SSta.buses
 s), (), ()), (⟨#[]⟩, (), (), (), (), (), ()), [], ())), K12.m1 Z ((busesD (SSta.buses s), (), ()), (⟨#[]⟩, (), (), (), (), (), ()), [], ()), ()), K12.f2 Z
 ((linesD (SSta.lines s), (), ()), (⟨#[]⟩, K12.n1 Z ((busesD (SSta.buses s), (), ()), (⟨#[]⟩, (), (), (), (), (), ()), [], ()), (), (), (), (), ()), (K12.n1 Z
 ((busesD (SSta.buses s), (), ()), (⟨#[]⟩, (), (), (), (), (), ()), [], ()), K12.f1 Z ((busesD (SSta.buses s), (), ()), (⟨#[]⟩, (), (), (), (), (), ()), [],
 ())), K12.m1 Z ((busesD (SSta.buses s), (), ()), (⟨#[]⟩, (), (), (), (), (), ()), [], ()), ())), K12.m2 Z ((linesD (SSta.lines s), (), ()), (⟨#[]⟩, K12.n1 Z
 ((busesD (SSta.buses s), (), ()), (⟨#[]⟩, (), (), (), (), (), ()), [], ()), (), (), (), (), ()), (K12.n1 Z ((busesD (SSta.buses s), (), ()), (⟨#[]⟩, (), (),
 (), (), (), ()), [], ()), K12.f1 Z ((busesD (SSta.buses s), (), ()), (⟨#[]⟩, (), (), (), (), (), ()), [], ())), K12.m1 Z ((busesD (SSta.buses s), (), ()), (⟨#[]⟩, (), (), (), (), (), ()), [], ()), ()), ()), K12.f3 Z ((srcsD (SSta.srcs s), (), ()), (⟨#[]⟩, K12.n1 Z ((busesD (SSta.buses s), (), ()), (⟨#[]⟩, (), (),
 (), (), (), ()), [], ()), K12.n2 Z ((linesD (SSta.lines s), (), ()), (⟨#[]⟩, K12.n1 Z ((busesD (SSta.buses s), (), ()), (⟨#[]⟩, (), (), (), (), (), ()), [],
 ()), (), (), (), (), ()), (K12.n1 Z ((busesD (SSta.buses s), (), ()), (⟨#[]⟩, (), (), (), (), (), ()), [], ()), K12.f1 Z ((busesD (SSta.buses s), (), ()), (⟨#[]⟩, (), (), (), (), (), ()), [], ())), K12.m1 Z ((busesD (SSta.buses s), (), ()), (⟨#[]⟩, (), (), (), (), (), ()), [], ()), ()), (), (), (), ()), (K12.n1 Z ((busesD
 (SSta.buses s), (), ()), (⟨#[]⟩, (), (), (), (), (), ()), [], ()), K12.f1 Z ((busesD (SSta.buses s), (), ()), (⟨#[]⟩, (), (), (), (), (), ()), [], ())),
 (K12.n2 Z ((linesD (SSta.lines s), (), ()), (⟨#[]⟩, K12.n1 Z ((busesD (SSta.buses s), (), ()), (⟨#[]⟩, (), (), (), (), (), ()), [], ()), (), (), (), (), ()),
 (K12.n1 Z ((busesD (SSta.buses s), (), ()), (⟨#[]⟩, (), (), (), (), (), ()), [], ()), K12.f1 Z ((busesD (SSta.buses s), (), ()), (⟨#[]⟩, (), (), (), (), (),
 ()), [], ())), K12.m1 Z ((busesD (SSta.buses s), (), ()), (⟨#[]⟩, (), (), (), (), (), ()), [], ()), ()), K12.f2 Z ((linesD (SSta.lines s), (), ()), (⟨#[]⟩,
 K12.n1 Z ((busesD (SSta.buses s), (), ()), (⟨#[]⟩, (), (), (), (), (), ()), [], ()), (), (), (), (), ()), (K12.n1 Z ((busesD (SSta.buses s), (), ()), (⟨#[]⟩,
 (), (), (), (), (), ()), [], ()), K12.f1 Z ((busesD (SSta.buses s), (), ()), (⟨#[]⟩, (), (), (), (), (), ()), [], ())), K12.m1 Z ((busesD (SSta.buses s), (), ()),
 (⟨#[]⟩, (), (), (), (), (), ()), [], ()), ())), K12.m2 Z ((linesD (SSta.lines s), (), ()), (⟨#[]⟩, K12.n1 Z ((busesD (SSta.buses s), (), ()), (⟨#[]⟩, (), (), (), (), (), ()), [], ()), (), (), (), (), ()), (K12.n1 Z ((busesD (SSta.buses s), (), ()), (⟨#[]⟩, (), (), (), (), (), ()), [], ()), K12.f1 Z ((busesD
 (SSta.buses s), (), ()), (⟨#[]⟩, (), (), (), (), (), ()), [], ())), K12.m1 Z ((busesD (SSta.buses s), (), ()), (⟨#[]⟩, (), (), (), (), (), ()), [], ()), ()),
 ())), K12.m3 Z ((srcsD (SSta.srcs s), (), ()), (⟨#[]⟩, K12.n1 Z ((busesD (SSta.buses s), (), ()), (⟨#[]⟩, (), (), (), (), (), ()), [], ()), K12.n2 Z ((linesD
 (SSta.lines s), (), ()), (⟨#[]⟩, K12.n1 Z ((busesD (SSta.buses s), (), ()), (⟨#[]⟩, (), (), (), (), (), ()), [], ()), (), (), (), (), ()), (K12.n1 Z ((busesD
 (SSta.buses s), (), ()), (⟨#[]⟩, (), (), (), (), (), ()), [], ()), K12.f1 Z ((busesD (SSta.buses s), (), ()), (⟨#[]⟩, (), (), (), (), (), ()), [], ())), K12.m1
 Z ((busesD (SSta.buses s), (), ()), (⟨#[]⟩, (), (), (), (), (), ()), [], ()), ()), (), (), (), ()), (K12.n1 Z ((busesD (SSta.buses s), (), ()), (⟨#[]⟩, (), (),
 (), (), (), ()), [], ()), K12.f1 Z ((busesD (SSta.buses s), (), ()), (⟨#[]⟩, (), (), (), (), (), ()), [], ())), (K12.n2 Z ((linesD (SSta.lines s), (), ()), (⟨#[]⟩, K12.n1 Z ((busesD (SSta.buses s), (), ()), (⟨#[]⟩, (), (), (), (), (), ()), [], ()), (), (), (), (), ()), (K12.n1 Z ((busesD (SSta.buses s), (), ()), (⟨#[]⟩, (), (), (), (), (), ()), [], ()), K12.f1 Z ((busesD (SSta.buses s), (), ()), (⟨#[]⟩, (), (), (), (), (), ()), [], ())), K12.m1 Z ((busesD (SSta.buses s), (), ()),
 (⟨#[]⟩, (), (), (), (), (), ()), [], ()), ()), K12.f2 Z ((linesD (SSta.lines s), (), ()), (⟨#[]⟩, K12.n1 Z ((busesD (SSta.buses s), (), ()), (⟨#[]⟩,
 (), (), (), (), (), ()), [], ()), (), (), (), (), ()), (K12.n1 Z ((busesD (SSta.buses s), (), ()), (⟨#[]⟩, (), (), (), (), (), ()), [], ()), K12.f1 Z ((busesD (SSta.buses
 s), (), ()), (⟨#[]⟩, (), (), (), (), (), ()), [], ())), K12.m1 Z ((busesD (SSta.buses s), (), ()), (⟨#[]⟩, (), (), (), (), (), ()), [], ()), ())), K12.m2 Z
 ((linesD (SSta.lines s), (), ()), (⟨#[]⟩, K12.n1 Z ((busesD (SSta.buses s), (), ()), (⟨#[]⟩, (), (), (), (), (), ()), [], ()), (), (), (), (), ()), (K12.n1 Z
 ((busesD (SSta.buses s), (), ()), (⟨#[]⟩, (), (), (), (), (), ()), [], ()), K12.f1 Z ((busesD (SSta.buses s), (), ()), (⟨#[]⟩, (), (), (), (), (), ()), [],
 ())), K12.m1 Z ((busesD (SSta.buses s), (), ()), (⟨#[]⟩, (), (), (), (), (), ()), [], ()), ()), ()), ()))))), [])) else none) else some (T.leaf (AV.c (C.d (D.v (Value.int
 IntKind.i64 (K12.e3 Z ((srcsD (SSta.srcs s), (), ()), (⟨#[]⟩, K12.n1 Z ((busesD (SSta.buses s), (), ()), (⟨#[]⟩, (), (), (), (), (), ()), [], ()), K12.n2 Z
 ((linesD (SSta.lines s), (), ()), (⟨#[]⟩, K12.n1 Z ((busesD (SSta.buses s), (), ()), (⟨#[]⟩, (), (), (), (), (), ()), [], ()), (), (), (), (), ()), (K12.n1 Z
 ((busesD (SSta.buses s), (), ()), (⟨#[]⟩, (), (), (), (), (), ()), [], ()), K12.f1 Z ((busesD (SSta.buses s), (), ()), (⟨#[]⟩, (), (), (), (), (), ()), [],
 ())), K12.m1 Z ((busesD (SSta.buses s), (), ()), (⟨#[]⟩, (), (), (), (), (), ()), [], ()), ()), (), (), (), ()), (K12.n1 Z ((busesD (SSta.buses s), (), ()), (⟨#[]⟩, (), (), (), (), (), ()), [], ()), K12.f1 Z ((busesD (SSta.buses s), (), ()), (⟨#[]⟩, (), (), (), (), (), ()), [], ())), (K12.n2 Z ((linesD (SSta.lines s), (), ()),
 (⟨#[]⟩, K12.n1 Z ((busesD (SSta.buses s), (), ()), (⟨#[]⟩, (), (), (), (), (), ()), [], ()), (), (), (), (), ()), (K12.n1 Z ((busesD (SSta.buses s), (), ()),
 (⟨#[]⟩, (), (), (), (), (), ()), [], ()), K12.f1 Z ((busesD (SSta.buses s), (), ()), (⟨#[]⟩, (), (), (), (), (), ()), [], ())), K12.m1 Z ((busesD (SSta.buses
 s), (), ()), (⟨#[]⟩, (), (), (), (), (), ()), [], ()), ()), K12.f2 Z ((linesD (SSta.lines s), (), ()), (⟨#[]⟩, K12.n1 Z ((busesD (SSta.buses s), (), ()),
 (⟨#[]⟩, (), (), (), (), (), ()), [], ()), (), (), (), (), ()), (K12.n1 Z ((busesD (SSta.buses s), (), ()), (⟨#[]⟩, (), (), (), (), (), ()), [], ()), K12.f1 Z
 ((busesD (SSta.buses s), (), ()), (⟨#[]⟩, (), (), (), (), (), ()), [], ())), K12.m1 Z ((busesD (SSta.buses s), (), ()), (⟨#[]⟩, (), (), (), (), (), ()), [],
 ()), ())), K12.m2 Z ((linesD (SSta.lines s), (), ()), (⟨#[]⟩, K12.n1 Z ((busesD (SSta.buses s), (), ()), (⟨#[]⟩, (), (), (), (), (), ()), [], ()), (), (), (),
 (), ()), (K12.n1 Z ((busesD (SSta.buses s), (), ()), (⟨#[]⟩, (), (), (), (), (), ()), [], ()), K12.f1 Z ((busesD (SSta.buses s), (), ()), (⟨#[]⟩, (), (), (),
 (), (), ()), [], ())), K12.m1 Z ((busesD (SSta.buses s), (), ()), (⟨#[]⟩, (), (), (), (), (), ()), [], ()), ()), ()))))), []))) else none) else (bif K12.e2 Z ((linesD
 (SSta.lines s), (), ()), (⟨#[]⟩, K12.n1 Z ((busesD (SSta.buses s), (), ()), (⟨#[]⟩, (), (), (), (), (), ()), [], ()), (), (), (), (), ()), (K12.n1 Z ((busesD
 (SSta.buses s), (), ()), (⟨#[]⟩, (), (), (), (), (), ()), [], ()), K12.f1 Z ((busesD (SSta.buses s), (), ()), (⟨#[]⟩, (), (), (), (), (), ()), [], ())), K12.m1
 Z ((busesD (SSta.buses s), (), ()), (⟨#[]⟩, (), (), (), (), (), ()), [], ()), ()) == (0 : Int) then none else some (T.leaf (AV.c (.d (.v (.int .i64 (K12.e2
 Z ((linesD (SSta.lines s), (), ()), (⟨#[]⟩, K12.n1 Z ((busesD (SSta.buses s), (), ()), (⟨#[]⟩, (), (), (), (), (), ()), [], ()), (), (), (), (), ()), (K12.n1 Z
 ((busesD (SSta.buses s), (), ()), (⟨#[]⟩, (), (), (), (), (), ()), [], ()), K12.f1 Z ((busesD (SSta.buses s), (), ()), (⟨#[]⟩, (), (), (), (), (), ()), [],
 ())), K12.m1 Z ((busesD (SSta.buses s), (), ()), (⟨#[]⟩, (), (), (), (), (), ()), [], ()), ()))))), [])))) else none) else (bif K12.e1 Z ((busesD (SSta.buses s), (), ()),
 (⟨#[]⟩, (), (), (), (), (), ()), [], ()) == (0 : Int) then none else (bif K12.e1 Z ((busesD (SSta.buses s), (), ()), (⟨#[]⟩, (), (), (), (), (), ()), [], ())
 == (0 : Int) then none else some (T.leaf (AV.c (.d (.v (.int .i64 (K12.e1 Z ((busesD (SSta.buses s), (), ()), (⟨#[]⟩, (), (), (), (), (), ()), [], ()))))),
 []))))) else none))))))) := by kernel_rfl
end Go.Proofs.YtngoglhlhlfknaaGreat.st
namespace Go.Proofs.YtngoglhlhlfknaaGreat.st
open Go.RowKit Go.Eb
noncomputable abbrev u1 (a : A26) := takeN id (fun N _ x => namErr N x) (theM a.2.2.1) [] (theE busesD a.1.1)
noncomputable abbrev u2 (a : A28) := tLine (theM a.2.2.2.1) (theE linesD a.1.1)
noncomputable abbrev u3 (a : A30) := tSrc (theM a.2.2.2.2.1) (theE srcsD a.1.1)
noncomputable abbrev u4 (a : A32) := tBay a.2.2.1.1 a.2.2.2.1.1 a.2.2.2.2.1.1 (theM a.2.2.2.2.2.1) (theE baysD a.1.1)
noncomputable def Z12 : K12 where
  nk := nameOk
  ok1 a := okE busesD a.1.1 && (decide ((theE busesD a.1.1).length ≤ 900) && okM a.2.2.1)
  e1 a := (u1 a).1
  m1 a := mapOf (theM a.2.2.1 ++ (u1 a).2.map id)
  n1 a := (u1 a).2.length
  f1 a := fun i => busC ((u1 a).2.getD i e0)
  ok2 a := okE linesD a.1.1 && (decide ((theE linesD a.1.1).length ≤ 900) && (okM a.2.2.2.1 && Nat.beq a.2.1.2.1 a.2.2.1.1))
  e2 a := (u2 a).1
  m2 a := mapOf (theM a.2.2.2.1 ++ (u2 a).2.map SLine.name)
  n2 a := (u2 a).2.length
  f2 a := fun i => lineC ((u2 a).2.getD i line0)
  ok3 a := okE srcsD a.1.1 && (decide ((theE srcsD a.1.1).length ≤ 900) && (okM a.2.2.2.2.1 && (Nat.beq a.2.1.2.1 a.2.2.1.1 && Nat.beq a.2.1.2.2.1 a.2.2.2.1.1)))
  e3 a := (u3 a).1
  m3 a := mapOf (theM a.2.2.2.2.1 ++ (u3 a).2.map SSrc.name)
  n3 a := (u3 a).2.length
  f3 a := fun i => srcC' ((u3 a).2.getD i src0)
  ok4 a := okE baysD a.1.1 && (decide ((theE baysD a.1.1).length ≤ 900) && (okM a.2.2.2.2.2.1 && (Nat.beq a.2.1.2.1 a.2.2.1.1 && (Nat.beq a.2.1.2.2.1 a.2.2.2.1.1 && (Nat.beq a.2.1.2.2.2.1 a.2.2.2.2.1.1 && (Nat.ble a.2.2.1.1 900 && (Nat.ble a.2.2.2.1.1 900 && (Nat.ble a.2.2.2.2.1.1 900 && lksOk (theE baysD a.1.1)))))))))
  e4 a := (u4 a).1
  m4 a := mapOf (theM a.2.2.2.2.2.1 ++ (u4 a).2.map SBay.name)
  n4 a := (u4 a).2.length
  f4 a := fun i => bayC ((u4 a).2.getD i bay0)
theorem s12 : OrcS Tryz.prog (o12 Z12) := by
  refine .cons (.p decS_ok c15) (.cons (.inl .nil Tryz.func51 (by kernel_rfl)) (.cons (.d fun a ha => ?_) (.cons (.d fun a ha => ?_) (.cons (.d fun a ha => ?_) (.cons (.d fun a ha => ?_) .nil)))))
  · have ha' : (okE busesD a.1.1 && (decide ((theE busesD a.1.1).length ≤ 900) && okM a.2.2.1)) = true := ha
    simp only [Bool.and_eq_true, decide_eq_true_eq] at ha'
    obtain ⟨h1, h2, h3⟩ := ha'
    have hm := theM_spec h3
    refine (c26 (theE busesD a.1.1) a.2.1.1 (theM a.2.2.1) h2).ge (.cons (theE_de h1) (.cons (.refl _) .nil)) ?_
    show Hle (H1 a.2.1.1 a.2.2.1) _
    rw [← hm]
    exact .refl _
  · have ha' : (okE linesD a.1.1 && (decide ((theE linesD a.1.1).length ≤ 900) && (okM a.2.2.2.1 && Nat.beq a.2.1.2.1 a.2.2.1.1))) = true := ha
    simp only [Bool.and_eq_true, decide_eq_true_eq] at ha'
    obtain ⟨h1, h2, h3, h4⟩ := ha'
    have hm := theM_spec h3
    have e4 := Nat.eq_of_beq_eq_true h4
    refine (c28 (theE linesD a.1.1) a.2.1.1 a.2.2.1.1 a.2.2.1.2 (theM a.2.2.2.1) h2).ge (.cons (theE_de h1) (.cons (.refl _) .nil)) ?_
    show Hle [(0, .cells [.d (dS a.2.1.1), .row 1 1 a.2.1.2.1, nilC, nilC, nilC, .mp 2] 157), (1, .row a.2.2.1.1 a.2.2.1.2 1 9), (2, .map 0 a.2.2.2.1)] _
    rw [← hm, e4]
    exact .refl _
  · have ha' : (okE srcsD a.1.1 && (decide ((theE srcsD a.1.1).length ≤ 900) && (okM a.2.2.2.2.1 && (Nat.beq a.2.1.2.1 a.2.2.1.1 && Nat.beq a.2.1.2.2.1 a.2.2.2.1.1)))) = true := ha
    simp only [Bool.and_eq_true, decide_eq_true_eq] at ha'
    obtain ⟨h1, h2, h3, h4, h5⟩ := ha'
    have hm := theM_spec h3
    have e4 := Nat.eq_of_beq_eq_true h4
    have e5 := Nat.eq_of_beq_eq_true h5
    refine (c30 (theE srcsD a.1.1) a.2.1.1 a.2.2.1.1 a.2.2.1.2 a.2.2.2.1.1 a.2.2.2.1.2 (theM a.2.2.2.2.1) h2).ge (.cons (theE_de h1) (.cons (.refl _) .nil)) ?_
    show Hle [(0, .cells [.d (dS a.2.1.1), .row 1 1 a.2.1.2.1, .row 2 5 a.2.1.2.2.1, nilC, nilC, .mp 3] 157), (1, .row a.2.2.1.1 a.2.2.1.2 1 9), (2, .row a.2.2.2.1.1 a.2.2.2.1.2 5 71), (3, .map 0 a.2.2.2.2.1)] _
    rw [← hm, e4, e5]
    exact .refl _
  · have ha' : (okE baysD a.1.1 && (decide ((theE baysD a.1.1).length ≤ 900) && (okM a.2.2.2.2.2.1 && (Nat.beq a.2.1.2.1 a.2.2.1.1 && (Nat.beq a.2.1.2.2.1 a.2.2.2.1.1 && (Nat.beq a.2.1.2.2.2.1 a.2.2.2.2.1.1 && (Nat.ble a.2.2.1.1 900 && (Nat.ble a.2.2.2.1.1 900 && (Nat.ble a.2.2.2.2.1.1 900 && lksOk (theE baysD a.1.1)))))))))) = true := ha
    simp only [Bool.and_eq_true, decide_eq_true_eq] at ha'
    obtain ⟨h1, h2, h3, h4, h5, h6, h7, h8, h9, h10⟩ := ha'
    have hm := theM_spec h3
    have e4 := Nat.eq_of_beq_eq_true h4
    have e5 := Nat.eq_of_beq_eq_true h5
    have e6 := Nat.eq_of_beq_eq_true h6
    refine (c32 (theE baysD a.1.1) a.2.1.1 a.2.2.1.1 a.2.2.1.2 a.2.2.2.1.1 a.2.2.2.1.2 a.2.2.2.2.1.1 a.2.2.2.2.1.2 (theM a.2.2.2.2.2.1) h2 (Nat.le_of_ble_eq_true h7) (Nat.le_of_ble_eq_true h8) (Nat.le_of_ble_eq_true h9) (lksOk_get h10)).ge (.cons (theE_de h1) (.cons (.refl _) .nil)) ?_
    show Hle [(0, .cells [.d (dS a.2.1.1), .row 1 1 a.2.1.2.1, .row 2 5 a.2.1.2.2.1, .row 3 6 a.2.1.2.2.2.1, nilC, .mp 4] 157), (1, .row a.2.2.1.1 a.2.2.1.2 1 9), (2, .row a.2.2.2.1.1 a.2.2.2.1.2 5 71), (3, .row a.2.2.2.2.1.1 a.2.2.2.2.1.2 6 74), (4, .map 0 a.2.2.2.2.2.1)] _
    rw [← hm, e4, e5, e6]
    exact .refl _
theorem len_eq0 (n : Nat) : ((n : Int) == 0) = (n == 0) := by cases n <;> rfl
theorem len_gt (n k : Nat) : decide ((n : Int) > (k : Int)) = decide (k < n) := by rw [decide_eq_decide]; omega
theorem c12 (s : SSta) (hlk : lksOk s.bays = true) : CX Tryz.prog 26 [aSta s] [] (vI (chkSta s)) [] := by
  refine cx_of s12.ok Tryz.func26 b12 rfl ((ev12 Z12 s 1).trans ?_)
  have t4 : ∀ n : Nat, decide ((n : Int) > 4) = decide (4 < n) := fun n => len_gt n 4
  have t6 : ∀ n : Nat, decide ((n : Int) > 6) = decide (6 < n) := fun n => len_gt n 6
  have t16 : ∀ n : Nat, decide ((n : Int) > 16) = decide (16 < n) := fun n => len_gt n 16
  simp only [len_eq0, t4, t6, t16, fOr]
  unfold chkSta
  show (bif !nameOk s.name then _ else _) = _
  cases nameOk s.name with
  | false => rfl
  | true =>
    simp only [Bool.not_true, cond_false]
    have hcb : (s.buses.length == 0 || (decide (4 < s.buses.length) || (decide (6 < s.lines.length) || (decide (4 < s.srcs.length) || decide (16 < s.bays.length))))) = cntBad s := rfl
    rw [hcb]
    cases hc : cntBad s with
    | true => rfl
    | false =>
      simp only [cond_false]
      unfold cntBad at hc
      simp only [Bool.or_eq_false_iff, decide_eq_false_iff_not] at hc
      obtain ⟨_, h4, h6, h4', h16⟩ := hc
      have M0 : okM ([] : List (Value × Value)) = true := okM_mapOf []
      have M0' : theM ([] : List (Value × Value)) = [] := theM_mapOf []
      obtain ⟨L1, L1'⟩ := the_list (sz := 1) (d0 := e0) busC_inj s.buses
      obtain ⟨L2, L2'⟩ := the_list (sz := 5) (d0 := line0) lineC_inj s.lines
      obtain ⟨L3, L3'⟩ := the_list (sz := 6) (d0 := src0) srcC_inj s.srcs
      obtain ⟨L4, L4'⟩ := the_list (sz := 12) (d0 := bay0) bayC_inj s.bays
      have x1 : ∀ y, Z12.ok1 ((busesD s.buses, (), ()), y, [], ()) = true := fun y => by
        show (okE busesD (busesD s.buses) && (decide ((theE busesD (busesD s.buses)).length ≤ 900) && okM [])) = true
        rw [L1, L1', M0, decide_eq_true (by omega)]; rfl
      have y1 : ∀ y, u1 ((busesD s.buses, (), ()), y, [], ()) = tBus s.buses := fun y => by
        show takeN id (fun N _ x => namErr N x) (theM []) [] (theE busesD (busesD s.buses)) = _
        rw [L1', M0']; rfl
      have z1 : ∀ y, Z12.e1 ((busesD s.buses, (), ()), y, [], ()) = (tBus s.buses).1 := fun y => by show (u1 _).1 = _; rw [y1]
      rw [x1, z1]
      simp only [cond_true]
      cases E1 : ((tBus s.buses).1 == 0) with
      | false =>
        have : ((tBus s.buses).1 != 0) = true := by unfold bne; rw [E1]; rfl
        rw [this]; rfl
      | true =>
        have E1' : (tBus s.buses).1 = 0 := by simpa using E1
        have N1 : (tBus s.buses).2 = s.buses := by have := takeN_ok (nm := id) (f := fun N _ x => namErr N x) (N := []) [] s.buses E1'; rw [List.nil_append] at this; exact this
        have n1 : ∀ y, Z12.n1 ((busesD s.buses, (), ()), y, [], ()) = s.buses.length := fun y => by show (u1 _).2.length = _; rw [y1, N1]
        have m1 : ∀ y, Z12.m1 ((busesD s.buses, (), ()), y, [], ()) = mapOf s.buses := fun y => by
          show mapOf (theM [] ++ (u1 _).2.map id) = _
          rw [y1, N1, M0']; simp
        rw [E1']
        simp only [cond_true, n1, m1, bne_self_eq_false, cond_false]
        have x2 : ∀ a b c d, Z12.ok2 ((linesD s.lines, (), ()), (a, s.buses.length, b), (s.buses.length, c), mapOf s.buses, d) = true := fun a b c d => by
          show (okE linesD (linesD s.lines) && (decide ((theE linesD (linesD s.lines)).length ≤ 900) && (okM (mapOf s.buses) && Nat.beq s.buses.length s.buses.length))) = true
          rw [L2, L2', okM_mapOf, decide_eq_true (by omega), Nat.beq_refl]; rfl
        have y2 : ∀ a b c d, u2 ((linesD s.lines, (), ()), (a, s.buses.length, b), (s.buses.length, c), mapOf s.buses, d) = tLine s.buses s.lines := fun a b c d => by
          show tLine (theM (mapOf s.buses)) (theE linesD (linesD s.lines)) = _
          rw [L2', theM_mapOf]
        have z2 : ∀ a b c d, Z12.e2 ((linesD s.lines, (), ()), (a, s.buses.length, b), (s.buses.length, c), mapOf s.buses, d) = (tLine s.buses s.lines).1 := fun a b c d => by show (u2 _).1 = _; rw [y2]
        rw [x2, z2]
        simp only [cond_true]
        cases E2 : ((tLine s.buses s.lines).1 == 0) with
        | false =>
          have : ((tLine s.buses s.lines).1 != 0) = true := by unfold bne; rw [E2]; rfl
          rw [this]; rfl
        | true =>
          have E2' : (tLine s.buses s.lines).1 = 0 := by simpa using E2
          have N2 : (tLine s.buses s.lines).2 = s.lines := by have := takeN_ok (nm := SLine.name) (f := fun N _ x => lineErr N x) (N := s.buses) [] s.lines E2'; rw [List.nil_append] at this; exact this
          have n2 : ∀ a b c d, Z12.n2 ((linesD s.lines, (), ()), (a, s.buses.length, b), (s.buses.length, c), mapOf s.buses, d) = s.lines.length := fun a b c d => by show (u2 _).2.length = _; rw [y2, N2]
          have m2 : ∀ a b c d, Z12.m2 ((linesD s.lines, (), ()), (a, s.buses.length, b), (s.buses.length, c), mapOf s.buses, d) = mapOf (s.buses ++ s.lines.map SLine.name) := fun a b c d => by
            show mapOf (theM (mapOf s.buses) ++ (u2 _).2.map SLine.name) = _
            rw [y2, N2, theM_mapOf]
          rw [E2']
          simp only [cond_true, n2, m2, bne_self_eq_false, cond_false]
          have x3 : ∀ a b c d e, Z12.ok3 ((srcsD s.srcs, (), ()), (a, s.buses.length, s.lines.length, b), (s.buses.length, c), (s.lines.length, d), mapOf (s.buses ++ s.lines.map SLine.name), e) = true := fun a b c d e => by
            show (okE srcsD (srcsD s.srcs) && (decide ((theE srcsD (srcsD s.srcs)).length ≤ 900) && (okM (mapOf (s.buses ++ s.lines.map SLine.name)) && (Nat.beq s.buses.length s.buses.length && Nat.beq s.lines.length s.lines.length)))) = true
            rw [L3, L3', okM_mapOf, decide_eq_true (by omega), Nat.beq_refl, Nat.beq_refl]; rfl
          have y3 : ∀ a b c d e, u3 ((srcsD s.srcs, (), ()), (a, s.buses.length, s.lines.length, b), (s.buses.length, c), (s.lines.length, d), mapOf (s.buses ++ s.lines.map SLine.name), e) = tSrc (s.buses ++ s.lines.map SLine.name) s.srcs := fun a b c d e => by
            show tSrc (theM (mapOf (s.buses ++ s.lines.map SLine.name))) (theE srcsD (srcsD s.srcs)) = _
            rw [L3', theM_mapOf]
          have z3 : ∀ a b c d e, Z12.e3 ((srcsD s.srcs, (), ()), (a, s.buses.length, s.lines.length, b), (s.buses.length, c), (s.lines.length, d), mapOf (s.buses ++ s.lines.map SLine.name), e) = (tSrc (s.buses ++ s.lines.map SLine.name) s.srcs).1 := fun a b c d e => by show (u3 _).1 = _; rw [y3]
          rw [x3, z3]
          simp only [cond_true]
          cases E3 : ((tSrc (s.buses ++ s.lines.map SLine.name) s.srcs).1 == 0) with
          | false =>
            have : ((tSrc (s.buses ++ s.lines.map SLine.name) s.srcs).1 != 0) = true := by unfold bne; rw [E3]; rfl
            rw [this]; rfl
          | true =>
            have E3' : (tSrc (s.buses ++ s.lines.map SLine.name) s.srcs).1 = 0 := by simpa using E3
            have N3 : (tSrc (s.buses ++ s.lines.map SLine.name) s.srcs).2 = s.srcs := by have := takeN_ok (nm := SSrc.name) (f := fun N _ x => srcErr N x) (N := s.buses ++ s.lines.map SLine.name) [] s.srcs E3'; rw [List.nil_append] at this; exact this
            have n3 : ∀ a b c d e, Z12.n3 ((srcsD s.srcs, (), ()), (a, s.buses.length, s.lines.length, b), (s.buses.length, c), (s.lines.length, d), mapOf (s.buses ++ s.lines.map SLine.name), e) = s.srcs.length := fun a b c d e => by show (u3 _).2.length = _; rw [y3, N3]
            have m3 : ∀ a b c d e, Z12.m3 ((srcsD s.srcs, (), ()), (a, s.buses.length, s.lines.length, b), (s.buses.length, c), (s.lines.length, d), mapOf (s.buses ++ s.lines.map SLine.name), e) = mapOf (s.buses ++ s.lines.map SLine.name ++ s.srcs.map SSrc.name) := fun a b c d e => by
              show mapOf (theM (mapOf (s.buses ++ s.lines.map SLine.name)) ++ (u3 _).2.map SSrc.name) = _
              rw [y3, N3, theM_mapOf]
            rw [E3']
            simp only [cond_true, n3, m3, bne_self_eq_false, cond_false]
            have x4 : ∀ a b c d e f, Z12.ok4 ((baysD s.bays, (), ()), (a, s.buses.length, s.lines.length, s.srcs.length, b), (s.buses.length, c), (s.lines.length, d), (s.srcs.length, e), mapOf (s.buses ++ s.lines.map SLine.name ++ s.srcs.map SSrc.name), f) = true := fun a b c d e f => by
              show (okE baysD (baysD s.bays) && (decide ((theE baysD (baysD s.bays)).length ≤ 900) && (okM (mapOf (s.buses ++ s.lines.map SLine.name ++ s.srcs.map SSrc.name)) && (Nat.beq s.buses.length s.buses.length && (Nat.beq s.lines.length s.lines.length && (Nat.beq s.srcs.length s.srcs.length && (Nat.ble s.buses.length 900 && (Nat.ble s.lines.length 900 && (Nat.ble s.srcs.length 900 && lksOk (theE baysD (baysD s.bays))))))))))) = true
              rw [L4, L4', okM_mapOf, decide_eq_true (by omega), Nat.beq_refl, Nat.beq_refl, Nat.beq_refl, bleD, bleD, bleD, decide_eq_true (by omega), decide_eq_true (by omega), decide_eq_true (by omega), hlk]; rfl
            have z4 : ∀ a b c d e f, Z12.e4 ((baysD s.bays, (), ()), (a, s.buses.length, s.lines.length, s.srcs.length, b), (s.buses.length, c), (s.lines.length, d), (s.srcs.length, e), mapOf (s.buses ++ s.lines.map SLine.name ++ s.srcs.map SSrc.name), f) = (tBay s.buses.length s.lines.length s.srcs.length (s.buses ++ s.lines.map SLine.name ++ s.srcs.map SSrc.name) s.bays).1 := fun a b c d e f => by
              show (tBay s.buses.length s.lines.length s.srcs.length (theM (mapOf (s.buses ++ s.lines.map SLine.name ++ s.srcs.map SSrc.name))) (theE baysD (baysD s.bays))).1 = _
              rw [L4', theM_mapOf]
            rw [x4, z4]
            rfl
end Go.Proofs.YtngoglhlhlfknaaGreat.st
namespace Go.Proofs.YtngoglhlhlfknaaGreat.se
open Go.RowKit Go.Eb Go.Proofs.YtngoglhlhlfknaaGreat.st
noncomputable def ann28 : Ann := annOf [(3, ⟨[3, 18, 1, 19, 20], []⟩), (8, ⟨[3, 31, 1, 32, 33], []⟩), (13, ⟨[3, 45, 1, 46, 47], []⟩), (18, ⟨[3, 59, 60, 61], []⟩)]
noncomputable def L28_3 (s : SSta) (g m : Nat) (l2 : List (Value × Value)) (l3 : List (Value × Value)) (i20 : Int) := LK Tryz.prog Orc.nil ann28 0 g Tryz.f28 3 m ⟨frm [(1, .c (.ptr 0 0)), (3, .c (.ptr 1 0)), (18, .c (.d (listD 1 busC e0 (SSta.buses s)))), (19, .c (.d (.v (.int .i64 (↑(List.length (SSta.buses s)) : Int))))), (20, .c (.d (.v (.int .i64 i20))))] 0 Tryz.f28.ntmps, [(0, Blk.cells (List.map C.d (staC s)) 27), (1, Blk.cells [.d (.v (.string (SSta.name s))), C.d (listD 1 busC e0 (SSta.buses s)), C.d (listD 5 lineC line0 (SSta.lines s)), C.d (listD 6 srcC' src0 (SSta.srcs s)), C.d (listD 12 bayC bay0 (SSta.bays s)), C.mp 2, C.mp 3] 140), (2, Blk.map 0 l2), (3, Blk.map 2 l3)], 4⟩
noncomputable def L28_8 (s : SSta) (g m : Nat) (l2 : List (Value × Value)) (l3 : List (Value × Value)) (i33 : Int) := LK Tryz.prog Orc.nil ann28 0 g Tryz.f28 8 m ⟨frm [(1, .c (.ptr 0 0)), (3, .c (.ptr 1 0)), (31, .c (.d (listD 5 lineC line0 (SSta.lines s)))), (32, .c (.d (.v (.int .i64 (↑(List.length (SSta.lines s)) : Int))))), (33, .c (.d (.v (.int .i64 i33))))] 0 Tryz.f28.ntmps, [(0, Blk.cells (List.map C.d (staC s)) 27), (1, Blk.cells [.d (.v (.string (SSta.name s))), C.d (listD 1 busC e0 (SSta.buses s)), C.d (listD 5 lineC line0 (SSta.lines s)), C.d (listD 6 srcC' src0 (SSta.srcs s)), C.d (listD 12 bayC bay0 (SSta.bays s)), C.mp 2, C.mp 3] 140), (2, Blk.map 0 l2), (3, Blk.map 2 l3)], 4⟩
noncomputable def L28_13 (s : SSta) (g m : Nat) (l2 : List (Value × Value)) (l3 : List (Value × Value)) (i47 : Int) := LK Tryz.prog Orc.nil ann28 0 g Tryz.f28 13 m ⟨frm [(1, .c (.ptr 0 0)), (3, .c (.ptr 1 0)), (45, .c (.d (listD 6 srcC' src0 (SSta.srcs s)))), (46, .c (.d (.v (.int .i64 (↑(List.length (SSta.srcs s)) : Int))))), (47, .c (.d (.v (.int .i64 i47))))] 0 Tryz.f28.ntmps, [(0, Blk.cells (List.map C.d (staC s)) 27), (1, Blk.cells [.d (.v (.string (SSta.name s))), C.d (listD 1 busC e0 (SSta.buses s)), C.d (listD 5 lineC line0 (SSta.lines s)), C.d (listD 6 srcC' src0 (SSta.srcs s)), C.d (listD 12 bayC bay0 (SSta.bays s)), C.mp 2, C.mp 3] 140), (2, Blk.map 0 l2), (3, Blk.map 2 l3)], 4⟩
noncomputable def L28_18 (s : SSta) (g m : Nat) (l1 : List (Value × Value)) (l2 : List (Value × Value)) (i61 : Int) := LK Tryz.prog Orc.nil ann28 0 g Tryz.f28 18 m ⟨frm [(3, .c (.ptr 0 0)), (59, .c (.d (listD 12 bayC bay0 (SSta.bays s)))), (60, .c (.d (.v (.int .i64 (↑(List.length (SSta.bays s)) : Int))))), (61, .c (.d (.v (.int .i64 i61))))] 0 Tryz.f28.ntmps, [(0, Blk.cells [.d (.v (.string (SSta.name s))), C.d (listD 1 busC e0 (SSta.buses s)), C.d (listD 5 lineC line0 (SSta.lines s)), C.d (listD 6 srcC' src0 (SSta.srcs s)), C.d (listD 12 bayC bay0 (SSta.bays s)), C.mp 1, C.mp 2] 140), (1, Blk.map 0 l1), (2, Blk.map 2 l2)], 3⟩
theorem b28 : Tryz.f28.body = some (bodyOf Tryz.f28) := by kernel_rfl
theorem ev28 (s : SSta) (g : Nat) : callC Tryz.prog Orc.nil ann28 g Tryz.f28 (bodyOf Tryz.f28) [aSta s] [] =
 L28_3 s g g ([]) ([]) ((0 : Int)) := by kernel_rfl
theorem st28_3 (s : SSta) (g m : Nat) (l2 : List (Value × Value)) (l3 : List (Value × Value)) (i20 : Int) : L28_3 s g (m + 1) l2 l3 i20 =
 (bif decide (i20 < (↑(List.length (SSta.buses s)) : Int)) then (bif decide ((0 : Int) ≤ i20) && decide (i20 < (↑(List.length (SSta.buses s)) : Int)) then L28_3 s g m ((Value.string
 (List.getD (SSta.buses s) (Int.toNat i20) e0), Value.bool true) :: l2) l3 (IntKind.wrap .i64 (i20 + (1 : Int))) else none) else L28_8 s g g l2 l3 ((0 : Int))) := by kernel_rfl
theorem st28_8 (s : SSta) (g m : Nat) (l2 : List (Value × Value)) (l3 : List (Value × Value)) (i33 : Int) : L28_8 s g (m + 1) l2 l3 i33 =
 (bif decide (i33 < (↑(List.length (SSta.lines s)) : Int)) then (bif decide ((0 : Int) ≤ i33) && decide (i33 < (↑(List.length (SSta.lines s)) : Int)) then L28_8 s g m ((Value.string
 (SLine.name (List.getD (SSta.lines s) (Int.toNat i33) line0)), Value.bool true) :: l2) l3 (IntKind.wrap .i64 (i33 + (1 : Int))) else none) else L28_13 s g g l2 l3 ((0 :
 Int))) := by kernel_rfl
theorem st28_13 (s : SSta) (g m : Nat) (l2 : List (Value × Value)) (l3 : List (Value × Value)) (i47 : Int) : L28_13 s g (m + 1) l2 l3 i47 =
 (bif decide (i47 < (↑(List.length (SSta.srcs s)) : Int)) then (bif decide ((0 : Int) ≤ i47) && decide (i47 < (↑(List.length (SSta.srcs s)) : Int)) then L28_13 s g m ((Value.string
 (SSrc.name (List.getD (SSta.srcs s) (Int.toNat i47) src0)), Value.bool true) :: l2) l3 (IntKind.wrap .i64 (i47 + (1 : Int))) else none) else L28_18 s g g l2 l3 ((0 : Int))) := by kernel_rfl
theorem st28_18 (s : SSta) (g m : Nat) (l1 : List (Value × Value)) (l2 : List (Value × Value)) (i61 : Int) : L28_18 s g (m + 1) l1 l2 i61 =
 (bif decide (i61 < (↑(List.length (SSta.bays s)) : Int)) then (bif decide ((0 : Int) ≤ i61) && decide (i61 < (↑(List.length (SSta.bays s)) : Int)) then L28_18 s g m ((Value.string
 (SBay.name (List.getD (SSta.bays s) (Int.toNat i61) bay0)), Value.bool true) :: l1) l2 (IntKind.wrap .i64 (i61 + (1 : Int))) else none) else some (T.leaf (AV.c (C.ptr ((0 :
 Nat)) (0)), [(0, Blk.cells [C.d (.v (.string (SSta.name s))), C.d (listD (1) busC e0 (SSta.buses s)), C.d (listD (5) lineC line0 (SSta.lines
 s)), C.d (listD (6) srcC' src0 (SSta.srcs s)), C.d (listD (12) bayC bay0 (SSta.bays s)), C.mp (1), C.mp (2)] (140)), (1, Blk.map ((0
 : Nat)) l1), (2, Blk.map (2) l2)]))) := by kernel_rfl
def HC (s : SSta) (N B : List (Value × Value)) : Hp := [(0, .cells ((staC s).map .d ++ [.mp 1, .mp 2]) 140), (1, .map 0 N), (2, .map 2 B)]
noncomputable def ann77 : Ann := annOf []
theorem b77 : Tryz.f77.body = some (bodyOf Tryz.f77) := by kernel_rfl
theorem ev77 (s : SSta) (N B : List (Value × Value)) (r : SRel) (g : Nat) : callC Tryz.prog (Orc.cons 108 (inl Tryz.prog Orc.nil na 1 Tryz.f108) Orc.nil) ann77 g Tryz.f77 (bodyOf Tryz.f77) [.c (.ptr 0 0), aRel r] (HC s N B) =
 (bif SRel.kind r == (1 : Int) then (bif decide (SRel.bay r ≥ (0 : Int)) then (bif !decide (SRel.bay r ≤ IntKind.wrap .i64 ((↑(List.length (SSta.bays s)) : Int) - (1 : Int)))
 then some (T.leaf (AV.c (.d (.v (.int .i64 (9 : Int)))), [(0, Blk.cells [C.d (.v (.string (SSta.name s))), C.d (listD (1) busC e0 (SSta.buses
 s)), C.d (listD (5) lineC line0 (SSta.lines s)), C.d (listD (6) srcC' src0 (SSta.srcs s)), C.d (listD (12) bayC bay0 (SSta.bays s)), C.mp (1), C.mp
 (2)] (140)), (1, Blk.map (0) N), (2, Blk.map (2) B)])) else (bif decide ((0 : Int) ≤ SRel.bay r) && decide (SRel.bay r <
 (↑(List.length (SSta.bays s)) : Int)) then (bif SBay.kind (List.getD (SSta.bays s) (Int.toNat (SRel.bay r)) bay0) != (1 : Int) then some (T.leaf (AV.c (C.d (D.v (Value.int
 IntKind.i64 (9 : Int)))), [(0, Blk.cells [C.d (.v (.string (SSta.name s))), C.d (listD (1) busC e0 (SSta.buses s)), C.d (listD (5) lineC line0
 (SSta.lines s)), C.d (listD (6) srcC' src0 (SSta.srcs s)), C.d (listD (12) bayC bay0 (SSta.bays s)), C.mp (1), C.mp (2)] (140)), (1,
 Blk.map (0) N), (2, Blk.map (2) B)])) else (bif boolOf (assoc B (Value.int IntKind.i64 (SRel.bay r))) then some (T.leaf (AV.c (C.d (D.v (Value.int
 IntKind.i64 (12 : Int)))), [(0, Blk.cells [C.d (.v (.string (SSta.name s))), C.d (listD (1) busC e0 (SSta.buses s)), C.d (listD (5) lineC line0
 (SSta.lines s)), C.d (listD (6) srcC' src0 (SSta.srcs s)), C.d (listD (12) bayC bay0 (SSta.bays s)), C.mp (1), C.mp (2)] (140)), (1,
 Blk.map (0) N), (2, Blk.map (2) B)])) else some (T.leaf (AV.c (.d (.v (.int .i64 (0 : Int)))), [(0, Blk.cells [C.d (D.v (Value.string
 (SSta.name s))), C.d (listD (1) busC e0 (SSta.buses s)), C.d (listD (5) lineC line0 (SSta.lines s)), C.d (listD (6) srcC' src0 (SSta.srcs s)), C.d (listD
 (12) bayC bay0 (SSta.bays s)), C.mp (1), C.mp (2)] (140)), (1, Blk.map (0) N), (2, Blk.map (2) B)])))) else none))
 else some (T.leaf (AV.c (.d (.v (.int .i64 (9 : Int)))), [(0, Blk.cells [C.d (.v (.string (SSta.name s))), C.d (listD (1) busC e0 (SSta.buses
 s)), C.d (listD (5) lineC line0 (SSta.lines s)), C.d (listD (6) srcC' src0 (SSta.srcs s)), C.d (listD (12) bayC bay0 (SSta.bays s)), C.mp (1), C.mp
 (2)] (140)), (1, Blk.map (0) N), (2, Blk.map (2) B)]))) else (bif SRel.kind r == (2 : Int) then (bif decide (SRel.bay r ≥ (0 : Int))
 then (bif !decide (SRel.bay r ≤ IntKind.wrap .i64 ((↑(List.length (SSta.bays s)) : Int) - (1 : Int))) then some (T.leaf (AV.c (.d (.v (.int .i64 (9 : Int)))),
 [(0, Blk.cells [C.d (.v (.string (SSta.name s))), C.d (listD (1) busC e0 (SSta.buses s)), C.d (listD (5) lineC line0 (SSta.lines s)), C.d (listD ((6 :
 Nat)) srcC' src0 (SSta.srcs s)), C.d (listD (12) bayC bay0 (SSta.bays s)), C.mp (1), C.mp (2)] (140)), (1, Blk.map (0) N), ((2 :
 Nat), Blk.map (2) B)])) else (bif decide ((0 : Int) ≤ SRel.bay r) && decide (SRel.bay r < (↑(List.length (SSta.bays s)) : Int)) then (bif SBay.kind (List.getD (SSta.bays s)
 (Int.toNat (SRel.bay r)) bay0) != (2 : Int) then some (T.leaf (AV.c (.d (.v (.int .i64 (9 : Int)))), [(0, Blk.cells [C.d (.v (.string (SSta.name s))),
 C.d (listD (1) busC e0 (SSta.buses s)), C.d (listD (5) lineC line0 (SSta.lines s)), C.d (listD (6) srcC' src0 (SSta.srcs s)), C.d (listD (12) bayC
 bay0 (SSta.bays s)), C.mp (1), C.mp (2)] (140)), (1, Blk.map (0) N), (2, Blk.map (2) B)])) else (bif boolOf (assoc B
 (Value.int IntKind.i64 (SRel.bay r))) then some (T.leaf (AV.c (.d (.v (.int .i64 (12 : Int)))), [(0, Blk.cells [C.d (.v (.string (SSta.name s))), C.d
 (listD (1) busC e0 (SSta.buses s)), C.d (listD (5) lineC line0 (SSta.lines s)), C.d (listD (6) srcC' src0 (SSta.srcs s)), C.d (listD (12) bayC bay0
 (SSta.bays s)), C.mp (1), C.mp (2)] (140)), (1, Blk.map (0) N), (2, Blk.map (2) B)])) else some (T.leaf (AV.c (C.d (D.v
 (Value.int IntKind.i64 (0 : Int)))), [(0, Blk.cells [C.d (.v (.string (SSta.name s))), C.d (listD (1) busC e0 (SSta.buses s)), C.d (listD (5) lineC
 line0 (SSta.lines s)), C.d (listD (6) srcC' src0 (SSta.srcs s)), C.d (listD (12) bayC bay0 (SSta.bays s)), C.mp (1), C.mp (2)] (140)), ((1 :
 Nat), Blk.map (0) N), (2, Blk.map (2) B)])))) else none)) else some (T.leaf (AV.c (.d (.v (.int .i64 (9 : Int)))), [(0, Blk.cells [C.d
 (D.v (.string (SSta.name s))), C.d (listD (1) busC e0 (SSta.buses s)), C.d (listD (5) lineC line0 (SSta.lines s)), C.d (listD (6) srcC' src0 (SSta.srcs
 s)), C.d (listD (12) bayC bay0 (SSta.bays s)), C.mp (1), C.mp (2)] (140)), (1, Blk.map (0) N), (2, Blk.map (2) B)])))
 else (bif SRel.kind r == (3 : Int) then (bif decide (SRel.bay r ≥ (0 : Int)) then (bif !decide (SRel.bay r ≤ IntKind.wrap .i64 ((↑(List.length (SSta.bays s)) : Int) - (1 :
 Int))) then some (T.leaf (AV.c (.d (.v (.int .i64 (9 : Int)))), [(0, Blk.cells [C.d (.v (.string (SSta.name s))), C.d (listD (1) busC e0
 (SSta.buses s)), C.d (listD (5) lineC line0 (SSta.lines s)), C.d (listD (6) srcC' src0 (SSta.srcs s)), C.d (listD (12) bayC bay0 (SSta.bays s)), C.mp ((1 :
 Nat)), C.mp (2)] (140)), (1, Blk.map (0) N), (2, Blk.map (2) B)])) else (bif decide ((0 : Int) ≤ SRel.bay r) && decide (SRel.bay r <
 (↑(List.length (SSta.bays s)) : Int)) then (bif SBay.kind (List.getD (SSta.bays s) (Int.toNat (SRel.bay r)) bay0) != (3 : Int) then some (T.leaf (AV.c (C.d (D.v (Value.int
 IntKind.i64 (9 : Int)))), [(0, Blk.cells [C.d (.v (.string (SSta.name s))), C.d (listD (1) busC e0 (SSta.buses s)), C.d (listD (5) lineC line0
 (SSta.lines s)), C.d (listD (6) srcC' src0 (SSta.srcs s)), C.d (listD (12) bayC bay0 (SSta.bays s)), C.mp (1), C.mp (2)] (140)), (1,
 Blk.map (0) N), (2, Blk.map (2) B)])) else (bif boolOf (assoc B (Value.int IntKind.i64 (SRel.bay r))) then some (T.leaf (AV.c (C.d (D.v (Value.int
 IntKind.i64 (12 : Int)))), [(0, Blk.cells [C.d (.v (.string (SSta.name s))), C.d (listD (1) busC e0 (SSta.buses s)), C.d (listD (5) lineC line0
 (SSta.lines s)), C.d (listD (6) srcC' src0 (SSta.srcs s)), C.d (listD (12) bayC bay0 (SSta.bays s)), C.mp (1), C.mp (2)] (140)), (1,
 Blk.map (0) N), (2, Blk.map (2) B)])) else some (T.leaf (AV.c (.d (.v (.int .i64 (0 : Int)))), [(0, Blk.cells [C.d (D.v (Value.string
 (SSta.name s))), C.d (listD (1) busC e0 (SSta.buses s)), C.d (listD (5) lineC line0 (SSta.lines s)), C.d (listD (6) srcC' src0 (SSta.srcs s)), C.d (listD
 (12) bayC bay0 (SSta.bays s)), C.mp (1), C.mp (2)] (140)), (1, Blk.map (0) N), (2, Blk.map (2) B)])))) else none))
 else some (T.leaf (AV.c (.d (.v (.int .i64 (9 : Int)))), [(0, Blk.cells [C.d (.v (.string (SSta.name s))), C.d (listD (1) busC e0 (SSta.buses
 s)), C.d (listD (5) lineC line0 (SSta.lines s)), C.d (listD (6) srcC' src0 (SSta.srcs s)), C.d (listD (12) bayC bay0 (SSta.bays s)), C.mp (1), C.mp
 (2)] (140)), (1, Blk.map (0) N), (2, Blk.map (2) B)]))) else (bif SRel.kind r == (4 : Int) then (bif SRel.bay r != (-1 : Int) then
 some (T.leaf (AV.c (.d (.v (.int .i64 (9 : Int)))), [(0, Blk.cells [C.d (.v (.string (SSta.name s))), C.d (listD (1) busC e0 (SSta.buses s)), C.d
 (listD (5) lineC line0 (SSta.lines s)), C.d (listD (6) srcC' src0 (SSta.srcs s)), C.d (listD (12) bayC bay0 (SSta.bays s)), C.mp (1), C.mp ((2 :
 Nat))] (140)), (1, Blk.map (0) N), (2, Blk.map (2) B)])) else (bif boolOf (assoc B (Value.int IntKind.i64 (SRel.bay r))) then some (T.leaf
 (AV.c (.d (.v (.int .i64 (12 : Int)))), [(0, Blk.cells [C.d (.v (.string (SSta.name s))), C.d (listD (1) busC e0 (SSta.buses s)), C.d (listD ((5
 : Nat)) lineC line0 (SSta.lines s)), C.d (listD (6) srcC' src0 (SSta.srcs s)), C.d (listD (12) bayC bay0 (SSta.bays s)), C.mp (1), C.mp (2)] ((140 :
 Nat))), (1, Blk.map (0) N), (2, Blk.map (2) B)])) else some (T.leaf (AV.c (.d (.v (.int .i64 (0 : Int)))), [(0, Blk.cells [C.d
 (D.v (.string (SSta.name s))), C.d (listD (1) busC e0 (SSta.buses s)), C.d (listD (5) lineC line0 (SSta.lines s)), C.d (listD (6) srcC' src0 (SSta.srcs
 s)), C.d (listD (12) bayC bay0 (SSta.bays s)), C.mp (1), C.mp (2)] (140)), (1, Blk.map (0) N), (2, Blk.map (2)
 B)])))) else some (T.leaf (AV.c (.d (.v (.int .i64 (10 : Int)))), [(0, Blk.cells [C.d (.v (.string (SSta.name s))), C.d (listD (1) busC e0
 (SSta.buses s)), C.d (listD (5) lineC line0 (SSta.lines s)), C.d (listD (6) srcC' src0 (SSta.srcs s)), C.d (listD (12) bayC bay0 (SSta.bays s)), C.mp ((1 :
 Nat)), C.mp (2)] (140)), (1, Blk.map (0) N), (2, Blk.map (2) B)])))))) := by kernel_rfl
structure K32 where
  okr : List AV → Bool
  us : List AV → Bool
  di : List AV → Bool
  sc : List AV → Bool
  el : List AV → Bool
  ot : List AV → Bool
  zo : List AV → Bool
  ct : List AV → Bool
  ls : List AV → Int
  okp : List AV → Hp → Bool
  pl : List AV → Hp → Int
noncomputable def o32 (Z : K32) (s : SSta) (N B : List (Value × Value)) : Orc := oN nameOk (Orc.cons 77 (ansM Z.okp (fun x H => vI (Z.pl x H)) fun _ _ => HC s N B) (Orc.cons 78 (ansG Z.okr fun x => vB (Z.us x)) (Orc.cons 79 (ansG Z.okr fun x => vB (Z.di x)) (Orc.cons 80 (ansG Z.okr fun x => vB (Z.sc x)) (Orc.cons 81 (ansG Z.okr fun x => vB (Z.el x))
  (Orc.cons 82 (ansG Z.okr fun x => vB (Z.ot x)) (Orc.cons 83 (ansG Z.okr fun x => vB (Z.zo x)) (Orc.cons 84 (ansG Z.okr fun x => vB (Z.ct x)) (Orc.cons 85 (ansG Z.okr fun x => vI (Z.ls x)) Orc.nil)))))))))
noncomputable def ann32 : Ann := annOf []
theorem b32 : Tryz.f32.body = some (bodyOf Tryz.f32) := by kernel_rfl
theorem ev32 (Z : K32) (s : SSta) (N B : List (Value × Value)) (r : SRel) (g : Nat) : callC Tryz.prog (o32 Z s N B) ann32 g Tryz.f32 (bodyOf Tryz.f32) [.c (.ptr 0 0), aRel r] (HC s N B) =
 (bif !nameOk (SRel.name r) then some (T.leaf (AV.c (.d (.v (.int .i64 (7 : Int)))), [(0, Blk.cells [C.d (.v (.string (SSta.name s))), C.d (listD ((1 :
 Nat)) busC e0 (SSta.buses s)), C.d (listD (5) lineC line0 (SSta.lines s)), C.d (listD (6) srcC' src0 (SSta.srcs s)), C.d (listD (12) bayC bay0 (SSta.bays
 s)), C.mp (1), C.mp (2)] (140)), (1, Blk.map (0) N), (2, Blk.map (2) B)])) else (bif boolOf (assoc N (Value.string (SRel.name
 r))) then some (T.leaf (AV.c (.d (.v (.int .i64 (8 : Int)))), [(0, Blk.cells [C.d (.v (.string (SSta.name s))), C.d (listD (1) busC e0
 (SSta.buses s)), C.d (listD (5) lineC line0 (SSta.lines s)), C.d (listD (6) srcC' src0 (SSta.srcs s)), C.d (listD (12) bayC bay0 (SSta.bays s)), C.mp ((1 :
 Nat)), C.mp (2)] (140)), (1, Blk.map (0) N), (2, Blk.map (2) B)])) else (bif K32.okp Z [AV.c (C.ptr (0) (0)), AV.agg
 (List.map C.d (relC r))] [(0, Blk.cells [C.d (.v (.string (SSta.name s))), C.d (listD (1) busC e0 (SSta.buses s)), C.d (listD (5) lineC line0
 (SSta.lines s)), C.d (listD (6) srcC' src0 (SSta.srcs s)), C.d (listD (12) bayC bay0 (SSta.bays s)), C.mp (1), C.mp (2)] (140)), (1,
 Blk.map (0) N), (2, Blk.map (2) B)] then (bif K32.pl Z [AV.c (C.ptr (0) (0)), AV.agg (List.map C.d (relC r))] [(0, Blk.cells [C.d
 (D.v (.string (SSta.name s))), C.d (listD (1) busC e0 (SSta.buses s)), C.d (listD (5) lineC line0 (SSta.lines s)), C.d (listD (6) srcC' src0 (SSta.srcs
 s)), C.d (listD (12) bayC bay0 (SSta.bays s)), C.mp (1), C.mp (2)] (140)), (1, Blk.map (0) N), (2, Blk.map (2) B)] !=
 (0 : Int) then some (T.leaf (AV.c (.d (.v (.int .i64 (K32.pl Z [AV.c (C.ptr (0) (0)), AV.agg (List.map C.d (relC r))] [(0, Blk.cells [C.d (D.v
 (Value.string (SSta.name s))), C.d (listD (1) busC e0 (SSta.buses s)), C.d (listD (5) lineC line0 (SSta.lines s)), C.d (listD (6) srcC' src0 (SSta.srcs s)),
 C.d (listD (12) bayC bay0 (SSta.bays s)), C.mp (1), C.mp (2)] (140)), (1, Blk.map (0) N), (2, Blk.map (2) B)])))),
 [(0, Blk.cells [C.d (.v (.string (SSta.name s))), C.d (listD (1) busC e0 (SSta.buses s)), C.d (listD (5) lineC line0 (SSta.lines s)), C.d (listD ((6 :
 Nat)) srcC' src0 (SSta.srcs s)), C.d (listD (12) bayC bay0 (SSta.bays s)), C.mp (1), C.mp (2)] (140)), (1, Blk.map (0) N), ((2 :
 Nat), Blk.map (2) B)])) else (bif K32.okr Z [AV.agg (List.map C.d (relC r))] then (bif !K32.us Z [AV.agg (List.map C.d (relC r))] then some (T.leaf (AV.c (C.d (D.v
 (Value.int IntKind.i64 (12 : Int)))), [(0, Blk.cells [C.d (.v (.string (SSta.name s))), C.d (listD (1) busC e0 (SSta.buses s)), C.d (listD (5) lineC
 line0 (SSta.lines s)), C.d (listD (6) srcC' src0 (SSta.srcs s)), C.d (listD (12) bayC bay0 (SSta.bays s)), C.mp (1), C.mp (2)] (140)), ((1 :
 Nat), Blk.map (0) N), (2, Blk.map (2) B)])) else (bif K32.okr Z [AV.agg (List.map C.d (relC r))] then (bif !K32.di Z [AV.agg (List.map C.d (relC r))] then
 some (T.leaf (AV.c (.d (.v (.int .i64 (2 : Int)))), [(0, Blk.cells [C.d (.v (.string (SSta.name s))), C.d (listD (1) busC e0 (SSta.buses s)), C.d
 (listD (5) lineC line0 (SSta.lines s)), C.d (listD (6) srcC' src0 (SSta.srcs s)), C.d (listD (12) bayC bay0 (SSta.bays s)), C.mp (1), C.mp ((2 :
 Nat))] (140)), (1, Blk.map (0) N), (2, Blk.map (2) B)])) else (bif K32.okr Z [AV.agg (List.map C.d (relC r))] then (bif !K32.sc Z [AV.agg
 (List.map C.d (relC r))] then some (T.leaf (AV.c (.d (.v (.int .i64 (2 : Int)))), [(0, Blk.cells [C.d (.v (.string (SSta.name s))), C.d (listD ((1 :
 Nat)) busC e0 (SSta.buses s)), C.d (listD (5) lineC line0 (SSta.lines s)), C.d (listD (6) srcC' src0 (SSta.srcs s)), C.d (listD (12) bayC bay0 (SSta.bays
 s)), C.mp (1), C.mp (2)] (140)), (1, Blk.map (0) N), (2, Blk.map (2) B)])) else (bif K32.okr Z [AV.agg (List.map C.d (relC
 r))] then (bif !K32.el Z [AV.agg (List.map C.d (relC r))] then some (T.leaf (AV.c (.d (.v (.int .i64 (2 : Int)))), [(0, Blk.cells [C.d (D.v (Value.string
 (SSta.name s))), C.d (listD (1) busC e0 (SSta.buses s)), C.d (listD (5) lineC line0 (SSta.lines s)), C.d (listD (6) srcC' src0 (SSta.srcs s)), C.d (listD
 (12) bayC bay0 (SSta.bays s)), C.mp (1), C.mp (2)] (140)), (1, Blk.map (0) N), (2, Blk.map (2) B)])) else (bif
 K32.okr Z [AV.agg (List.map C.d (relC r))] then (bif !K32.ot Z [AV.agg (List.map C.d (relC r))] then some (T.leaf (AV.c (.d (.v (.int .i64 (2 : Int)))), [(0,
 Blk.cells [C.d (.v (.string (SSta.name s))), C.d (listD (1) busC e0 (SSta.buses s)), C.d (listD (5) lineC line0 (SSta.lines s)), C.d (listD (6) srcC'
 src0 (SSta.srcs s)), C.d (listD (12) bayC bay0 (SSta.bays s)), C.mp (1), C.mp (2)] (140)), (1, Blk.map (0) N), (2, Blk.map
 (2) B)])) else (bif K32.okr Z [AV.agg (List.map C.d (relC r))] then (bif !K32.zo Z [AV.agg (List.map C.d (relC r))] then some (T.leaf (AV.c (C.d (D.v (Value.int IntKind.i64
 (11 : Int)))), [(0, Blk.cells [C.d (.v (.string (SSta.name s))), C.d (listD (1) busC e0 (SSta.buses s)), C.d (listD (5) lineC line0 (SSta.lines s)),
 C.d (listD (6) srcC' src0 (SSta.srcs s)), C.d (listD (12) bayC bay0 (SSta.bays s)), C.mp (1), C.mp (2)] (140)), (1, Blk.map ((0 :
 Nat)) N), (2, Blk.map (2) B)])) else (bif K32.okr Z [AV.agg (List.map C.d (relC r))] then (bif !K32.ct Z [AV.agg (List.map C.d (relC r))] then some (T.leaf (AV.c
 (C.d (.v (.int .i64 (3 : Int)))), [(0, Blk.cells [C.d (.v (.string (SSta.name s))), C.d (listD (1) busC e0 (SSta.buses s)), C.d (listD (5)
 lineC line0 (SSta.lines s)), C.d (listD (6) srcC' src0 (SSta.srcs s)), C.d (listD (12) bayC bay0 (SSta.bays s)), C.mp (1), C.mp (2)] (140)),
 (1, Blk.map (0) N), (2, Blk.map (2) B)])) else (bif K32.okr Z [AV.agg (List.map C.d (relC r))] then (bif K32.ls Z [AV.agg (List.map C.d (relC r))] !=
 (0 : Int) then some (T.leaf (AV.c (.d (.v (.int .i64 (K32.ls Z [AV.agg (List.map C.d (relC r))])))), [(0, Blk.cells [C.d (.v (.string (SSta.name s))),
 C.d (listD (1) busC e0 (SSta.buses s)), C.d (listD (5) lineC line0 (SSta.lines s)), C.d (listD (6) srcC' src0 (SSta.srcs s)), C.d (listD (12) bayC
 bay0 (SSta.bays s)), C.mp (1), C.mp (2)] (140)), (1, Blk.map (0) N), (2, Blk.map (2) B)])) else some (T.leaf (AV.c (C.d (D.v
 (Value.int IntKind.i64 (0 : Int)))), [(0, Blk.cells [C.d (.v (.string (SSta.name s))), C.d (listD (1) busC e0 (SSta.buses s)), C.d (listD (5) lineC
 line0 (SSta.lines s)), C.d (listD (6) srcC' src0 (SSta.srcs s)), C.d (listD (12) bayC bay0 (SSta.bays s)), C.mp (1), C.mp (2)] (140)), ((1 :
 Nat), Blk.map (0) ((Value.string (SRel.name r), Value.bool true) :: N)), (2, Blk.map (2) ((Value.int IntKind.i64 (SRel.bay r), Value.bool true) :: B))])))
 else none)) else none)) else none)) else none)) else none)) else none)) else none)) else none)) else none))) := by kernel_rfl
end Go.Proofs.YtngoglhlhlfknaaGreat.se
namespace Go.Eb
open Go.RowKit
/-! Check by names and by what else is wrong -/
def namesS (s : SSta) : List ByteArray := s.buses ++ (s.lines.map SLine.name ++ (s.srcs.map SSrc.name ++ s.bays.map SBay.name))
end Go.Eb
namespace Go.Proofs.YtngoglhlhlfknaaGreat.se
open Go.RowKit Go.Eb Go.Proofs.YtngoglhlhlfknaaGreat.st
theorem c28 (s : SSta) (hs : okSta s = true) : CX Tryz.prog 28 [aSta s] [] (.c (.ptr 0 0)) (HC s (mapOf (namesS s)) []) := by
  obtain ⟨a1, a2, a3, a4, _⟩ := okSta_len hs
  obtain ⟨g, g1, g2, g3, g4⟩ : ∃ g, s.buses.length < g ∧ s.lines.length < g ∧ s.srcs.length < g ∧ s.bays.length < g := ⟨s.buses.length + s.lines.length + s.srcs.length + s.bays.length + 1, by omega⟩
  refine cx_of (Orc.nil_ok _) Tryz.func28 b28 rfl ((ev28 s g).trans ?_)
  have l4 := fun N => name_loop (nm := SBay.name) (d0 := bay0) (l := s.bays) (L := fun m mp i => L28_18 s g m mp [] i) (NX := fun mp => some (.leaf (.c (.ptr 0 0), HC s mp []))) (fun m k N hk => by
    rw [st28_18, lt1 hk, ge0, tn, nx hk a4, mapOf_app]; simp only [tt, cond_true]) (fun m mp => by rw [st28_18, lt0 (Nat.lt_irrefl _)]; rfl) g 0 N (by omega) (by omega)
  have l3 := fun N => name_loop (nm := SSrc.name) (d0 := src0) (l := s.srcs) (L := fun m mp i => L28_13 s g m mp [] i) (NX := fun mp => L28_18 s g g mp [] 0) (fun m k N hk => by
    rw [st28_13, lt1 hk, ge0, tn, nx hk a3, mapOf_app]; simp only [tt, cond_true]) (fun m mp => by rw [st28_13, lt0 (Nat.lt_irrefl _)]; simp only [cond_false]) g 0 N (by omega) (by omega)
  have l2 := fun N => name_loop (nm := SLine.name) (d0 := line0) (l := s.lines) (L := fun m mp i => L28_8 s g m mp [] i) (NX := fun mp => L28_13 s g g mp [] 0) (fun m k N hk => by
    rw [st28_8, lt1 hk, ge0, tn, nx hk a2, mapOf_app]; simp only [tt, cond_true]) (fun m mp => by rw [st28_8, lt0 (Nat.lt_irrefl _)]; simp only [cond_false]) g 0 N (by omega) (by omega)
  have l1 := fun N => name_loop (nm := id) (d0 := e0) (l := s.buses) (L := fun m mp i => L28_3 s g m mp [] i) (NX := fun mp => L28_8 s g g mp [] 0) (fun m k N hk => by
    rw [st28_3, lt1 hk, ge0, tn, nx hk a1, mapOf_app]; simp only [tt, cond_true, id]) (fun m mp => by rw [st28_3, lt0 (Nat.lt_irrefl _)]; simp only [cond_false]) g 0 N (by omega) (by omega)
  have e := l1 []
  simp only [List.drop_zero, List.map_id, List.nil_append] at e l2 l3 l4
  have e' : L28_3 s g g [] [] 0 = L28_8 s g g (mapOf s.buses) [] 0 := e
  have f2 : L28_8 s g g (mapOf s.buses) [] 0 = L28_13 s g g (mapOf (s.buses ++ s.lines.map SLine.name)) [] 0 := l2 s.buses
  have f3 := l3 (s.buses ++ s.lines.map SLine.name)
  have f4 := l4 (s.buses ++ s.lines.map SLine.name ++ s.srcs.map SSrc.name)
  refine e'.trans (f2.trans (Eq.trans f3 (Eq.trans f4 ?_)))
  unfold namesS
  simp only [List.append_assoc]
/-! place -/
def seenB (B : List Int) (n : Int) : Int := bif B.any fun m => n == m then 12 else 0
def placeK (bays : List SBay) (B : List Int) (r : SRel) (k : Int) : Int := bif !within r.bay 0 ((bays.length : Int) - 1) then 9 else bif (bays.getD r.bay.toNat bay0).kind != k then 9 else seenB B r.bay
def placeErr (bays : List SBay) (B : List Int) (r : SRel) : Int :=
  bif r.kind == 1 then placeK bays B r 1 else bif r.kind == 2 then placeK bays B r 2 else bif r.kind == 3 then placeK bays B r 3 else bif r.kind == 4 then (bif r.bay != -1 then 9 else seenB B r.bay) else 10
theorem place_k {β : Type} (X : Int → Option β) (n len : Int) (kb sn : Bool) : (bif decide (n ≥ 0) then (bif !decide (n ≤ len - 1) then X 9 else (bif decide (0 ≤ n) && decide (n < len) then (bif kb then X 9 else (bif sn then X 12 else X 0)) else none)) else X 9) = X (bif !within n 0 (len - 1) then 9 else bif kb then 9 else bif sn then 12 else 0) := by
  unfold within
  by_cases h1 : n ≥ 0
  · by_cases h2 : n ≤ len - 1
    · have h3 : n < len := by omega
      have h4 : (0 : Int) ≤ n := h1
      simp only [h2, h3, h4, ge_iff_le, decide_true, Bool.not_true, Bool.and_self, cond_true, cond_false]
      cases kb <;> cases sn <;> rfl
    · have h4 : (0 : Int) ≤ n := h1
      simp only [h2, h4, ge_iff_le, decide_true, decide_false, Bool.not_false, Bool.and_false, cond_true]
  · have h4 : ¬ (0 : Int) ≤ n := h1
    simp only [h4, ge_iff_le, decide_false, Bool.not_false, Bool.false_and, cond_true, cond_false]
theorem c77 (s : SSta) (N : List (Value × Value)) (B : List Int) (r : SRel) (hb : s.bays.length ≤ 9223372036854775807) : CX Tryz.prog 77 [.c (.ptr 0 0), aRel r] (HC s N (mapIn B)) (vI (placeErr s.bays B r)) (HC s N (mapIn B)) := by
  refine cx_of sWi.ok Tryz.func77 b77 rfl ((ev77 s N (mapIn B) r 1).trans ?_)
  have w : IntKind.wrap IntKind.i64 ((s.bays.length : Int) - 1) = (s.bays.length : Int) - 1 := wrap_id (by omega) (by omega)
  rw [w, assoc_mapIn]
  have key : ∀ (kb sn : Bool), _ := fun kb sn => place_k (fun n => some (T.leaf (vI n, HC s N (mapIn B)))) r.bay s.bays.length kb sn
  unfold placeErr
  cases (r.kind == 1) with
  | true => exact key _ _
  | false =>
    cases (r.kind == 2) with
    | true => exact key _ _
    | false =>
      cases (r.kind == 3) with
      | true => exact key _ _
      | false =>
        cases (r.kind == 4) with
        | false => rfl
        | true =>
          unfold seenB
          cases (r.bay != -1) with
          | true => rfl
          | false => cases (B.any fun m => r.bay == m) <;> rfl
/-! add -/
noncomputable def restErr (r : SRel) : Int := bif !ev78_v r then 12 else bif !ev79_v r then 2 else bif !ev80_v r then 2 else bif !ev81_v r then 2 else bif !ev82_v r then 2 else bif !ev83_v r then 11 else bif !countsOk r then 3 else eLists r
noncomputable def addErr (bays : List SBay) (N : List ByteArray) (B : List Int) (r : SRel) : Int := bif !nameOk r.name then 7 else bif inB N r.name then 8 else bif placeErr bays B r != 0 then placeErr bays B r else restErr r
def eP (s : SSta) (a : List ByteArray × List Int × SRel) : List AV × Hp := ([.c (.ptr 0 0), aRel a.2.2], HC s (mapOf a.1) (mapIn a.2.1))
theorem eP_inj (s : SSta) : InjY (eP s) := fun a b h1 h2 => by
  obtain ⟨n, i, r⟩ := a
  obtain ⟨n', i', r'⟩ := b
  have e1 : r = r' := aRel_inj _ _ (asle_cons (asle_cons h1).2).1
  have e2 := mapOf_inj (ble_map (hle_look h2 1 (a := .map 0 (mapOf n)) (b := .map 0 (mapOf n')) rfl rfl))
  have e3 := mapIn_inj (ble_map (hle_look h2 2 (a := .map 2 (mapIn i)) (b := .map 2 (mapIn i')) rfl rfl))
  rw [e1, e2, e3]
def eQ (s : SSta) (n : List ByteArray) (b : List Int) (r : SRel) : List AV × Hp := ([.c (.ptr 0 0), aRel r], HC s (mapOf n) (mapIn b))
theorem eQ_inj (s : SSta) (n : List ByteArray) (b : List Int) : InjY (eQ s n b) := fun x y h1 _ => aRel_inj _ _ (asle_cons (asle_cons h1).2).1
abbrev eR := en1 aRel
theorem eR_inj : InjT eR := en1_inj aRel_inj
noncomputable def Z32 (s : SSta) (n : List ByteArray) (b : List Int) : K32 where
  okr := okG eR okRel
  us x := ev78_v (theT eR x)
  di x := ev79_v (theT eR x)
  sc x := ev80_v (theT eR x)
  el x := ev81_v (theT eR x)
  ot x := ev82_v (theT eR x)
  zo x := ev83_v (theT eR x)
  ct x := countsOk (theT eR x)
  ls x := eLists (theT eR x)
  okp := okZ (eQ s n b) fun _ => true
  pl x H := placeErr s.bays b (theY (eQ s n b) x H)
theorem s32 (s : SSta) (n : List ByteArray) (b : List Int) (hb : s.bays.length ≤ 9223372036854775807) : OrcS Tryz.prog (o32 (Z32 s n b) s (mapOf n) (mapIn b)) := by
  refine sN (.cons (.m (enc := eQ s n b) (c := fun _ => true) (r := fun r => vI (placeErr s.bays b r)) (H' := fun _ => HC s (mapOf n) (mapIn b)) fun r _ => c77 s (mapOf n) b r hb) ?_)
  exact .cons (.t' (r := fun a => vB (ev78_v a)) fun a _ => c78 a) (.cons (.t' (r := fun a => vB (ev79_v a)) fun a _ => c79 a) (.cons (.t' (r := fun a => vB (ev80_v a)) fun a _ => c80 a) (.cons (.t' (r := fun a => vB (ev81_v a)) fun a _ => c81 a)
    (.cons (.t' (r := fun a => vB (ev82_v a)) fun a _ => c82 a) (.cons (.t' (r := fun a => vB (ev83_v a)) fun a _ => c83 a) (.cons (.t' (r := fun a => vB (countsOk a)) fun a h => c84 a h) (.cons (.t' (r := fun a => vI (eLists a)) fun a h => c85 a h) .nil)))))))
noncomputable def addN (bays : List SBay) (N : List ByteArray) (B : List Int) (r : SRel) : List ByteArray := bif addErr bays N B r != 0 then N else N ++ [r.name]
noncomputable def addB (bays : List SBay) (N : List ByteArray) (B : List Int) (r : SRel) : List Int := bif addErr bays N B r != 0 then B else B ++ [r.bay]
theorem c32 (s : SSta) (N : List ByteArray) (B : List Int) (r : SRel) (hs : s.bays.length ≤ 9223372036854775807) (hr : okRel r = true) :
    CX Tryz.prog 32 [.c (.ptr 0 0), aRel r] (HC s (mapOf N) (mapIn B)) (vI (addErr s.bays N B r)) (HC s (mapOf (addN s.bays N B r)) (mapIn (addB s.bays N B r))) := by
  refine cx_of (s32 s N B hs).ok Tryz.func32 b32 rfl ((ev32 (Z32 s N B) s (mapOf N) (mapIn B) r 1).trans ?_)
  have k1 : (Z32 s N B).okp [.c (.ptr 0 0), aRel r] (HC s (mapOf N) (mapIn B)) = true := okZ_enc (eQ_inj s N B) (c := fun _ => true) r rfl
  have k2 : (Z32 s N B).pl [.c (.ptr 0 0), aRel r] (HC s (mapOf N) (mapIn B)) = placeErr s.bays B r := congrArg (placeErr s.bays B) (theY_enc (eQ_inj s N B) r)
  have k3 : (Z32 s N B).okr [aRel r] = true := okG_enc eR_inj (c := okRel) r hr
  have t := theT_enc eR_inj r
  have k4 : (Z32 s N B).us [aRel r] = ev78_v r := congrArg ev78_v t
  have k5 : (Z32 s N B).di [aRel r] = ev79_v r := congrArg ev79_v t
  have k6 : (Z32 s N B).sc [aRel r] = ev80_v r := congrArg ev80_v t
  have k7 : (Z32 s N B).el [aRel r] = ev81_v r := congrArg ev81_v t
  have k8 : (Z32 s N B).ot [aRel r] = ev82_v r := congrArg ev82_v t
  have k9 : (Z32 s N B).zo [aRel r] = ev83_v r := congrArg ev83_v t
  have k10 : (Z32 s N B).ct [aRel r] = countsOk r := congrArg countsOk t
  have k11 : (Z32 s N B).ls [aRel r] = eLists r := congrArg eLists t
  unfold HC at k1 k2
  simp only [staC, List.map_cons, List.map_nil, List.cons_append, List.nil_append] at k1 k2
  rw [k1, k2, k3, k4, k5, k6, k7, k8, k9, k10, k11, assocN]
  unfold addN addB
  unfold addErr
  cases nameOk r.name with
  | false => rfl
  | true =>
    cases inB N r.name with
    | true => rfl
    | false =>
      cases hp : (placeErr s.bays B r != 0) with
      | true => simp only [Bool.not_true, cond_false, cond_true, hp]; rfl
      | false =>
        unfold restErr
        cases ev78_v r with
        | false => rfl
        | true =>
          cases ev79_v r with
          | false => rfl
          | true =>
            cases ev80_v r with
            | false => rfl
            | true =>
              cases ev81_v r with
              | false => rfl
              | true =>
                cases ev82_v r with
                | false => rfl
                | true =>
                  cases ev83_v r with
                  | false => rfl
                  | true =>
                    cases countsOk r with
                    | false => rfl
                    | true =>
                      cases hl : (eLists r != 0) with
                      | true => simp only [Bool.not_true, cond_false, cond_true, hl]; rfl
                      | false =>
                        have e0 : eLists r = 0 := by simpa using hl
                        have z0 : ((0 : Int) != 0) = false := rfl
                        simp only [Bool.not_true, cond_false, cond_true, e0, z0, mapOf_app, mapIn_app]; rfl
end Go.Proofs.YtngoglhlhlfknaaGreat.se
namespace Go.Eb
open Go.RowKit
def tStation : ByteArray := ⟨#[115, 116, 97, 116, 105, 111, 110]⟩
def tBus' : ByteArray := ⟨#[98, 117, 115]⟩
def tLine' : ByteArray := ⟨#[108, 105, 110, 101]⟩
def tSource : ByteArray := ⟨#[115, 111, 117, 114, 99, 101]⟩
def tBay' : ByteArray := ⟨#[98, 97, 121]⟩
def tCoupler : ByteArray := ⟨#[99, 111, 117, 112, 108, 101, 114]⟩
/-! rows that stand for lists, one way -/
section
variable {β : Type} {c : β → List D} {d0 : β}
end
end Go.Eb
namespace Go.Eb
open Go.RowKit
def tRelay' : ByteArray := ⟨#[114, 101, 108, 97, 121]⟩
def tZone' : ByteArray := ⟨#[122, 111, 110, 101]⟩
def tForward' : ByteArray := ⟨#[102, 111, 114, 119, 97, 114, 100]⟩
def tReverse' : ByteArray := ⟨#[114, 101, 118, 101, 114, 115, 101]⟩
def tLoop' : ByteArray := ⟨#[108, 111, 111, 112]⟩
def tScheme' : ByteArray := ⟨#[115, 99, 104, 101, 109, 101]⟩
def tUnderreach' : ByteArray := ⟨#[117, 110, 100, 101, 114, 114, 101, 97, 99, 104]⟩
def tOverreach' : ByteArray := ⟨#[111, 118, 101, 114, 114, 101, 97, 99, 104]⟩
def tBlocking' : ByteArray := ⟨#[98, 108, 111, 99, 107, 105, 110, 103]⟩
def tDefinite' : ByteArray := ⟨#[100, 101, 102, 105, 110, 105, 116, 101]⟩
def tInverse' : ByteArray := ⟨#[105, 110, 118, 101, 114, 115, 101]⟩
def tFail' : ByteArray := ⟨#[102, 97, 105, 108]⟩
def tReclose' : ByteArray := ⟨#[114, 101, 99, 108, 111, 115, 101]⟩
def tUnder' : ByteArray := ⟨#[117, 110, 100, 101, 114]⟩
def tOver' : ByteArray := ⟨#[111, 118, 101, 114]⟩
def tDifferential' : ByteArray := ⟨#[100, 105, 102, 102, 101, 114, 101, 110, 116, 105, 97, 108]⟩
def tRule' : ByteArray := ⟨#[114, 117, 108, 101]⟩
def tSet' : ByteArray := ⟨#[115, 101, 116]⟩
def tPublish' : ByteArray := ⟨#[112, 117, 98, 108, 105, 115, 104]⟩
def tSubscribe' : ByteArray := ⟨#[115, 117, 98, 115, 99, 114, 105, 98, 101]⟩
end Go.Eb
namespace Go.Eb
open Go.RowKit
structure Mr where
  ws : List ByteArray
  ns : List Int
  ok : Bool
def mrNo : Mr := ⟨[], [], false⟩
def mrW (nu : ByteArray → Int × Bool) : List Wd → List UInt8 → Mr
  | [], _ => ⟨[], [], true⟩
  | w :: r, ks => bif w.q != (((ks.headD 119).toNat : Int) == 113) then mrNo else
      bif ((ks.headD 119).toNat : Int) == 110 then (bif !(nu w.text).2 then mrNo else ⟨w.text :: (mrW nu r ks.tail).ws, (nu w.text).1 :: (mrW nu r ks.tail).ns, (mrW nu r ks.tail).ok⟩)
      else ⟨w.text :: (mrW nu r ks.tail).ws, (mrW nu r ks.tail).ns, (mrW nu r ks.tail).ok⟩
def mrK (nu : ByteArray → Int × Bool) (ks : ByteArray) (mo : Bool) (ws : List Wd) : Mr :=
  bif decide ((ws.length : Int) < (ks.size : Int)) || (decide ((ws.length : Int) > (ks.size : Int)) && !mo) then mrNo else bif (mrW nu ws ks.data.toList).ok then mrW nu ws ks.data.toList else mrNo
theorem mrW_ws (nu : ByteArray → Int × Bool) : ∀ (ws : List Wd) (ks : List UInt8), (mrW nu ws ks).ok = true → (mrW nu ws ks).ws = ws.map Wd.text
  | [], _, _ => rfl
  | w :: r, ks, h => by
    have ih := mrW_ws nu r ks.tail
    unfold mrW at h ⊢
    cases h1 : (w.q != (((ks.headD 119).toNat : Int) == 113)) with
    | true => rw [h1] at h; cases h
    | false =>
      rw [h1] at h
      simp only [cond_false] at h ⊢
      cases h2 : (((ks.headD 119).toNat : Int) == 110) with
      | true =>
        rw [h2] at h
        simp only [cond_true] at h ⊢
        cases h3 : (!(nu w.text).2) with
        | true => rw [h3] at h; cases h
        | false =>
          rw [h3] at h
          simp only [cond_false] at h ⊢
          rw [ih h]; rfl
      | false =>
        rw [h2] at h
        simp only [cond_false] at h ⊢
        rw [ih h]; rfl
theorem mrW_ns (nu : ByteArray → Int × Bool) : ∀ (ws : List Wd) (ks : List UInt8), (mrW nu ws ks).ok = true → ks.length ≤ ws.length → (mrW nu ws ks).ns.length = ks.countP fun c => (c.toNat : Int) == 110
  | [], ks, _, hl => by
    have : ks = [] := List.eq_nil_of_length_eq_zero (by simpa using hl)
    subst this; rfl
  | w :: r, ks, h, hl => by
    have ih := mrW_ns nu r ks.tail
    have hl2 : ks.tail.length ≤ r.length := by simp at hl ⊢; omega
    unfold mrW at h ⊢
    cases h1 : (w.q != (((ks.headD 119).toNat : Int) == 113)) with
    | true => rw [h1] at h; cases h
    | false =>
      rw [h1] at h
      simp only [cond_false] at h ⊢
      cases h2 : (((ks.headD 119).toNat : Int) == 110) with
      | true =>
        rw [h2] at h
        simp only [cond_true] at h ⊢
        cases h3 : (!(nu w.text).2) with
        | true => rw [h3] at h; cases h
        | false =>
          rw [h3] at h
          simp only [cond_false] at h ⊢
          cases ks with
          | nil => simp at h2
          | cons c t =>
            simp only [List.headD_cons] at h2
            rw [List.length_cons, ih h hl2, List.countP_cons, List.tail_cons, h2]; rfl
      | false =>
        rw [h2] at h
        simp only [cond_false] at h ⊢
        cases ks with
        | nil => rw [ih h hl2]; rfl
        | cons c t =>
          simp only [List.headD_cons] at h2
          rw [ih h hl2, List.countP_cons, List.tail_cons, h2]; rfl
theorem mrK_un {nu : ByteArray → Int × Bool} {ks : ByteArray} {mo : Bool} {ws : List Wd} (h : (mrK nu ks mo ws).ok = true) :
    (mrK nu ks mo ws).ws = ws.map Wd.text ∧ ks.size ≤ ws.length ∧ (mrK nu ks mo ws).ns.length = ks.data.toList.countP (fun c => (c.toNat : Int) == 110) ∧ (mo = false → ws.length = ks.size) := by
  unfold mrK at h ⊢
  cases h1 : (decide ((ws.length : Int) < (ks.size : Int)) || (decide ((ws.length : Int) > (ks.size : Int)) && !mo)) with
  | true => rw [h1] at h; cases h
  | false =>
    rw [h1] at h
    simp only [cond_false] at h ⊢
    cases h2 : (mrW nu ws ks.data.toList).ok with
    | false => rw [h2] at h; cases h
    | true =>
      simp only [cond_true]
      simp only [Bool.or_eq_false_iff, decide_eq_false_iff_not, Bool.and_eq_false_iff, Bool.not_eq_false'] at h1
      have hs : ks.data.toList.length = ks.size := by rw [Array.length_toList]; rfl
      refine ⟨mrW_ws nu ws _ h2, by omega, mrW_ns nu ws _ h2 (by rw [hs]; omega), fun hm => ?_⟩
      rcases h1.2 with h3 | h3
      · omega
      · rw [hm] at h3; cases h3
/-! what a form sets -/
abbrev isT (a b : ByteArray) : Bool := a.toList == b.toList
abbrev wN (ws : List ByteArray) (i : Nat) : ByteArray := ws.getD i e0
abbrev nN (ns : List Int) (i : Nat) : Int := ns.getD i 0
def zFw (ws : List ByteArray) : Bool := isT (wN ws 2) tForward'
def zOk (ws : List ByteArray) (ns : List Int) : Bool := (decide (1 ≤ nN ns 0) && decide (nN ns 0 ≤ 3)) && (zFw ws || isT (wN ws 2) tReverse')
def setZone (r : SRel) (ws : List ByteArray) (ns : List Int) : SRel :=
  bif nN ns 0 == 1 then { r with zon0 := true, zfw0 := zFw ws, zx0 := nN ns 1, zr0 := nN ns 2, zl0 := nN ns 3, zd0 := nN ns 4 } else
  bif nN ns 0 == 2 then { r with zon1 := true, zfw1 := zFw ws, zx1 := nN ns 1, zr1 := nN ns 2, zl1 := nN ns 3, zd1 := nN ns 4 } else
  { r with zon2 := true, zfw2 := zFw ws, zx2 := nN ns 1, zr2 := nN ns 2, zl2 := nN ns 3, zd2 := nN ns 4 }
def schemeOf (w : ByteArray) : Int := bif isT w tUnderreach' then 1 else bif isT w tOverreach' then 2 else bif isT w tBlocking' then 3 else 0
def fmIx (k : ByteArray) : Nat := bif isT k tSubscribe' then 13 else bif isT k tPublish' then 12 else bif isT k tSet' then 11 else bif isT k tRule' then 10 else bif isT k tDifferential' then 9 else bif isT k tReclose' then 8 else bif isT k tInverse' then 7 else bif isT k tOver' then 6 else bif isT k tUnder' then 5 else bif isT k tFail' then 4 else bif isT k tDefinite' then 3 else bif isT k tScheme' then 2 else bif isT k tLoop' then 1 else bif isT k tZone' then 0 else 14
def fmK : Nat → ByteArray
  | 0 => ⟨#[119, 110, 119, 110, 110, 110, 110]⟩
  | 1 => ⟨#[119, 110, 110, 110]⟩
  | 2 => ⟨#[119, 119, 110, 110]⟩
  | 8 => ⟨#[119, 110, 110, 110]⟩
  | 9 => ⟨#[119, 110, 110, 110, 110]⟩
  | 10 => ⟨#[119, 119, 113]⟩
  | 11 => ⟨#[119, 119]⟩
  | 12 => ⟨#[119, 119, 110, 110]⟩
  | 13 => ⟨#[119, 119, 119, 119, 119]⟩
  | _ => ⟨#[119, 110, 110]⟩
def fmRep (i : Nat) : Bool := decide (10 ≤ i)
def fmMo (i : Nat) : Bool := decide (i = 11)
def setOk (i : Nat) (ws : List ByteArray) (ns : List Int) : Bool := match i with
  | 0 => zOk ws ns
  | 2 => schemeOf (wN ws 1) != 0
  | _ => true
def setR (i : Nat) (r : SRel) (ws : List ByteArray) (ns : List Int) : SRel := match i with
  | 0 => setZone r ws ns
  | 1 => { r with min := nN ns 0, kre := nN ns 1, kim := nN ns 2 }
  | 2 => { r with scheme := schemeOf (wN ws 1), wait := nN ns 0, guard := nN ns 1 }
  | 3 => { r with don := true, dpk := nN ns 0, ddl := nN ns 1 }
  | 4 => { r with fon := true, fpk := nN ns 0, fdl := nN ns 1 }
  | 5 => { r with uon := true, upk := nN ns 0, udl := nN ns 1 }
  | 6 => { r with oon := true, opk := nN ns 0, odl := nN ns 1 }
  | 7 => { r with ion := true, ipk := nN ns 0, idl := nN ns 1 }
  | 8 => { r with shots := nN ns 0, dead := nN ns 1, reclaim := nN ns 2 }
  | 9 => { r with diff := nN ns 0, num := nN ns 1, den := nN ns 2, harm := nN ns 3 }
  | 10 => { r with rules := r.rules ++ [⟨wN ws 1, wN ws 2⟩] }
  | 11 => { r with sets := r.sets ++ [⟨wN ws 1, ws.drop 2⟩] }
  | 12 => { r with pubs := r.pubs ++ [⟨wN ws 1, nN ns 0, nN ns 1⟩] }
  | 13 => { r with subs := r.subs ++ [⟨wN ws 1, wN ws 2, wN ws 3, wN ws 4⟩] }
  | _ => r
def kidKey (i : Nat) (k : ByteArray) (ws : List ByteArray) : ByteArray := bif i == 0 then k ++ wN ws 1 else k
def kidM (nu : ByteArray → Int × Bool) (x : It) : Mr := mrK nu (fmK (fmIx (x.words.getD 0 w0).text)) (fmMo (fmIx (x.words.getD 0 w0).text)) x.words
def kidErr (nu : ByteArray → Int × Bool) (seen : List ByteArray) (x : It) : Int :=
  bif fmIx (x.words.getD 0 w0).text == 14 || x.block then 6 else bif !(kidM nu x).ok || !setOk (fmIx (x.words.getD 0 w0).text) (kidM nu x).ws (kidM nu x).ns then 6 else
    bif inB seen (kidKey (fmIx (x.words.getD 0 w0).text) (x.words.getD 0 w0).text (kidM nu x).ws) && !fmRep (fmIx (x.words.getD 0 w0).text) then 8 else 0
def kidSeen (nu : ByteArray → Int × Bool) (x : It) : ByteArray := kidKey (fmIx (x.words.getD 0 w0).text) (x.words.getD 0 w0).text (kidM nu x).ws
def kidR (nu : ByteArray → Int × Bool) (r : SRel) (x : It) : SRel := setR (fmIx (x.words.getD 0 w0).text) r (kidM nu x).ws (kidM nu x).ns
def blkE (nu : ByteArray → Int × Bool) (seen : List ByteArray) : List It → Int × Int
  | [] => (0, 0)
  | x :: t => bif kidErr nu seen x != 0 then (x.line, kidErr nu seen x) else blkE nu (seen ++ [kidSeen nu x]) t
def blkR (nu : ByteArray → Int × Bool) (r : SRel) (seen : List ByteArray) : List It → SRel
  | [] => r
  | x :: t => bif kidErr nu seen x != 0 then (bif kidErr nu seen x == 8 then kidR nu r x else r) else blkR nu (kidR nu r x) (seen ++ [kidSeen nu x]) t
/-! the head of a relay -/
def hK : ByteArray := ⟨#[119, 119, 119]⟩
def headM (nu : ByteArray → Int × Bool) (x : It) : Mr := mrK nu hK true x.words
def headKind (w : ByteArray) : Int := bif isT w tLine' then 1 else bif isT w tSource then 2 else bif isT w tCoupler then 3 else bif isT w tBus' then 4 else 0
def headBay (bays : List SBay) (w : ByteArray) : Int := idxP (fun b : SBay => isT b.name w) 0 bays
def headErr (nu : ByteArray → Int × Bool) (bays : List SBay) (x : It) : Int :=
  bif !(headM nu x).ok || (!isT (wN (headM nu x).ws 0) tRelay' || !x.block) then 6 else bif headKind (wN (headM nu x).ws 2) == 0 then 6 else
    bif headKind (wN (headM nu x).ws 2) == 4 then (bif ((headM nu x).ws.length : Int) != 3 then 6 else 0) else bif ((headM nu x).ws.length : Int) != 4 then 6 else bif decide (headBay bays (wN (headM nu x).ws 3) < 0) then 9 else 0
def headR (nu : ByteArray → Int × Bool) (bays : List SBay) (x : It) : SRel := { rel0 with name := wN (headM nu x).ws 1, kind := headKind (wN (headM nu x).ws 2), bay := bif headKind (wN (headM nu x).ws 2) == 4 then -1 else headBay bays (wN (headM nu x).ws 3) }
def staW (w : ByteArray) : Bool := isT w tStation || (isT w tBus' || (isT w tLine' || (isT w tSource || isT w tBay')))
end Go.Eb
namespace Go.Eb
open Go.RowKit
/-! the lists of a relay that is read are not longer than what it is read from -/
theorem setZone_l (r : SRel) (ws : List ByteArray) (ns : List Int) : (setZone r ws ns).rules = r.rules ∧ (setZone r ws ns).sets = r.sets ∧ (setZone r ws ns).pubs = r.pubs ∧ (setZone r ws ns).subs = r.subs := by
  unfold setZone
  cases (nN ns 0 == 1) with
  | true => exact ⟨rfl, rfl, rfl, rfl⟩
  | false => cases (nN ns 0 == 2) <;> exact ⟨rfl, rfl, rfl, rfl⟩
def LnR (n w : Nat) (r : SRel) : Prop := r.rules.length ≤ n ∧ r.sets.length ≤ n ∧ r.pubs.length ≤ n ∧ r.subs.length ≤ n ∧ ∀ x ∈ r.sets, x.sigs.length ≤ w
theorem LnR.mono {n m w : Nat} {r : SRel} (h : LnR n w r) (hm : n ≤ m) : LnR m w r := ⟨Nat.le_trans h.1 hm, Nat.le_trans h.2.1 hm, Nat.le_trans h.2.2.1 hm, Nat.le_trans h.2.2.2.1 hm, h.2.2.2.2⟩
theorem setR_l {n w : Nat} {r : SRel} (h : LnR n w r) (ws : List ByteArray) (ns : List Int) (hw : ws.length ≤ w) : ∀ i, LnR (n + 1) w (setR i r ws ns) := by
  obtain ⟨h1, h2, h3, h4, h5⟩ := h
  have hb : ∀ q : SRel, q.rules = r.rules ∧ q.sets = r.sets ∧ q.pubs = r.pubs ∧ q.subs = r.subs → LnR (n + 1) w q := fun q ⟨e1, e2, e3, e4⟩ => ⟨by rw [e1]; omega, by rw [e2]; omega, by rw [e3]; omega, by rw [e4]; omega, by rw [e2]; exact h5⟩
  intro i
  match i with
  | 0 => exact hb _ (setZone_l r ws ns)
  | 1 => exact hb _ ⟨rfl, rfl, rfl, rfl⟩
  | 2 => exact hb _ ⟨rfl, rfl, rfl, rfl⟩
  | 3 => exact hb _ ⟨rfl, rfl, rfl, rfl⟩
  | 4 => exact hb _ ⟨rfl, rfl, rfl, rfl⟩
  | 5 => exact hb _ ⟨rfl, rfl, rfl, rfl⟩
  | 6 => exact hb _ ⟨rfl, rfl, rfl, rfl⟩
  | 7 => exact hb _ ⟨rfl, rfl, rfl, rfl⟩
  | 8 => exact hb _ ⟨rfl, rfl, rfl, rfl⟩
  | 9 => exact hb _ ⟨rfl, rfl, rfl, rfl⟩
  | 10 => exact ⟨by simp [setR]; omega, by simp [setR]; omega, by simp [setR]; omega, by simp [setR]; omega, h5⟩
  | 11 =>
    refine ⟨by simp [setR]; omega, by simp [setR]; omega, by simp [setR]; omega, by simp [setR]; omega, fun x hx => ?_⟩
    have hx : x ∈ r.sets ++ [(⟨wN ws 1, ws.drop 2⟩ : SSet)] := hx
    rcases List.mem_append.1 hx with hx | hx
    · exact h5 x hx
    · simp at hx; subst hx; simp; omega
  | 12 => exact ⟨by simp [setR]; omega, by simp [setR]; omega, by simp [setR]; omega, by simp [setR]; omega, h5⟩
  | 13 => exact ⟨by simp [setR]; omega, by simp [setR]; omega, by simp [setR]; omega, by simp [setR]; omega, h5⟩
  | i + 14 => exact hb _ ⟨rfl, rfl, rfl, rfl⟩
theorem mrK_len {nu : ByteArray → Int × Bool} {ks : ByteArray} {mo : Bool} {ws : List Wd} : (mrK nu ks mo ws).ws.length ≤ ws.length := by
  cases h : (mrK nu ks mo ws).ok with
  | true => rw [(mrK_un h).1]; simp
  | false =>
    unfold mrK at h ⊢
    cases h1 : (decide ((ws.length : Int) < (ks.size : Int)) || (decide ((ws.length : Int) > (ks.size : Int)) && !mo)) with
    | true => simp [mrNo]
    | false =>
      rw [h1] at h
      simp only [cond_false] at h ⊢
      cases h2 : (mrW nu ws ks.data.toList).ok with
      | true => rw [h2] at h; simp only [cond_true] at h; rw [h2] at h; cases h
      | false => simp [mrNo]
theorem blkR_l (nu : ByteArray → Int × Bool) {w : Nat} : ∀ (l : List It) (n : Nat) (r : SRel) (seen : List ByteArray), LnR n w r → (∀ x ∈ l, x.words.length ≤ w) → LnR (n + l.length) w (blkR nu r seen l)
  | [], n, r, seen, h, _ => h
  | x :: t, n, r, seen, h, hw => by
    have hk : LnR (n + 1) w (kidR nu r x) := setR_l h _ _ (Nat.le_trans mrK_len (hw x (by simp))) _
    unfold blkR
    cases (kidErr nu seen x != 0) with
    | true =>
      simp only [cond_true]
      cases (kidErr nu seen x == 8) with
      | true => exact hk.mono (by simp)
      | false => exact h.mono (by simp)
    | false =>
      simp only [cond_false]
      exact (blkR_l nu t (n + 1) _ _ hk fun y hy => hw y (by simp [hy])).mono (by simp; omega)
theorem LnR.ok {n w : Nat} {r : SRel} (h : LnR n w r) (hn : n ≤ 9223372036854775807) (hw : w ≤ 9223372036854775807) : okRel r = true := by
  obtain ⟨h1, h2, h3, h4, h5⟩ := h
  unfold okRel lenOk
  simp only [Bool.and_eq_true, decide_eq_true_eq, List.all_eq_true]
  exact ⟨by omega, by omega, by omega, by omega, fun x hx => by unfold okSet lenOk; exact decide_eq_true (Nat.le_trans (h5 x hx) hw)⟩
end Go.Eb
namespace Go.Proofs.YtngoglhlhlfknaaGreat.wd
open Go.RowKit Go.Eb
theorem ev46 (r : Int) : callC Tryz.prog Orc.nil na 1 Tryz.f144 (bodyOf Tryz.f144) [v32 r] [] =
 (bif decide (r ≥ (65 : Int)) then (bif decide (r ≤ (90 : Int)) then some (T.leaf (AV.c (.d (.v (.bool true))), [])) else (bif decide (r ≥ (97 : Int)) then some (T.leaf (AV.c
 (C.d (.v (.bool (decide (r ≤ (122 : Int)))))), [])) else some (T.leaf (AV.c (.d (.v (.bool false))), [])))) else (bif decide (r ≥ (97 : Int)) then some (T.leaf (AV.c
 (C.d (.v (.bool (decide (r ≤ (122 : Int)))))), [])) else some (T.leaf (AV.c (.d (.v (.bool false))), [])))) := by kernel_rfl
theorem ev47 (r : Int) : callC Tryz.prog Orc.nil na 1 Tryz.f134 (bodyOf Tryz.f134) [v8 r] [] =
 (bif decide (r ≥ (97 : Int)) then (bif decide (r ≤ (122 : Int)) then some (T.leaf (AV.c (.d (.v (.bool true))), [])) else (bif decide (r ≥ (65 : Int)) then some (T.leaf (AV.c
 (C.d (.v (.bool (decide (r ≤ (90 : Int)))))), [])) else some (T.leaf (AV.c (.d (.v (.bool false))), [])))) else (bif decide (r ≥ (65 : Int)) then some (T.leaf (AV.c
 (C.d (.v (.bool (decide (r ≤ (90 : Int)))))), [])) else some (T.leaf (AV.c (.d (.v (.bool false))), [])))) := by kernel_rfl
theorem ev28 (r : Int) : callC Tryz.prog Orc.nil na 1 Tryz.f135 (bodyOf Tryz.f135) [v8 r] [] =
 (bif decide (r ≥ (48 : Int)) then some (T.leaf (AV.c (.d (.v (.bool (decide (r ≤ (57 : Int)))))), [])) else some (T.leaf (AV.c (.d (.v (.bool false))), []))) := by kernel_rfl
def letter (r : Int) : Bool := (decide (65 ≤ r) && decide (r ≤ 90)) || (decide (97 ≤ r) && decide (r ≤ 122))
def digit (r : Int) : Bool := decide (48 ≤ r) && decide (r ≤ 57)
noncomputable def o29 : Orc := Orc.cons 144 (ansP dec32 fun r => vB (letter r)) Orc.nil
noncomputable def o30 : Orc := Orc.cons 134 (ansP dec8 fun r => vB (letter r)) (Orc.cons 135 (ansP dec8 fun r => vB (digit r)) Orc.nil)
theorem ev29 (r : Int) : callC Tryz.prog o29 na 1 Tryz.f145 (bodyOf Tryz.f145) [v32 r] [] =
 (bif letter r then (bif letter r then some (T.leaf (AV.c (.d (.v (.bool true))), [])) else (bif r == (95 : Int) then (bif r == (95 : Int) then some (T.leaf (AV.c (C.d (D.v
 (Value.bool true))), [])) else some (T.leaf (AV.c (.d (.v (.bool false))), []))) else (bif r == (45 : Int) then (bif r == (45 : Int) then some (T.leaf (AV.c (C.d (D.v
 (Value.bool true))), [])) else some (T.leaf (AV.c (.d (.v (.bool false))), []))) else (bif r == (43 : Int) then (bif r == (43 : Int) then some (T.leaf (AV.c (C.d (D.v
 (Value.bool true))), [])) else some (T.leaf (AV.c (.d (.v (.bool false))), []))) else (bif r == (46 : Int) then (bif r == (46 : Int) then some (T.leaf (AV.c (C.d (D.v
 (Value.bool true))), [])) else some (T.leaf (AV.c (.d (.v (.bool false))), []))) else (bif r == (47 : Int) then (bif r == (47 : Int) then some (T.leaf (AV.c (C.d (D.v
 (Value.bool true))), [])) else some (T.leaf (AV.c (.d (.v (.bool false))), []))) else (bif r == (58 : Int) then some (T.leaf (AV.c (.d (.v (.bool true))), [])) else
 some (T.leaf (AV.c (.d (.v (.bool false))), []))))))))) else (bif decide (r ≥ (48 : Int)) then (bif decide (r ≤ (57 : Int)) then some (T.leaf (AV.c (C.d (D.v (Value.bool
 true))), [])) else (bif r == (95 : Int) then (bif r == (95 : Int) then some (T.leaf (AV.c (.d (.v (.bool true))), [])) else some (T.leaf (AV.c (.d (.v (.bool false))),
 []))) else (bif r == (45 : Int) then (bif r == (45 : Int) then some (T.leaf (AV.c (.d (.v (.bool true))), [])) else some (T.leaf (AV.c (.d (.v (.bool false))), [])))
 else (bif r == (43 : Int) then (bif r == (43 : Int) then some (T.leaf (AV.c (.d (.v (.bool true))), [])) else some (T.leaf (AV.c (.d (.v (.bool false))), []))) else
 (bif r == (46 : Int) then (bif r == (46 : Int) then some (T.leaf (AV.c (.d (.v (.bool true))), [])) else some (T.leaf (AV.c (.d (.v (.bool false))), []))) else (bif r
 == (47 : Int) then (bif r == (47 : Int) then some (T.leaf (AV.c (.d (.v (.bool true))), [])) else some (T.leaf (AV.c (.d (.v (.bool false))), []))) else (bif r == (58
 : Int) then some (T.leaf (AV.c (.d (.v (.bool true))), [])) else some (T.leaf (AV.c (.d (.v (.bool false))), []))))))))) else (bif r == (95 : Int) then (bif r == (95 :
 Int) then some (T.leaf (AV.c (.d (.v (.bool true))), [])) else some (T.leaf (AV.c (.d (.v (.bool false))), []))) else (bif r == (45 : Int) then (bif r == (45 : Int)
 then some (T.leaf (AV.c (.d (.v (.bool true))), [])) else some (T.leaf (AV.c (.d (.v (.bool false))), []))) else (bif r == (43 : Int) then (bif r == (43 : Int) then
 some (T.leaf (AV.c (.d (.v (.bool true))), [])) else some (T.leaf (AV.c (.d (.v (.bool false))), []))) else (bif r == (46 : Int) then (bif r == (46 : Int) then some
 (T.leaf (AV.c (.d (.v (.bool true))), [])) else some (T.leaf (AV.c (.d (.v (.bool false))), []))) else (bif r == (47 : Int) then (bif r == (47 : Int) then some (T.leaf
 (AV.c (.d (.v (.bool true))), [])) else some (T.leaf (AV.c (.d (.v (.bool false))), []))) else (bif r == (58 : Int) then some (T.leaf (AV.c (C.d (D.v (Value.bool
 true))), [])) else some (T.leaf (AV.c (.d (.v (.bool false))), [])))))))))) := by kernel_rfl
theorem ev30 (r : Int) : callC Tryz.prog o30 na 1 Tryz.f95 (bodyOf Tryz.f95) [v8 r] [] =
 (bif letter r then some (T.leaf (AV.c (.d (.v (.bool true))), [])) else (bif digit r then some (T.leaf (AV.c (.d (.v (.bool true))), [])) else (bif r == (95 : Int)
 then some (T.leaf (AV.c (.d (.v (.bool true))), [])) else (bif r == (45 : Int) then some (T.leaf (AV.c (.d (.v (.bool true))), [])) else (bif r == (43 : Int) then some
 (T.leaf (AV.c (.d (.v (.bool true))), [])) else (bif r == (46 : Int) then some (T.leaf (AV.c (.d (.v (.bool true))), [])) else (bif r == (47 : Int) then some (T.leaf
 (AV.c (.d (.v (.bool true))), [])) else some (T.leaf (AV.c (.d (.v (.bool (r == (58 : Int))))), []))))))))) := by kernel_rfl
def plainR (r : Int) : Bool := letter r || digit r || r == 95 || r == 45 || r == 43 || r == 46 || r == 47 || r == 58
noncomputable def o14 : Orc := Orc.cons 95 (ansP dec8 fun r => vB (plainR r)) Orc.nil
noncomputable def ann14 := annOf [(2, ⟨[0, 3], []⟩)]
noncomputable def L14 (s : ByteArray) (g m : Nat) (i : Int) := loopK Tryz.prog o14 ann14 0 g (sub [true, false, true, false, false] (bodyOf Tryz.f136)) m ⟨frm [(0, vS s), (3, vI i)] 0 Tryz.f136.ntmps, [], 0⟩ (kAt Tryz.prog o14 ann14 0 g [true, false, true, false] (bodyOf Tryz.f136) (kEnd Tryz.prog Tryz.f136 0))
theorem ev14 (s : ByteArray) (g : Nat) : callC Tryz.prog o14 ann14 g Tryz.f136 (bodyOf Tryz.f136) [vS s] [] =
 L14 s g g ((0 : Int)) := by kernel_rfl
theorem st14 (s : ByteArray) (g m : Nat) (i : Int) : L14 s g (m + 1) i =
 (bif decide (i < (↑(ByteArray.size s) : Int)) then (bif decide ((0 : Int) ≤ i) && decide (i < (↑(ByteArray.size s) : Int)) then (bif !plainR (↑(UInt8.toNat (List.getD (Array.toList
 (ByteArray.data s)) (Int.toNat i) 0)) : Int) then some (T.leaf (AV.c (.d (.v (.bool false))), [])) else L14 s g m (IntKind.wrap .i64 (i + (1 : Int)))) else
 none) else some (T.leaf (AV.c (.d (.v (.bool !ByteArray.toList s == ByteArray.toList (⟨#[]⟩)))), []))) := by kernel_rfl
noncomputable def o13 : Orc := Orc.cons 145 (ansP dec32 fun r => vB (plainR r)) Orc.nil
noncomputable def ann13 := annOf [(2, ⟨[0, 6], []⟩)]
noncomputable def L13 (s : ByteArray) (g m pos : Nat) := loopK Tryz.prog o13 ann13 0 g (sub [true, false, true, false, false] (bodyOf Tryz.f139)) m ⟨frm [(0, vS s), (6, .c (.ptr 0 0))] 0 Tryz.f139.ntmps, [(0, .iter s pos)], 1⟩ (kAt Tryz.prog o13 ann13 0 g [true, false, true, false] (bodyOf Tryz.f139) (kEnd Tryz.prog Tryz.f139 0))
theorem ev13 (s : ByteArray) (g : Nat) : callC Tryz.prog o13 ann13 g Tryz.f139 (bodyOf Tryz.f139) [vS s] [] =
 L13 s g g 0 := by kernel_rfl
theorem st13 (s : ByteArray) (g m pos : Nat) : L13 s g (m + 1) pos =
 (bif Nat.blt pos (ByteArray.size s) then (bif !plainR (↑(Prod.fst (Utf8.decode s pos)) : Int) then some (T.leaf (AV.c (.d (.v (.bool false))), [])) else L13 s g m (pos +
 Prod.snd (Utf8.decode s pos))) else some (T.leaf (AV.c (.d (.v (.bool !ByteArray.toList s == ByteArray.toList (⟨#[]⟩)))), []))) := by kernel_rfl
theorem ev53 (s p : ByteArray) : callC Tryz.prog Orc.nil na 1 Tryz.f148 (bodyOf Tryz.f148) [vS s, vS p] [] =
 (bif decide ((↑(ByteArray.size s) : Int) ≥ (↑(ByteArray.size p) : Int)) then (bif decide ((0 : Int) ≤ (↑(0 : Nat) : Int)) && decide ((↑(0 : Nat) : Int) ≤ (↑(ByteArray.size p) :
 Int)) && decide ((↑(ByteArray.size p) : Int) ≤ (↑(ByteArray.size s) : Int)) then some (T.leaf (AV.c (.d (.v (.bool (ByteArray.toList (ByteArray.extract s (Int.toNat (↑(0 :
 Nat) : Int)) (Int.toNat (↑(ByteArray.size p) : Int))) == ByteArray.toList p)))), [])) else none) else some (T.leaf (AV.c (.d (.v (.bool false))), []))) := by kernel_rfl
def hasP (s p : ByteArray) : Bool := decide (s.size ≥ p.size) && ((s.extract 0 p.size).toList == p.toList)
noncomputable def o45 : Orc := Orc.cons 148 (ansP decSS fun a => vB (hasP a.1 a.2)) Orc.nil
theorem ev45 (s p : ByteArray) : callC Tryz.prog o45 na 1 Tryz.f146 (bodyOf Tryz.f146) [vS s, vS p] [] =
 (bif !hasP s p then some (T.leaf (AV.tup [(false, [C.d (.v (.string s))]), (false, [C.d (.v (.bool false))])], [])) else (bif decide ((0 : Int) ≤ (↑(ByteArray.size p) :
 Int)) && decide ((↑(ByteArray.size p) : Int) ≤ (↑(ByteArray.size s) : Int)) && decide ((↑(ByteArray.size s) : Int) ≤ (↑(ByteArray.size s) : Int)) then some (T.leaf (AV.tup [(false,
 [C.d (.v (.string (ByteArray.extract s (Int.toNat (↑(ByteArray.size p) : Int)) (Int.toNat (↑(ByteArray.size s) : Int)))))]), (false, [C.d (.v (.bool true))])], [])) else
 none)) := by kernel_rfl
def cutP (s p : ByteArray) : ByteArray × Bool := bif hasP s p then (s.extract p.size s.size, true) else (s, false)
noncomputable def o27 : Orc := Orc.cons 146 (ansP decSS fun a => .tup [pS (cutP a.1 a.2).1, pB (cutP a.1 a.2).2]) Orc.nil
theorem ev27 (s p : ByteArray) : callC Tryz.prog o27 na 1 Tryz.f140 (bodyOf Tryz.f140) [vS s, vS p] [] =
 some (T.leaf (AV.tup [(false, [C.d (.v (.string (Prod.fst (cutP s p))))]), (false, [C.d (.v (.bool (Prod.snd (cutP s p))))])], [])) := by kernel_rfl
noncomputable def o11 : Orc := Orc.cons 140 (ansP decSS fun a => .tup [pS (cutP a.1 a.2).1, pB (cutP a.1 a.2).2]) Orc.nil
noncomputable def ann11 := annOf [(4, ⟨[4, 5, 6, 15], []⟩)]
noncomputable def L11 (d : ByteArray) (mi : Bool) (g m : Nat) (n : Int) (pos : Nat) := loopK Tryz.prog o11 ann11 0 g (sub [true, true, true, false, true, false, false] (bodyOf Tryz.f109)) m ⟨frm [(4, vS d), (5, vB mi), (6, vI n), (15, .c (.ptr 0 0))] 0 Tryz.f109.ntmps, [(0, .iter d pos)], 1⟩ (kAt Tryz.prog o11 ann11 0 g [true, true, true, false, true, false] (bodyOf Tryz.f109) (kEnd Tryz.prog Tryz.f109 0))
theorem ev11 (s : ByteArray) (g : Nat) : callC Tryz.prog o11 ann11 g Tryz.f109 (bodyOf Tryz.f109) [vS s] [] =
 L11 (Prod.fst (cutP s (⟨#[45]⟩))) (Prod.snd (cutP s (⟨#[45]⟩))) g g ((0 : Int)) 0 := by kernel_rfl
theorem st11 (d : ByteArray) (mi : Bool) (g m : Nat) (n : Int) (pos : Nat) : L11 d mi g (m + 1) n pos =
 (bif Nat.blt pos (ByteArray.size d) then (bif decide ((↑(Prod.fst (Utf8.decode d pos)) : Int) < (48 : Int)) then some (T.leaf (AV.tup [(false, [C.d (.v (.int .i64 (0 :
 Int)))]), (false, [C.d (.v (.bool false))])], [])) else (bif decide ((↑(Prod.fst (Utf8.decode d pos)) : Int) > (57 : Int)) then some (T.leaf (AV.tup [(false, [C.d (D.v
 (Value.int IntKind.i64 (0 : Int)))]), (false, [C.d (.v (.bool false))])], [])) else (bif decide ((↑(ByteArray.size d) : Int) > (7 : Int)) then some (T.leaf (AV.tup [(false,
 [C.d (.v (.int .i64 (0 : Int)))]), (false, [C.d (.v (.bool false))])], [])) else L11 d mi g m (IntKind.wrap .i64 (IntKind.wrap .i64 ((10 : Int) * n)
 + IntKind.wrap .i64 (IntKind.wrap IntKind.i32 ((↑(Prod.fst (Utf8.decode d pos)) : Int) - (48 : Int))))) (pos + Prod.snd (Utf8.decode d pos))))) else (bif ByteArray.toList d
 == ByteArray.toList (⟨#[]⟩) then some (T.leaf (AV.tup [(false, [C.d (.v (.int .i64 (0 : Int)))]), (false, [C.d (.v (.bool false))])], [])) else (bif
 decide ((0 : Int) ≤ (0 : Int)) && decide ((0 : Int) < (↑(ByteArray.size d) : Int)) then (bif (↑(UInt8.toNat (List.getD (Array.toList (ByteArray.data d)) (Int.toNat (0 : Int)) (0 :
 UInt8))) : Int) == (48 : Int) then (bif decide ((↑(ByteArray.size d) : Int) > (1 : Int)) then some (T.leaf (AV.tup [(false, [C.d (.v (.int .i64 (0 : Int)))]), (false,
 [C.d (.v (.bool false))])], [])) else (bif mi then some (T.leaf (AV.tup [(false, [C.d (.v (.int .i64 (0 : Int)))]), (false, [C.d (.v (.bool false))])], []))
 else (bif mi then some (T.leaf (AV.tup [(false, [C.d (.v (.int .i64 (IntKind.wrap .i64 ((0 : Int) - n))))]), (false, [C.d (.v (.bool true))])], [])) else
 some (T.leaf (AV.tup [(false, [C.d (.v (.int .i64 n))]), (false, [C.d (.v (.bool true))])], []))))) else (bif mi then some (T.leaf (AV.tup [(false, [C.d (D.v
 (Value.int IntKind.i64 (IntKind.wrap .i64 ((0 : Int) - n))))]), (false, [C.d (.v (.bool true))])], [])) else some (T.leaf (AV.tup [(false, [C.d (D.v (Value.int
 IntKind.i64 n))]), (false, [C.d (.v (.bool true))])], [])))) else none))) := by kernel_rfl
end Go.Proofs.YtngoglhlhlfknaaGreat.wd
namespace Go.Proofs.YtngoglhlhlfknaaGreat.wd
open Go.RowKit Go.Eb
theorem b46 : Tryz.f144.body = some (bodyOf Tryz.f144) := by kernel_rfl
theorem b47 : Tryz.f134.body = some (bodyOf Tryz.f134) := by kernel_rfl
theorem b28 : Tryz.f135.body = some (bodyOf Tryz.f135) := by kernel_rfl
theorem b29 : Tryz.f145.body = some (bodyOf Tryz.f145) := by kernel_rfl
theorem b30 : Tryz.f95.body = some (bodyOf Tryz.f95) := by kernel_rfl
theorem b13 : Tryz.f139.body = some (bodyOf Tryz.f139) := by kernel_rfl
theorem b14 : Tryz.f136.body = some (bodyOf Tryz.f136) := by kernel_rfl
theorem b53 : Tryz.f148.body = some (bodyOf Tryz.f148) := by kernel_rfl
theorem b45 : Tryz.f146.body = some (bodyOf Tryz.f146) := by kernel_rfl
theorem b27 : Tryz.f140.body = some (bodyOf Tryz.f140) := by kernel_rfl
theorem b11 : Tryz.f109.body = some (bodyOf Tryz.f109) := by kernel_rfl
theorem c46 (r : Int) : CX Tryz.prog 144 [v32 r] [] (vB (letter r)) [] := by
  refine cx_of (Orc.nil_ok _) Tryz.func144 b46 rfl ((ev46 r).trans ?_)
  unfold letter
  by_cases h1 : 65 ≤ r <;> by_cases h2 : r ≤ 90 <;> by_cases h3 : 97 ≤ r <;> by_cases h4 : r ≤ 122 <;> simp [h1, h2, h3, h4]
theorem c47 (r : Int) : CX Tryz.prog 134 [v8 r] [] (vB (letter r)) [] := by
  refine cx_of (Orc.nil_ok _) Tryz.func134 b47 rfl ((ev47 r).trans ?_)
  unfold letter
  by_cases h1 : 65 ≤ r <;> by_cases h2 : r ≤ 90 <;> by_cases h3 : 97 ≤ r <;> by_cases h4 : r ≤ 122 <;> simp [h1, h2, h3, h4]
theorem c28 (r : Int) : CX Tryz.prog 135 [v8 r] [] (vB (digit r)) [] := by
  refine cx_of (Orc.nil_ok _) Tryz.func135 b28 rfl ((ev28 r).trans ?_)
  unfold digit
  by_cases h1 : 48 ≤ r <;> by_cases h2 : r ≤ 57 <;> simp [h1, h2]
theorem ok29 : OrcOk Tryz.prog o29 := Orc.cons_ok (Orc.nil_ok _) (ansP_ok dec32_ok c46)
theorem ok30 : OrcOk Tryz.prog o30 := Orc.cons_ok (Orc.cons_ok (Orc.nil_ok _) (ansP_ok dec8_ok c28)) (ansP_ok dec8_ok c47)
theorem c29 (r : Int) : CX Tryz.prog 145 [v32 r] [] (vB (plainR r)) [] := by
  refine cx_of ok29 Tryz.func145 b29 rfl ((ev29 r).trans ?_)
  unfold plainR digit
  simp only [ge_iff_le]
  generalize letter r = l
  generalize decide (48 ≤ r) = d1
  generalize decide (r ≤ 57) = d2
  generalize (r == 95) = e1
  generalize (r == 45) = e2
  generalize (r == 43) = e3
  generalize (r == 46) = e4
  generalize (r == 47) = e5
  generalize (r == 58) = e6
  cases l <;> cases d1 <;> cases d2 <;> cases e1 <;> cases e2 <;> cases e3 <;> cases e4 <;> cases e5 <;> cases e6 <;> rfl
theorem c30 (r : Int) : CX Tryz.prog 95 [v8 r] [] (vB (plainR r)) [] := by
  refine cx_of ok30 Tryz.func95 b30 rfl ((ev30 r).trans ?_)
  unfold plainR
  generalize letter r = l
  generalize digit r = d
  generalize (r == 95) = e1
  generalize (r == 45) = e2
  generalize (r == 43) = e3
  generalize (r == 46) = e4
  generalize (r == 47) = e5
  generalize (r == 58) = e6
  cases l <;> cases d <;> cases e1 <;> cases e2 <;> cases e3 <;> cases e4 <;> cases e5 <;> rfl
theorem ok13 : OrcOk Tryz.prog o13 := Orc.cons_ok (Orc.nil_ok _) (ansP_ok dec32_ok c29)
theorem ok14 : OrcOk Tryz.prog o14 := Orc.cons_ok (Orc.nil_ok _) (ansP_ok dec8_ok c30)
abbrev bs (s : ByteArray) : List UInt8 := s.data.toList
theorem bs_len (s : ByteArray) : (bs s).length = s.size := by simp [bs]
def plainS (s : ByteArray) : Bool := (bs s).all (fun c => plainR c.toNat) && !(s.toList == (ByteArray.mk #[]).toList)
theorem all_drop (l : List UInt8) (p : UInt8 → Bool) {k : Nat} (h : k < l.length) : (l.drop k).all p = (p (l.getD k 0) && (l.drop (k + 1)).all p) := by
  rw [List.drop_eq_getElem_cons h, List.all_cons]
  simp [List.getD, h]
theorem wrap_id {n : Int} (h0 : -9223372036854775808 ≤ n) (h1 : n ≤ 9223372036854775807) : IntKind.wrap IntKind.i64 n = n := by
  exact IntWalk.i64_in n (by omega)
theorem lp14 (s : ByteArray) (g : Nat) (hs : s.size ≤ 9223372036854775807) : ∀ (m k : Nat), k ≤ s.size → s.size - k < m →
    L14 s g m k = some (.leaf (vB ((bs s |>.drop k).all (fun c => plainR c.toNat) && !(s.toList == (ByteArray.mk #[]).toList)), []))
  | 0, k, _, h => by omega
  | m + 1, k, hk, h => by
    rw [st14]
    by_cases hlt : k < s.size
    · have hl : k < (bs s).length := by rw [bs_len]; exact hlt
      have e1 : decide ((k : Int) < (s.size : Int)) = true := by simp; omega
      have e2 : decide ((0 : Int) ≤ (k : Int)) = true := by simp
      have e3 : Int.toNat (k : Int) = k := by simp
      rw [all_drop _ _ hl]
      simp only [e1, e2, e3, Bool.and_self, cond_true]
      have ew : IntKind.wrap IntKind.i64 ((k : Int) + 1) = ((k + 1 : Nat) : Int) := by rw [wrap_id (by omega) (by omega)]; omega
      rw [ew, lp14 s g hs m (k + 1) (by omega) (by omega)]
      cases plainR ((bs s).getD k 0).toNat <;> rfl
    · have e1 : decide ((k : Int) < (s.size : Int)) = false := by simp; omega
      have hd : (bs s).drop k = [] := List.drop_of_length_le (by rw [bs_len]; omega)
      simp only [e1, cond_false]
      rw [hd]
      rfl
theorem c14 (s : ByteArray) (hs : s.size ≤ 9223372036854775807) : CX Tryz.prog 136 [vS s] [] (vB (plainS s)) [] := by
  refine cx_of ok14 Tryz.func136 b14 rfl ((ev14 s (s.size + 1)).trans ?_)
  have := lp14 s (s.size + 1) hs (s.size + 1) 0 (by omega) (by omega)
  exact this
theorem lp13 (s : ByteArray) (g : Nat) : ∀ (m k : Nat), k ≤ s.size → s.size - k < m →
    L13 s g m k = some (.leaf (vB ((bs s |>.drop k).all (fun c => plainR c.toNat) && !(s.toList == (ByteArray.mk #[]).toList)), []))
  | 0, k, _, h => by omega
  | m + 1, k, hk, h => by
    rw [st13]
    by_cases hlt : k < s.size
    · have hl : k < (bs s).length := by rw [bs_len]; exact hlt
      have e1 : Nat.blt k s.size = true := by rw [bltD]; simpa using hlt
      have eb : (bs s).getD k 0 = s[k] := by
        have hl' : k < s.data.size := hlt
        simp only [bs, List.getD, Array.getElem?_toList, Array.getElem?_eq_getElem hl', Option.getD_some]
        rfl
      rw [all_drop _ _ hl, eb]
      simp only [e1, cond_true]
      by_cases ha : s[k].toNat < 128
      · rw [decode_ascii s k hlt ha]
        simp only
        rw [lp13 s g m (k + 1) (by omega) (by omega)]
        cases plainR (s[k].toNat : Int) <;> rfl
      · obtain ⟨h1, h2⟩ := decode_high s k hlt (by omega)
        have no : ∀ r : Int, 128 ≤ r → plainR r = false := fun r hr => by
          unfold plainR letter digit
          have a1 : ¬ r ≤ 90 := by omega
          have a2 : ¬ r ≤ 122 := by omega
          have a3 : ¬ r ≤ 57 := by omega
          have a4 : ¬ r = 95 := by omega
          have a5 : ¬ r = 45 := by omega
          have a6 : ¬ r = 43 := by omega
          have a7 : ¬ r = 46 := by omega
          have a8 : ¬ r = 47 := by omega
          have a9 : ¬ r = 58 := by omega
          simp [a1, a2, a3, a4, a5, a6, a7, a8, a9]
        rw [no _ (by omega), no _ (by omega)]
        rfl
    · have e1 : Nat.blt k s.size = false := by rw [bltD]; simpa using hlt
      have hd : (bs s).drop k = [] := List.drop_of_length_le (by rw [bs_len]; omega)
      simp only [e1, cond_false]
      rw [hd]
      rfl
theorem c13 (s : ByteArray) : CX Tryz.prog 139 [vS s] [] (vB (plainS s)) [] := by
  refine cx_of ok13 Tryz.func139 b13 rfl ((ev13 s (s.size + 1)).trans ?_)
  exact lp13 s (s.size + 1) (s.size + 1) 0 (by omega) (by omega)
end Go.Proofs.YtngoglhlhlfknaaGreat.wd
namespace Go.Proofs.YtngoglhlhlfknaaGreat.ck
open Go.RowKit Go.Eb
set_option maxRecDepth 100000
open Go.Proofs.YtngoglhlhlfknaaGreat.wd (letter digit plainR plainS)
abbrev aWd (w : Wd) : AV := .agg ((wcells w).map .d)
def decWd : List AV → Option Wd
  | [.agg [.d (.v (.string s)), .d (.v (.bool q))]] => some ⟨s, q⟩
  | _ => none
def sB : Nat := 9223372036854775807
noncomputable def o49 : Orc := Orc.cons 144 (ansP dec32 fun r => vB (letter r)) Orc.nil
theorem ev49 (w : Wd) : callC Tryz.prog o49 na 1 Tryz.f137 (bodyOf Tryz.f137) [aWd w] [] =
 (bif !Wd.q w then (bif !ByteArray.toList (Wd.text w) == ByteArray.toList (⟨#[]⟩) then (bif decide ((0 : Int) ≤ (0 : Int)) && decide ((0 : Int) < (↑(ByteArray.size
 (Wd.text w)) : Int)) then some (T.leaf (AV.c (.d (.v (.bool (letter (IntKind.wrap IntKind.i32 (↑(UInt8.toNat (List.getD (Array.toList (ByteArray.data (Wd.text w))) (Int.toNat
 (0 : Int)) 0)) : Int)))))), [])) else none) else some (T.leaf (AV.c (.d (.v (.bool false))), []))) else some (T.leaf (AV.c (.d (.v (.bool false))), []))) := by kernel_rfl
noncomputable def o55 : Orc := Orc.cons 134 (ansP dec8 fun r => vB (letter r)) Orc.nil
theorem ev55 (w : Wd) : callC Tryz.prog o55 na 1 Tryz.f97 (bodyOf Tryz.f97) [aWd w] [] =
 (bif !Wd.q w then (bif !ByteArray.toList (Wd.text w) == ByteArray.toList (⟨#[]⟩) then (bif decide ((0 : Int) ≤ (0 : Int)) && decide ((0 : Int) < (↑(ByteArray.size
 (Wd.text w)) : Int)) then some (T.leaf (AV.c (.d (.v (.bool (letter (↑(UInt8.toNat (List.getD (Array.toList (ByteArray.data (Wd.text w))) (Int.toNat (0 : Int)) 0))
 : Int))))), [])) else none) else some (T.leaf (AV.c (.d (.v (.bool false))), []))) else some (T.leaf (AV.c (.d (.v (.bool false))), []))) := by kernel_rfl
noncomputable def ann50 := annOf [(2, ⟨[0, 5, 6], []⟩)]
noncomputable def L50 (s : ByteArray) (g m : Nat) (i : Int) := loopK Tryz.prog Orc.nil ann50 0 g (sub [true, false, true, false, false] (bodyOf Tryz.f138)) m ⟨frm [(0, vS s), (5, vI s.size), (6, vI i)] 0 Tryz.f138.ntmps, [], 0⟩ (kAt Tryz.prog Orc.nil ann50 0 g [true, false, true, false] (bodyOf Tryz.f138) (kEnd Tryz.prog Tryz.f138 0))
theorem ev50 (s : ByteArray) (g : Nat) : callC Tryz.prog Orc.nil ann50 g Tryz.f138 (bodyOf Tryz.f138) [vS s] [] =
 L50 s g g ((0 : Int)) := by kernel_rfl
theorem st50 (s : ByteArray) (g m : Nat) (i : Int) : L50 s g (m + 1) i =
 (bif decide (i < (↑(ByteArray.size s) : Int)) then (bif decide ((0 : Int) ≤ i) && decide (i < (↑(ByteArray.size s) : Int)) then (bif decide ((↑(UInt8.toNat (List.getD (Array.toList
 (ByteArray.data s)) (Int.toNat i) 0)) : Int) < (32 : Int)) then some (T.leaf (AV.c (.d (.v (.bool false))), [])) else (bif decide ((0 : Int) ≤ i) && decide (i <
 (↑(ByteArray.size s) : Int)) then (bif decide ((↑(UInt8.toNat (List.getD (Array.toList (ByteArray.data s)) (Int.toNat i) 0)) : Int) > (126 : Int)) then some (T.leaf (AV.c
 (C.d (.v (.bool false))), [])) else (bif decide ((0 : Int) ≤ i) && decide (i < (↑(ByteArray.size s) : Int)) then (bif (↑(UInt8.toNat (List.getD (Array.toList (ByteArray.data
 s)) (Int.toNat i) 0)) : Int) == (34 : Int) then some (T.leaf (AV.c (.d (.v (.bool false))), [])) else L50 s g m (IntKind.wrap .i64 (i + (1 : Int)))) else
 none)) else none)) else none) else some (T.leaf (AV.c (.d (.v (.bool true))), []))) := by kernel_rfl
noncomputable def o37 (op : Wd → Bool) (qu : ByteArray → Bool) : Orc := Orc.cons 137 (ansP decWd fun w => vB (op w)) (Orc.cons 138 (ansC decS (fun s => decide (s.size ≤ sB)) fun s => vB (qu s)) (Orc.cons 139 (ansP decS fun s => vB (plainS s)) Orc.nil))
noncomputable def ann37 := annOf [(6, ⟨[1, 22, 23, 24], []⟩)]
noncomputable def L37 (op : Wd → Bool) (qu : ByteArray → Bool) (x : It) (g m : Nat) (i : Int) := loopK Tryz.prog (o37 op qu) ann37 0 g (sub [true, true, true, false, true, false, false] (bodyOf Tryz.f107)) m ⟨frm [(1, .c (.ptr 0 0)), (22, aW x.words), (23, vI x.words.length), (24, vI i)] 0 Tryz.f107.ntmps, [(0, .cells ((icells x).map .d) 79)], 1⟩ (kAt Tryz.prog (o37 op qu) ann37 0 g [true, true, true, false, true, false] (bodyOf Tryz.f107) (kEnd Tryz.prog Tryz.f107 0))
theorem ev37 (op : Wd → Bool) (qu : ByteArray → Bool) (x : It) (g : Nat) : callC Tryz.prog (o37 op qu) ann37 g Tryz.f107 (bodyOf Tryz.f107) [aT x] [] =
 (bif (↑(List.length (It.words x)) : Int) == (0 : Int) then some (T.leaf (AV.c (.d (.v (.int .i64 (6 : Int)))), [])) else (bif decide ((0 : Int) ≤ (0 : Int)) && decide
 ((0 : Int) < (↑(List.length (It.words x)) : Int)) then (bif !op (Wd.mk (Wd.text (List.getD (It.words x) (Int.toNat (0 : Int)) w0)) (Wd.q (List.getD (It.words x) (Int.toNat (0 :
 Int)) w0))) then some (T.leaf (AV.c (.d (.v (.int .i64 (6 : Int)))), [])) else (bif decide ((↑(List.length (It.words x)) : Int) > (40 : Int)) then some (T.leaf (AV.c
 (C.d (.v (.int .i64 (3 : Int)))), [])) else L37 op qu x g g ((0 : Int)))) else none)) := by kernel_rfl
theorem st37 (op : Wd → Bool) (qu : ByteArray → Bool) (x : It) (g m : Nat) (i : Int) : L37 op qu x g (m + 1) i =
 (bif decide (i < (↑(List.length (It.words x)) : Int)) then (bif decide ((0 : Int) ≤ i) && decide (i < (↑(List.length (It.words x)) : Int)) then (bif decide ((↑(ByteArray.size
 (Wd.text (List.getD (It.words x) (Int.toNat i) w0))) : Int) > (120 : Int)) then some (T.leaf (AV.c (.d (.v (.int .i64 (4 : Int)))), [])) else (bif Wd.q (List.getD
 (It.words x) (Int.toNat i) w0) then (bif decide (ByteArray.size (Wd.text (List.getD (It.words x) (Int.toNat i) w0)) ≤ sB) then (bif !qu (Wd.text (List.getD (It.words x) (Int.toNat
 i) w0)) then some (T.leaf (AV.c (.d (.v (.int .i64 (5 : Int)))), [])) else (bif !Wd.q (List.getD (It.words x) (Int.toNat i) w0) then (bif !plainS (Wd.text (List.getD
 (It.words x) (Int.toNat i) w0)) then some (T.leaf (AV.c (.d (.v (.int .i64 (6 : Int)))), [])) else L37 op qu x g m (IntKind.wrap .i64 (i + (1 : Int)))) else L37
 op qu x g m (IntKind.wrap .i64 (i + (1 : Int))))) else none) else (bif !Wd.q (List.getD (It.words x) (Int.toNat i) w0) then (bif !plainS (Wd.text (List.getD (It.words x)
 (Int.toNat i) w0)) then some (T.leaf (AV.c (.d (.v (.int .i64 (6 : Int)))), [])) else L37 op qu x g m (IntKind.wrap .i64 (i + (1 : Int)))) else L37 op qu x g m
 (IntKind.wrap .i64 (i + (1 : Int)))))) else none) else (bif !It.block x then (bif decide ((↑(List.length (It.kids x)) : Int) > (0 : Int)) then some (T.leaf (AV.c (C.d (D.v
 (Value.int IntKind.i64 (12 : Int)))), [])) else some (T.leaf (AV.c (.d (.v (.int .i64 (0 : Int)))), []))) else some (T.leaf (AV.c (.d (.v (.int .i64 (0 :
 Int)))), [])))) := by kernel_rfl
noncomputable def o56 : Orc := Orc.cons 136 (ansC decS (fun s => decide (s.size ≤ sB)) fun s => vB (plainS s)) Orc.nil
noncomputable def ann56 := annOf [(8, ⟨[1, 3], []⟩)]
noncomputable def L56 (w : Wd) (g m : Nat) (i : Int) := loopK Tryz.prog o56 ann56 0 g (sub [true, true, true, false, true, false, false] (bodyOf Tryz.f99)) m ⟨frm [(1, .c (.ptr 0 0)), (3, vI i)] 0 Tryz.f99.ntmps, [(0, .cells ((wcells w).map .d) 86)], 1⟩ (kAt Tryz.prog o56 ann56 0 g [true, true, true, false, true, false] (bodyOf Tryz.f99) (kEnd Tryz.prog Tryz.f99 0))
theorem ev56 (w : Wd) (g : Nat) : callC Tryz.prog o56 ann56 g Tryz.f99 (bodyOf Tryz.f99) [aWd w] [] =
 (bif decide ((↑(ByteArray.size (Wd.text w)) : Int) > (120 : Int)) then some (T.leaf (AV.c (.d (.v (.int .i64 (4 : Int)))), [])) else (bif !Wd.q w then (bif decide
 (ByteArray.size (Wd.text w) ≤ sB) then (bif !plainS (Wd.text w) then some (T.leaf (AV.c (.d (.v (.int .i64 (6 : Int)))), [])) else some (T.leaf (AV.c (C.d (D.v
 (Value.int IntKind.i64 (0 : Int)))), []))) else none) else L56 w g g ((0 : Int)))) := by kernel_rfl
theorem st56 (w : Wd) (g m : Nat) (i : Int) : L56 w g (m + 1) i =
 (bif decide (i < (↑(ByteArray.size (Wd.text w)) : Int)) then (bif decide ((0 : Int) ≤ i) && decide (i < (↑(ByteArray.size (Wd.text w)) : Int)) then (bif decide ((↑(UInt8.toNat
 (List.getD (Array.toList (ByteArray.data (Wd.text w))) (Int.toNat i) 0)) : Int) < (32 : Int)) then some (T.leaf (AV.c (.d (.v (.int .i64 (5 : Int)))), []))
 else (bif decide ((0 : Int) ≤ i) && decide (i < (↑(ByteArray.size (Wd.text w)) : Int)) then (bif decide ((↑(UInt8.toNat (List.getD (Array.toList (ByteArray.data (Wd.text w)))
 (Int.toNat i) 0)) : Int) > (126 : Int)) then some (T.leaf (AV.c (.d (.v (.int .i64 (5 : Int)))), [])) else (bif decide ((0 : Int) ≤ i) && decide (i <
 (↑(ByteArray.size (Wd.text w)) : Int)) then (bif (↑(UInt8.toNat (List.getD (Array.toList (ByteArray.data (Wd.text w))) (Int.toNat i) 0)) : Int) == (34 : Int) then some
 (T.leaf (AV.c (.d (.v (.int .i64 (5 : Int)))), [])) else L56 w g m (IntKind.wrap .i64 (i + (1 : Int)))) else none)) else none)) else none) else some (T.leaf
 (AV.c (.d (.v (.int .i64 (0 : Int)))), []))) := by kernel_rfl
noncomputable def o51 (op : Wd → Bool) (cw : Wd → Int) : Orc := Orc.cons 97 (ansP decWd fun w => vB (op w)) (Orc.cons 99 (ansC decWd (fun w => decide (w.text.size ≤ sB)) fun w => vI (cw w)) Orc.nil)
noncomputable def ann51 := annOf [(6, ⟨[1, 3], []⟩)]
noncomputable def L51 (op : Wd → Bool) (cw : Wd → Int) (x : It) (g m : Nat) (i : Int) := loopK Tryz.prog (o51 op cw) ann51 0 g (sub [true, true, true, false, true, false, false] (bodyOf Tryz.f49)) m ⟨frm [(1, .c (.ptr 0 0)), (3, vI i)] 0 Tryz.f49.ntmps, [(0, .cells ((icells x).map .d) 79)], 1⟩ (kAt Tryz.prog (o51 op cw) ann51 0 g [true, true, true, false, true, false] (bodyOf Tryz.f49) (kEnd Tryz.prog Tryz.f49 0))
theorem ev51 (op : Wd → Bool) (cw : Wd → Int) (x : It) (g : Nat) : callC Tryz.prog (o51 op cw) ann51 g Tryz.f49 (bodyOf Tryz.f49) [aT x] [] =
 (bif (↑(List.length (It.words x)) : Int) == (0 : Int) then some (T.leaf (AV.c (.d (.v (.int .i64 (6 : Int)))), [])) else (bif decide ((0 : Int) ≤ (0 : Int)) && decide
 ((0 : Int) < (↑(List.length (It.words x)) : Int)) then (bif !op (Wd.mk (Wd.text (List.getD (It.words x) (Int.toNat (0 : Int)) w0)) (Wd.q (List.getD (It.words x) (Int.toNat (0 :
 Int)) w0))) then some (T.leaf (AV.c (.d (.v (.int .i64 (6 : Int)))), [])) else (bif decide ((↑(List.length (It.words x)) : Int) > (40 : Int)) then some (T.leaf (AV.c
 (C.d (.v (.int .i64 (3 : Int)))), [])) else L51 op cw x g g ((0 : Int)))) else none)) := by kernel_rfl
theorem st51 (op : Wd → Bool) (cw : Wd → Int) (x : It) (g m : Nat) (i : Int) : L51 op cw x g (m + 1) i =
 (bif decide (i < (↑(List.length (It.words x)) : Int)) then (bif decide ((0 : Int) ≤ i) && decide (i < (↑(List.length (It.words x)) : Int)) then (bif decide (ByteArray.size (Wd.text
 (List.getD (It.words x) (Int.toNat i) w0)) ≤ sB) then (bif cw (Wd.mk (Wd.text (List.getD (It.words x) (Int.toNat i) w0)) (Wd.q (List.getD (It.words x) (Int.toNat i) w0))) != (0 :
 Int) then some (T.leaf (AV.c (.d (.v (.int .i64 (cw (Wd.mk (Wd.text (List.getD (It.words x) (Int.toNat i) w0)) (Wd.q (List.getD (It.words x) (Int.toNat i) w0))))))),
 [])) else L51 op cw x g m (IntKind.wrap .i64 (i + (1 : Int)))) else none) else none) else (bif !It.block x then (bif decide ((↑(List.length (It.kids x)) : Int) > (0 : Int))
 then some (T.leaf (AV.c (.d (.v (.int .i64 (12 : Int)))), [])) else some (T.leaf (AV.c (.d (.v (.int .i64 (0 : Int)))), []))) else some (T.leaf (AV.c
 (C.d (.v (.int .i64 (0 : Int)))), [])))) := by kernel_rfl
noncomputable def ansT (g : Int → D → Bool → D → AV) : (R : Type) → List AV → Hp → (AV → Hp → Option (T R)) → Option (T R) := fun _ args H k => match H, args with
  | [], [.agg [.d (.v (.int .i64 n)), .d w, .d (.v (.bool b)), .d ks]] => bif okW w && okI ks && okWs (theW w) && okL (theI ks) then k (g n w b ks) [] else none
  | _, _ => none
abbrev H36 (n : Int) : Hp := [(0, .cells [.d (.v (.int .i64 n))] 3), (1, .cells [.fn 106 [] [.ptr 0 0, .ptr 1 0]] 159)]
def ans36 (c : D → Bool) (e : D → Int → Int → Int) (n' : D → Int → Int → Int) : (R : Type) → List AV → Hp → (AV → Hp → Option (T R)) → Option (T R) := fun _ args H k => match H, args with
  | [(0, .cells [.d (.v (.int .i64 n))] 3), (1, .cells [.fn 106 [] [.ptr 0 0, .ptr 1 0]] 159)], [.c (.d x), .c (.d (.v (.int .i64 d))), .c (.ptr 0 0), .c (.ptr 1 0)] => bif c x then k (vI (e x d n)) (H36 (n' x d n)) else none
  | _, _ => none
noncomputable def o36 (ci : Int → D → Bool → D → Int) (c : D → Bool) (e n' : D → Int → Int → Int) : Orc := Orc.cons 107 (ansT fun n w b ks => vI (ci n w b ks)) (Orc.cons 106 (ans36 c e n') Orc.nil)
noncomputable def ann36 := annOf [(2, ⟨[1, 2, 3, 11, 12, 13], []⟩)]
noncomputable def L36 (ci : Int → D → Bool → D → Int) (c : D → Bool) (e n' : D → Int → Int → Int) (l : List It) (d : Int) (g m : Nat) (n i : Int) := loopK Tryz.prog (o36 ci c e n') ann36 2 g (sub [true, false, true, false, false] (bodyOf Tryz.f106)) m ⟨frm [(1, vI d), (2, .c (.ptr 0 0)), (3, .c (.ptr 1 0)), (11, aI l), (12, vI l.length), (13, vI i)] 0 Tryz.f106.ntmps, H36 n, 2⟩ (kAt Tryz.prog (o36 ci c e n') ann36 2 g [true, false, true, false] (bodyOf Tryz.f106) (kEnd Tryz.prog Tryz.f106 2))
theorem ev36 (ci : Int → D → Bool → D → Int) (c : D → Bool) (e n' : D → Int → Int → Int) (l : List It) (d : Int) (g : Nat) (n : Int) : callC Tryz.prog (o36 ci c e n') ann36 g Tryz.f106 (bodyOf Tryz.f106) [aI l, vI d, .c (.ptr 0 0), .c (.ptr 1 0)] (H36 n) =
 L36 ci c e n' l d g g n ((0 : Int)) := by kernel_rfl
theorem st36 (ci : Int → D → Bool → D → Int) (c : D → Bool) (e n' : D → Int → Int → Int) (l : List It) (d : Int) (g m : Nat) (n i : Int) : L36 ci c e n' l d g (m + 1) n i =
 (bif decide (i < (↑(List.length l) : Int)) then (bif decide ((0 : Int) ≤ i) && decide (i < (↑(List.length l) : Int)) then (bif decide (IntKind.wrap .i64 (n + (1 : Int)) >
 (600 : Int)) then some (T.leaf (AV.c (.d (.v (.int .i64 (3 : Int)))), [(0, Blk.cells [C.d (.v (.int .i64 (IntKind.wrap .i64 (n + (1 :
 Int)))))] (3)), (1, Blk.cells [C.fn (106) [] [Rf.ptr (0) (0), Rf.ptr (1) (0)]] (159))])) else (bif decide (d > (4 :
 Int)) then some (T.leaf (AV.c (.d (.v (.int .i64 (17 : Int)))), [(0, Blk.cells [C.d (.v (.int .i64 (IntKind.wrap .i64 (n + (1 : Int)))))]
 (3)), (1, Blk.cells [C.fn (106) [] [Rf.ptr (0) (0), Rf.ptr (1) (0)]] (159))])) else (bif okW (wordsD (It.words
 (List.getD l (Int.toNat i) i0))) && okI (kidsD (List.getD l (Int.toNat i) i0)) && okWs (theW (wordsD (It.words (List.getD l (Int.toNat i) i0)))) && okL (theI (kidsD (List.getD l
 (Int.toNat i) i0))) then (bif ci (It.line (List.getD l (Int.toNat i) i0)) (wordsD (It.words (List.getD l (Int.toNat i) i0))) (It.block (List.getD l (Int.toNat i) i0)) (kidsD
 (List.getD l (Int.toNat i) i0)) != (0 : Int) then some (T.leaf (AV.c (.d (.v (.int .i64 (ci (It.line (List.getD l (Int.toNat i) i0)) (wordsD (It.words (List.getD l
 (Int.toNat i) i0))) (It.block (List.getD l (Int.toNat i) i0)) (kidsD (List.getD l (Int.toNat i) i0)))))), [(0, Blk.cells [C.d (.v (.int .i64 (IntKind.wrap
 IntKind.i64 (n + (1 : Int)))))] (3)), (1, Blk.cells [C.fn (106) [] [Rf.ptr (0) (0), Rf.ptr (1) (0)]] (159))])) else
 (bif c (kidsD (List.getD l (Int.toNat i) i0)) then (bif e (kidsD (List.getD l (Int.toNat i) i0)) (IntKind.wrap .i64 (d + (1 : Int))) (IntKind.wrap .i64 (n + (1 :
 Int))) != (0 : Int) then some (T.leaf (AV.c (.d (.v (.int .i64 (e (kidsD (List.getD l (Int.toNat i) i0)) (IntKind.wrap .i64 (d + (1 : Int))) (IntKind.wrap
 IntKind.i64 (n + (1 : Int))))))), [(0, Blk.cells [C.d (.v (.int .i64 (n' (kidsD (List.getD l (Int.toNat i) i0)) (IntKind.wrap .i64 (d + (1 : Int)))
 (IntKind.wrap .i64 (n + (1 : Int))))))] (3)), (1, Blk.cells [C.fn (106) [] [Rf.ptr (0) (0), Rf.ptr (1) (0)]] ((159 :
 Nat)))])) else L36 ci c e n' l d g m (n' (kidsD (List.getD l (Int.toNat i) i0)) (IntKind.wrap .i64 (d + (1 : Int))) (IntKind.wrap .i64 (n + (1 : Int)))) (IntKind.wrap
 IntKind.i64 (i + (1 : Int)))) else none)) else none))) else none) else some (T.leaf (AV.c (.d (.v (.int .i64 (0 : Int)))), [(0, Blk.cells [C.d (D.v (Value.int
 IntKind.i64 n))] (3)), (1, Blk.cells [C.fn (106) [] [Rf.ptr (0) (0), Rf.ptr (1) (0)]] (159))]))) := by kernel_rfl
noncomputable def o16 (c : D → Bool) (e n' : D → Int → Int → Int) : Orc := Orc.cons 106 (ans36 c e n') Orc.nil
theorem ev16 (c : D → Bool) (e n' : D → Int → Int → Int) (l : List It) : callC Tryz.prog (o16 c e n') na 1 Tryz.f62 (bodyOf Tryz.f62) [aI l] [] =
 (bif c (itemsD l) then some (T.leaf (AV.c (.d (.v (.int .i64 (e (itemsD l) (0 : Int) (0 : Int))))), [])) else none) := by kernel_rfl
noncomputable def o38 (ci : Int → D → Bool → D → Int) (c : D → Bool) (e n' : D → Int → Int → Int) : Orc := Orc.cons 49 (ansT fun n w b ks => vI (ci n w b ks)) (Orc.cons 25 (fun _ args H k => match H, args with | [], [.c (.d x), .c (.d (.v (.int .i64 d))), .c (.d (.v (.int .i64 n)))] => bif c x then k (.tup [pI (n' x d n), pI (e x d n)]) [] else none | _, _ => none) Orc.nil)
noncomputable def ann38 := annOf [(2, ⟨[0, 1, 2, 8], []⟩)]
noncomputable def L38 (ci : Int → D → Bool → D → Int) (c : D → Bool) (e n' : D → Int → Int → Int) (l : List It) (d : Int) (g m : Nat) (n i : Int) := loopK Tryz.prog (o38 ci c e n') ann38 0 g (sub [true, false, true, false, false] (bodyOf Tryz.f25)) m ⟨frm [(0, aI l), (1, vI d), (2, vI n), (8, vI i)] 0 Tryz.f25.ntmps, [], 0⟩ (kAt Tryz.prog (o38 ci c e n') ann38 0 g [true, false, true, false] (bodyOf Tryz.f25) (kEnd Tryz.prog Tryz.f25 0))
theorem ev38 (ci : Int → D → Bool → D → Int) (c : D → Bool) (e n' : D → Int → Int → Int) (l : List It) (d : Int) (g : Nat) (n : Int) : callC Tryz.prog (o38 ci c e n') ann38 g Tryz.f25 (bodyOf Tryz.f25) [aI l, vI d, vI n] [] =
 L38 ci c e n' l d g g n ((0 : Int)) := by kernel_rfl
theorem st38 (ci : Int → D → Bool → D → Int) (c : D → Bool) (e n' : D → Int → Int → Int) (l : List It) (d : Int) (g m : Nat) (n i : Int) : L38 ci c e n' l d g (m + 1) n i =
 (bif decide (i < (↑(List.length l) : Int)) then (bif decide (n ≥ (600 : Int)) then some (T.leaf (AV.tup [(false, [C.d (.v (.int .i64 n))]), (false, [C.d (D.v (Value.int
 IntKind.i64 (3 : Int)))])], [])) else (bif decide (d > (4 : Int)) then some (T.leaf (AV.tup [(false, [C.d (.v (.int .i64 n))]), (false, [C.d (D.v (Value.int IntKind.i64
 (17 : Int)))])], [])) else (bif decide ((0 : Int) ≤ i) && decide (i < (↑(List.length l) : Int)) then (bif okW (wordsD (It.words (List.getD l (Int.toNat i) i0))) && okI (kidsD
 (List.getD l (Int.toNat i) i0)) && okWs (theW (wordsD (It.words (List.getD l (Int.toNat i) i0)))) && okL (theI (kidsD (List.getD l (Int.toNat i) i0))) then (bif ci (It.line
 (List.getD l (Int.toNat i) i0)) (wordsD (It.words (List.getD l (Int.toNat i) i0))) (It.block (List.getD l (Int.toNat i) i0)) (kidsD (List.getD l (Int.toNat i) i0)) != (0 : Int) then
 some (T.leaf (AV.tup [(false, [C.d (.v (.int .i64 (IntKind.wrap .i64 (n + (1 : Int)))))]), (false, [C.d (.v (.int .i64 (ci (It.line (List.getD l
 (Int.toNat i) i0)) (wordsD (It.words (List.getD l (Int.toNat i) i0))) (It.block (List.getD l (Int.toNat i) i0)) (kidsD (List.getD l (Int.toNat i) i0)))))])], [])) else (bif decide
 ((0 : Int) ≤ i) && decide (i < (↑(List.length l) : Int)) then (bif c (kidsD (List.getD l (Int.toNat i) i0)) then (bif e (kidsD (List.getD l (Int.toNat i) i0)) (IntKind.wrap
 IntKind.i64 (d + (1 : Int))) (IntKind.wrap .i64 (n + (1 : Int))) != (0 : Int) then some (T.leaf (AV.tup [(false, [C.d (.v (.int .i64 (n' (kidsD (List.getD l
 (Int.toNat i) i0)) (IntKind.wrap .i64 (d + (1 : Int))) (IntKind.wrap .i64 (n + (1 : Int))))))]), (false, [C.d (.v (.int .i64 (e (kidsD (List.getD l
 (Int.toNat i) i0)) (IntKind.wrap .i64 (d + (1 : Int))) (IntKind.wrap .i64 (n + (1 : Int))))))])], [])) else L38 ci c e n' l d g m (n' (kidsD (List.getD l (Int.toNat i)
 i0)) (IntKind.wrap .i64 (d + (1 : Int))) (IntKind.wrap .i64 (n + (1 : Int)))) (IntKind.wrap .i64 (i + (1 : Int)))) else none) else none)) else none) else
 none))) else some (T.leaf (AV.tup [(false, [C.d (.v (.int .i64 n))]), (false, [C.d (.v (.int .i64 (0 : Int)))])], []))) := by kernel_rfl
noncomputable def o18 (c : D → Bool) (e n' : D → Int → Int → Int) : Orc := Orc.cons 25 (fun _ args H k => match H, args with | [], [.c (.d x), .c (.d (.v (.int .i64 d))), .c (.d (.v (.int .i64 n)))] => bif c x then k (.tup [pI (n' x d n), pI (e x d n)]) [] else none | _, _ => none) Orc.nil
theorem ev18 (c : D → Bool) (e n' : D → Int → Int → Int) (l : List It) : callC Tryz.prog (o18 c e n') na 1 Tryz.f11 (bodyOf Tryz.f11) [aI l] [] =
 (bif c (itemsD l) then some (T.leaf (AV.c (.d (.v (.int .i64 (e (itemsD l) (0 : Int) (0 : Int))))), [])) else none) := by kernel_rfl
noncomputable def o17 (N : Nat) (dp : List It → Int → Bool) : Orc := Orc.cons 10 (fun _ args H k => match H, args with | [], [.c (.d x), .c (.d (.v (.int .i64 n)))] => bif okI x && okL (theI x) && decide (dep (theI x) < N) then k (vB (dp (theI x) n)) [] else none | _, _ => none) Orc.nil
noncomputable def ann17 := annOf [(2, ⟨[0, 1, 5], []⟩)]
noncomputable def L17 (N : Nat) (dp : List It → Int → Bool) (l : List It) (n : Int) (g m : Nat) (i : Int) := loopK Tryz.prog (o17 N dp) ann17 0 g (sub [true, false, true, false, false] (bodyOf Tryz.f10)) m ⟨frm [(0, aI l), (1, vI n), (5, vI i)] 0 Tryz.f10.ntmps, [], 0⟩ (kAt Tryz.prog (o17 N dp) ann17 0 g [true, false, true, false] (bodyOf Tryz.f10) (kEnd Tryz.prog Tryz.f10 0))
theorem ev17 (N : Nat) (dp : List It → Int → Bool) (l : List It) (n : Int) (g : Nat) : callC Tryz.prog (o17 N dp) ann17 g Tryz.f10 (bodyOf Tryz.f10) [aI l, vI n] [] =
 L17 N dp l n g g ((0 : Int)) := by kernel_rfl
theorem st17 (N : Nat) (dp : List It → Int → Bool) (l : List It) (n : Int) (g m : Nat) (i : Int) : L17 N dp l n g (m + 1) i =
 (bif decide (i < (↑(List.length l) : Int)) then (bif decide (n < (0 : Int)) then some (T.leaf (AV.c (.d (.v (.bool true))), [])) else (bif decide ((0 : Int) ≤ i) && decide (i
 < (↑(List.length l) : Int)) then (bif okI (kidsD (List.getD l (Int.toNat i) i0)) && okL (theI (kidsD (List.getD l (Int.toNat i) i0))) && decide (dep (theI (kidsD (List.getD l
 (Int.toNat i) i0))) < N) then (bif dp (theI (kidsD (List.getD l (Int.toNat i) i0))) (IntKind.wrap .i64 (n - (1 : Int))) then some (T.leaf (AV.c (.d (.v (.bool true))),
 [])) else L17 N dp l n g m (IntKind.wrap .i64 (i + (1 : Int)))) else none) else none)) else some (T.leaf (AV.c (.d (.v (.bool false))), []))) := by kernel_rfl
end Go.Proofs.YtngoglhlhlfknaaGreat.ck
namespace Go.Proofs.YtngoglhlhlfknaaGreat.wd
open Go.RowKit Go.Eb
abbrev rN (x : Int × Bool) : AV := .tup [pI x.1, pB x.2]
def val : List UInt8 → Int → Int
  | [], n => n
  | c :: r, n => val r (10 * n + (c.toNat - 48))
def digs (l : List UInt8) : Bool := l.all fun c => digit c.toNat
def fin (d : ByteArray) (mi : Bool) (n : Int) : Int × Bool :=
  bif d.toList == (ByteArray.mk #[]).toList then (0, false)
  else bif ((bs d).getD 0 0).toNat == 48 then (bif decide (d.size > 1) then (0, false) else bif mi then (0, false) else (n, true))
  else bif mi then (0 - n, true) else (n, true)
def res (d : ByteArray) (mi : Bool) : Int × Bool := bif digs (bs d) && decide (d.size ≤ 7) then fin d mi (val (bs d) 0) else (0, false)
def numS (s : ByteArray) : Int × Bool := res (cutP s (ByteArray.mk #[45])).1 (cutP s (ByteArray.mk #[45])).2
theorem c53 (a : ByteArray × ByteArray) : CX Tryz.prog 148 [vS a.1, vS a.2] [] (vB (hasP a.1 a.2)) [] := by
  refine cx_of (Orc.nil_ok _) Tryz.func148 b53 rfl ((ev53 a.1 a.2).trans ?_)
  unfold hasP
  by_cases h : a.2.size ≤ a.1.size
  · have e : (a.2.size : Int) ≤ (a.1.size : Int) := by omega
    simp [h, e]
  · have e : ¬ (a.2.size : Int) ≤ (a.1.size : Int) := by omega
    simp [h, e]
theorem ok45 : OrcOk Tryz.prog o45 := Orc.cons_ok (Orc.nil_ok _) (ansP_ok decSS_ok c53)
theorem hasP_le {s p : ByteArray} (h : hasP s p = true) : p.size ≤ s.size := by unfold hasP at h; simp at h; exact h.1
theorem c45 (a : ByteArray × ByteArray) : CX Tryz.prog 146 [vS a.1, vS a.2] [] (.tup [pS (cutP a.1 a.2).1, pB (cutP a.1 a.2).2]) [] := by
  refine cx_of ok45 Tryz.func146 b45 rfl ((ev45 a.1 a.2).trans ?_)
  unfold cutP
  cases h : hasP a.1 a.2 with
  | false => simp
  | true =>
    have := hasP_le h
    have e : (a.2.size : Int) ≤ (a.1.size : Int) := by omega
    simp [e]
theorem ok27 : OrcOk Tryz.prog o27 := Orc.cons_ok (Orc.nil_ok _) (ansP_ok decSS_ok c45)
theorem c27 (a : ByteArray × ByteArray) : CX Tryz.prog 140 [vS a.1, vS a.2] [] (.tup [pS (cutP a.1 a.2).1, pB (cutP a.1 a.2).2]) [] :=
  cx_of ok27 Tryz.func140 b27 rfl (ev27 a.1 a.2)
theorem ok11 : OrcOk Tryz.prog o11 := Orc.cons_ok (Orc.nil_ok _) (ansP_ok decSS_ok c27)
theorem digit_bd {c : Int} (h : digit c = true) : 48 ≤ c ∧ c ≤ 57 := by unfold digit at h; simpa using h
theorem wrap32_id {n : Int} (h0 : 0 ≤ n) (h1 : n ≤ 1000) : IntKind.wrap IntKind.i32 n = n := by
  simp [IntKind.wrap, show IntKind.i32.bits = 32 from rfl]
  omega
def p10 : Nat → Int
  | 0 => 1
  | k + 1 => 10 * p10 k
theorem p10_le : ∀ k, k ≤ 7 → 1 ≤ p10 k ∧ p10 k ≤ 10000000
  | 0, _ => by simp [p10]
  | 1, _ => by simp [p10]
  | 2, _ => by simp [p10]
  | 3, _ => by simp [p10]
  | 4, _ => by simp [p10]
  | 5, _ => by simp [p10]
  | 6, _ => by simp [p10]
  | 7, _ => by simp [p10]
  | k + 8, h => by omega
theorem digs_drop (l : List UInt8) {k : Nat} (h : k < l.length) : digs (l.drop k) = (digit (l.getD k 0).toNat && digs (l.drop (k + 1))) := all_drop l _ h
theorem val_drop (l : List UInt8) {k : Nat} (h : k < l.length) (n : Int) : val (l.drop k) n = val (l.drop (k + 1)) (10 * n + ((l.getD k 0).toNat - 48)) := by
  rw [List.drop_eq_getElem_cons h]
  simp [val, List.getD, h]
theorem step_num {n c : Int} {k : Nat} (hk : k < 7) (h0 : 0 ≤ n) (h1 : n < p10 k) (hc : 48 ≤ c ∧ c ≤ 57) :
    IntKind.wrap IntKind.i64 (IntKind.wrap IntKind.i64 (10 * n) + IntKind.wrap IntKind.i64 (c - 48)) = 10 * n + (c - 48) ∧ 0 ≤ 10 * n + (c - 48) ∧ 10 * n + (c - 48) < p10 (k + 1) := by
  have := p10_le k (by omega)
  have := p10_le (k + 1) (by omega)
  refine ⟨?_, by omega, by simp only [p10]; omega⟩
  rw [wrap_id (n := 10 * n) (by omega) (by omega), wrap_id (n := c - 48) (by omega) (by omega), wrap_id (by omega) (by omega)]
theorem lp11 (d : ByteArray) (mi : Bool) (g : Nat) : ∀ (m k : Nat) (n : Int), k ≤ d.size → d.size - k < m → (d.size ≤ 7 ∨ k = 0) → 0 ≤ n → n < p10 k →
    L11 d mi g m n k = some (.leaf (rN (bif digs ((bs d).drop k) && (decide (d.size ≤ 7) || decide (d.size ≤ k)) then fin d mi (val ((bs d).drop k) n) else (0, false)), []))
  | 0, k, n, _, h, _, _, _ => by omega
  | m + 1, k, n, hk, h, h7, hn0, hn1 => by
    rw [st11]
    by_cases hlt : k < d.size
    · have hl : k < (bs d).length := by rw [bs_len]; exact hlt
      have e1 : Nat.blt k d.size = true := by rw [bltD]; simpa using hlt
      have ek : decide (d.size ≤ k) = false := by simpa using hlt
      have eb : (bs d).getD k 0 = d[k] := by
        have hl' : k < d.data.size := hlt
        simp only [bs, List.getD, Array.getElem?_toList, Array.getElem?_eq_getElem hl', Option.getD_some]
        rfl
      rw [digs_drop _ hl, val_drop _ hl, eb, e1, ek]
      simp only [cond_true, Bool.or_false]
      by_cases ha : d[k].toNat < 128
      · rw [decode_ascii d k hlt ha]
        simp only
        cases hdg : digit (d[k].toNat : Int) with
        | true =>
          have hbd := digit_bd hdg
          have f1 : decide ((d[k].toNat : Int) < 48) = false := by simp; omega
          have f2 : decide ((d[k].toNat : Int) > 57) = false := by simp; omega
          rw [f1, f2]
          simp only [cond_false]
          by_cases h8 : d.size ≤ 7
          · have f3 : decide ((d.size : Int) > 7) = false := by simp; omega
            have f4 : decide (d.size ≤ 7) = true := by simpa using h8
            rw [f3, f4]
            simp only [cond_false]
            obtain ⟨w1, w2, w3⟩ := step_num (k := k) (by omega) hn0 hn1 hbd
            rw [wrap32_id (by omega) (by omega), w1, lp11 d mi g m (k + 1) _ (by omega) (by omega) (.inl h8) w2 w3, f4]
            simp
          · have f3 : decide ((d.size : Int) > 7) = true := by simp; omega
            have f4 : decide (d.size ≤ 7) = false := by simpa using h8
            rw [f3, f4]
            simp
        | false =>
          have hno : ¬ (48 ≤ (d[k].toNat : Int) ∧ (d[k].toNat : Int) ≤ 57) := by unfold digit at hdg; simpa using hdg
          by_cases c1 : (d[k].toNat : Int) < 48
          · have f1 : decide ((d[k].toNat : Int) < 48) = true := by simpa using c1
            rw [f1]; rfl
          · have f1 : decide ((d[k].toNat : Int) < 48) = false := by simpa using c1
            have f2 : decide ((d[k].toNat : Int) > 57) = true := by simp; omega
            rw [f1, f2]; rfl
      · obtain ⟨h1, h2⟩ := decode_high d k hlt (by omega)
        have f1 : decide (((Utf8.decode d k).1 : Int) < 48) = false := by simp; omega
        have f2 : decide (((Utf8.decode d k).1 : Int) > 57) = true := by simp; omega
        have f3 : digit (d[k].toNat : Int) = false := by
          unfold digit
          have : ¬ (d[k].toNat : Int) ≤ 57 := by omega
          simp [this]
        rw [f1, f2, f3]
        rfl
    · have e1 : Nat.blt k d.size = false := by rw [bltD]; simpa using hlt
      have ek : decide (d.size ≤ k) = true := by simpa using Nat.le_of_not_lt hlt
      have hd : (bs d).drop k = [] := List.drop_of_length_le (by rw [bs_len]; omega)
      rw [hd, e1, ek]
      simp only [cond_false, digs, List.all_nil, Bool.or_true, Bool.and_self, cond_true, val]
      unfold fin
      cases hz : (d.toList == (ByteArray.mk #[]).toList) with
      | true => rfl
      | false =>
        have hpos : 0 < d.size := by
          rcases Nat.eq_zero_or_pos d.size with h0 | h0
          · exfalso
            have : d = ByteArray.mk #[] := by
              cases d with
              | mk a => congr 1; exact Array.eq_empty_of_size_eq_zero h0
            rw [this] at hz; simp at hz
          · exact h0
        have g1 : (decide ((0 : Int) ≤ 0) && decide ((0 : Int) < (d.size : Int))) = true := by simp; omega
        have hw : IntKind.wrap IntKind.i64 (0 - n) = 0 - n := by
          rcases h7 with h7 | h7
          · have := p10_le k (by omega); exact wrap_id (by omega) (by omega)
          · subst h7; simp [p10] at hn1; exact wrap_id (by omega) (by omega)
        have hs1 : decide ((d.size : Int) > 1) = decide (d.size > 1) := by rw [Bool.eq_iff_iff]; simp; omega
        have h48 : ((((bs d).getD (Int.toNat 0) 0).toNat : Int) == 48) = (((bs d).getD 0 0).toNat == 48) := by rw [Bool.eq_iff_iff]; simp; omega
        simp only [g1, cond_true, cond_false, hw, hs1]
        rw [h48]
        cases (((bs d).getD 0 0).toNat == 48) <;> cases decide (d.size > 1) <;> cases mi <;> rfl
theorem c11 (s : ByteArray) : CX Tryz.prog 109 [vS s] [] (rN (numS s)) [] := by
  refine cx_of ok11 Tryz.func109 b11 rfl ((ev11 s ((cutP s (ByteArray.mk #[45])).1.size + 1)).trans ?_)
  have := lp11 (cutP s (ByteArray.mk #[45])).1 (cutP s (ByteArray.mk #[45])).2 ((cutP s (ByteArray.mk #[45])).1.size + 1) ((cutP s (ByteArray.mk #[45])).1.size + 1) 0 0 (by omega) (by omega) (.inr rfl) (by omega) (by simp [p10])
  rw [this]
  unfold numS res
  have e : (decide ((cutP s (ByteArray.mk #[45])).1.size ≤ 7) || decide ((cutP s (ByteArray.mk #[45])).1.size ≤ 0)) = decide ((cutP s (ByteArray.mk #[45])).1.size ≤ 7) := by
    generalize (cutP s (ByteArray.mk #[45])).1.size = z
    by_cases h : z ≤ 7
    · simp [h]
    · have : ¬ z ≤ 0 := by omega
      simp [h, this]
  rw [e]
  rfl
end Go.Proofs.YtngoglhlhlfknaaGreat.wd
namespace Go.Proofs.YtngoglhlhlfknaaGreat.ck
open Go.RowKit Go.Eb
set_option maxRecDepth 100000
open Go.Proofs.YtngoglhlhlfknaaGreat.wd
theorem aT_ge {n : Int} {w ks : D} {b : Bool} (hw : okW w = true) (hk : okI ks = true) : Ale (.agg [.d (.v (.int .i64 n)), .d w, .d (.v (.bool b)), .d ks]) (aT (.mk n (theW w) b (theI ks))) :=
  Csle.cons (DE.refl _) (Csle.cons (theW_de hw) (Csle.cons (DE.refl _) (Csle.cons ((theI_de hk).trans (itemsD_de (.mk n (theW w) b (theI ks)))) Csle.nil)))
theorem drop_cons {α : Type} (l : List α) (d : α) {k : Nat} (h : k < l.length) : l.drop k = l.getD k d :: l.drop (k + 1) := drop_at' h
theorem b49 : Tryz.f137.body = some (bodyOf Tryz.f137) := by kernel_rfl
theorem b55 : Tryz.f97.body = some (bodyOf Tryz.f97) := by kernel_rfl
theorem b50 : Tryz.f138.body = some (bodyOf Tryz.f138) := by kernel_rfl
theorem b37 : Tryz.f107.body = some (bodyOf Tryz.f107) := by kernel_rfl
theorem b56 : Tryz.f99.body = some (bodyOf Tryz.f99) := by kernel_rfl
theorem b51 : Tryz.f49.body = some (bodyOf Tryz.f49) := by kernel_rfl
theorem b36 : Tryz.f106.body = some (bodyOf Tryz.f106) := by kernel_rfl
theorem b16 : Tryz.f62.body = some (bodyOf Tryz.f62) := by kernel_rfl
theorem b38 : Tryz.f25.body = some (bodyOf Tryz.f25) := by kernel_rfl
theorem b18 : Tryz.f11.body = some (bodyOf Tryz.f11) := by kernel_rfl
theorem b17 : Tryz.f10.body = some (bodyOf Tryz.f10) := by kernel_rfl
theorem decWd_ok (args : List AV) (w : Wd) (h : decWd args = some w) : args = [aWd w] := by
  unfold decWd at h
  split at h
  · cases h; rfl
  · simp at h
def opn (w : Wd) : Bool := !w.q && (!(w.text.toList == (ByteArray.mk #[]).toList) && letter ((bs w.text).getD 0 0).toNat)
theorem pos_of_ne {d : ByteArray} (hz : (d.toList == (ByteArray.mk #[]).toList) = false) : 0 < d.size := by
  rcases Nat.eq_zero_or_pos d.size with h0 | h0
  · exfalso
    have : d = ByteArray.mk #[] := by
      cases d with
      | mk a => congr 1; exact Array.eq_empty_of_size_eq_zero h0
    rw [this] at hz; simp at hz
  · exact h0
theorem byte_lt (c : UInt8) : (c.toNat : Int) ≤ 255 := by have := c.toNat_lt; omega
theorem c49 (w : Wd) : CX Tryz.prog 137 [aWd w] [] (vB (opn w)) [] := by
  have ho : OrcOk Tryz.prog o49 := Orc.cons_ok (Orc.nil_ok _) (ansP_ok dec32_ok c46)
  refine cx_of ho Tryz.func137 b49 rfl ((ev49 w).trans ?_)
  unfold opn
  cases hq : w.q with
  | true => rfl
  | false =>
    cases hz : (w.text.toList == (ByteArray.mk #[]).toList) with
    | true => rfl
    | false =>
      have hp := pos_of_ne hz
      have g1 : (decide ((0 : Int) ≤ 0) && decide ((0 : Int) < (w.text.size : Int))) = true := by simp; omega
      have hw : IntKind.wrap IntKind.i32 ((((bs w.text).getD (Int.toNat 0) 0).toNat : Nat) : Int) = (((bs w.text).getD (Int.toNat 0) 0).toNat : Int) := wrap32_id (by omega) (by have := byte_lt ((bs w.text).getD (Int.toNat 0) 0); omega)
      rw [g1]
      simp only [Bool.not_false, cond_true, Bool.true_and]
      rw [hw]
      rfl
theorem c55 (w : Wd) : CX Tryz.prog 97 [aWd w] [] (vB (opn w)) [] := by
  have ho : OrcOk Tryz.prog o55 := Orc.cons_ok (Orc.nil_ok _) (ansP_ok dec8_ok c47)
  refine cx_of ho Tryz.func97 b55 rfl ((ev55 w).trans ?_)
  unfold opn
  cases hq : w.q with
  | true => rfl
  | false =>
    cases hz : (w.text.toList == (ByteArray.mk #[]).toList) with
    | true => rfl
    | false =>
      have hp := pos_of_ne hz
      have g1 : (decide ((0 : Int) ≤ 0) && decide ((0 : Int) < (w.text.size : Int))) = true := by simp; omega
      rw [g1]
      rfl
def qch (c : UInt8) : Bool := !(decide ((c.toNat : Int) < 32)) && (!(decide ((c.toNat : Int) > 126)) && !((c.toNat : Int) == 34))
def quot (s : ByteArray) : Bool := (bs s).all qch
theorem lp50 (s : ByteArray) (g : Nat) (hs : s.size ≤ 9223372036854775807) : ∀ (m k : Nat), k ≤ s.size → s.size - k < m → L50 s g m k = some (.leaf (vB (((bs s).drop k).all qch), []))
  | 0, k, _, h => by omega
  | m + 1, k, hk, h => by
    rw [st50]
    by_cases hlt : k < s.size
    · have hl : k < (bs s).length := by rw [bs_len]; exact hlt
      rw [all_drop _ _ hl]
      simp only [lt1 hlt, ge0, tn, Bool.and_self, cond_true]
      rw [nx hlt hs, lp50 s g hs m (k + 1) (by omega) (by omega)]
      unfold qch
      cases decide ((((bs s).getD k 0).toNat : Int) < 32) <;> cases decide ((((bs s).getD k 0).toNat : Int) > 126) <;> cases ((((bs s).getD k 0).toNat : Int) == 34) <;> rfl
    · rw [lt0 hlt, List.drop_of_length_le (by rw [bs_len]; omega)]
      rfl
theorem c50 (s : ByteArray) (hs : s.size ≤ 9223372036854775807) : CX Tryz.prog 138 [vS s] [] (vB (quot s)) [] := by
  refine cx_of (Orc.nil_ok _) Tryz.func138 b50 rfl ((ev50 s (s.size + 1)).trans ?_)
  exact lp50 s (s.size + 1) hs (s.size + 1) 0 (by omega) (by omega)
def cwd (w : Wd) : Int := bif decide ((w.text.size : Int) > 120) then 4 else bif w.q then (bif quot w.text then 0 else 5) else (bif plainS w.text then 0 else 6)
def cws : List Wd → Int
  | [] => 0
  | w :: r => bif cwd w != 0 then cwd w else cws r
def ckItem (x : It) : Int :=
  bif (x.words.length : Int) == 0 then 6 else bif !opn (x.words.getD 0 w0) then 6 else bif decide ((x.words.length : Int) > 40) then 3 else
    bif cws x.words != 0 then cws x.words else bif !x.block then (bif decide ((x.kids.length : Int) > 0) then 12 else 0) else 0
def ckEnd (x : It) (e : Int) : Int := bif e != 0 then e else bif !x.block then (bif decide ((x.kids.length : Int) > 0) then 12 else 0) else 0
theorem ok37 : OrcOk Tryz.prog (o37 opn quot) := Orc.cons_ok (Orc.cons_ok (Orc.cons_ok (Orc.nil_ok _) (ansP_ok decS_ok c13)) (ansC_ok decS_ok fun s h => c50 s (by unfold sB at h; simpa using h))) (ansP_ok decWd_ok c49)
theorem wsz {l : List Wd} (h : okWs l = true) {k : Nat} (hk : k < l.length) : (l.getD k w0).text.size ≤ 9223372036854775807 := by
  unfold okWs at h
  simp only [Bool.and_eq_true, List.all_eq_true, decide_eq_true_eq] at h
  refine h.2 _ ?_
  simp [List.getD, hk]
theorem lp37 (x : It) (g : Nat) (hw : okWs x.words = true) : ∀ (m k : Nat), k ≤ x.words.length → x.words.length - k < m → L37 opn quot x g m k = some (.leaf (vI (ckEnd x (cws (x.words.drop k))), []))
  | 0, k, _, h => by omega
  | m + 1, k, hk, h => by
    rw [st37]
    by_cases hlt : k < x.words.length
    · have hsz : decide ((x.words.getD k w0).text.size ≤ sB) = true := decide_eq_true (wsz hw hlt)
      simp only [lt1 hlt, ge0, tn, Bool.and_self, cond_true, hsz]
      rw [nx hlt (okWs_len hw), lp37 x g hw m (k + 1) (by omega) (by omega), drop_cons x.words w0 hlt]
      simp only [cws, cwd]
      cases decide (((x.words.getD k w0).text.size : Int) > 120) <;> cases (x.words.getD k w0).q <;> cases quot (x.words.getD k w0).text <;> cases plainS (x.words.getD k w0).text <;> rfl
    · rw [lt0 hlt, List.drop_of_length_le (by omega)]
      unfold ckEnd cws
      cases x.block <;> cases decide ((x.kids.length : Int) > 0) <;> rfl
theorem c37 (x : It) (hw : okWs x.words = true) : CX Tryz.prog 107 [aT x] [] (vI (ckItem x)) [] := by
  refine cx_of ok37 Tryz.func107 b37 rfl ((ev37 opn quot x (x.words.length + 1)).trans ?_)
  have hl := lp37 x (x.words.length + 1) hw (x.words.length + 1) 0 (by omega) (by omega)
  have hl' : L37 opn quot x (x.words.length + 1) (x.words.length + 1) 0 = _ := hl
  rw [hl']
  unfold ckItem ckEnd
  cases h0 : ((x.words.length : Int) == 0) with
  | true => rfl
  | false =>
    have hne : x.words.length ≠ 0 := fun e => by rw [e] at h0; simp at h0
    have hp : (decide ((0 : Int) ≤ 0) && decide ((0 : Int) < (x.words.length : Int))) = true := by rw [decide_eq_true (show (0 : Int) < (x.words.length : Int) by omega)]; rfl
    rw [hp]
    simp only [cond_false, cond_true, List.drop_zero]
    show (bif !opn (x.words.getD 0 w0) then _ else _) = _
    cases opn (x.words.getD 0 w0) <;> cases decide ((x.words.length : Int) > 40) <;> cases (cws x.words != 0) <;> rfl
theorem ok56 : OrcOk Tryz.prog o56 := Orc.cons_ok (Orc.nil_ok _) (ansC_ok decS_ok fun s h => c14 s (by unfold sB at h; simpa using h))
theorem lp56 (w : Wd) (g : Nat) (hs : w.text.size ≤ 9223372036854775807) : ∀ (m k : Nat), k ≤ w.text.size → w.text.size - k < m → L56 w g m k = some (.leaf (vI (bif ((bs w.text).drop k).all qch then 0 else 5), []))
  | 0, k, _, h => by omega
  | m + 1, k, hk, h => by
    rw [st56]
    by_cases hlt : k < w.text.size
    · have hl : k < (bs w.text).length := by rw [bs_len]; exact hlt
      rw [all_drop _ _ hl]
      simp only [lt1 hlt, ge0, tn, Bool.and_self, cond_true]
      rw [nx hlt hs, lp56 w g hs m (k + 1) (by omega) (by omega)]
      unfold qch
      cases decide ((((bs w.text).getD k 0).toNat : Int) < 32) <;> cases decide ((((bs w.text).getD k 0).toNat : Int) > 126) <;> cases ((((bs w.text).getD k 0).toNat : Int) == 34) <;> rfl
    · rw [lt0 hlt, List.drop_of_length_le (by rw [bs_len]; omega)]
      rfl
theorem c56 (w : Wd) (hs : w.text.size ≤ 9223372036854775807) : CX Tryz.prog 99 [aWd w] [] (vI (cwd w)) [] := by
  refine cx_of ok56 Tryz.func99 b56 rfl ((ev56 w (w.text.size + 1)).trans ?_)
  have hl := lp56 w (w.text.size + 1) hs (w.text.size + 1) 0 (by omega) (by omega)
  have hl' : L56 w (w.text.size + 1) (w.text.size + 1) 0 = _ := hl
  have hsz : decide (w.text.size ≤ sB) = true := decide_eq_true hs
  rw [hl', hsz]
  unfold cwd quot
  simp only [List.drop_zero, cond_true]
  cases decide ((w.text.size : Int) > 120) <;> cases w.q <;> cases (bs w.text).all qch <;> cases plainS w.text <;> rfl
theorem ok51 : OrcOk Tryz.prog (o51 opn cwd) := Orc.cons_ok (Orc.cons_ok (Orc.nil_ok _) (ansC_ok decWd_ok fun w h => c56 w (by unfold sB at h; simpa using h))) (ansP_ok decWd_ok c55)
theorem lp51 (x : It) (g : Nat) (hw : okWs x.words = true) : ∀ (m k : Nat), k ≤ x.words.length → x.words.length - k < m → L51 opn cwd x g m k = some (.leaf (vI (ckEnd x (cws (x.words.drop k))), []))
  | 0, k, _, h => by omega
  | m + 1, k, hk, h => by
    rw [st51]
    by_cases hlt : k < x.words.length
    · have hsz : decide ((x.words.getD k w0).text.size ≤ sB) = true := decide_eq_true (wsz hw hlt)
      simp only [lt1 hlt, ge0, tn, Bool.and_self, cond_true, hsz]
      rw [nx hlt (okWs_len hw), lp51 x g hw m (k + 1) (by omega) (by omega), drop_cons x.words w0 hlt]
      show (bif cwd (x.words.getD k w0) != 0 then some (T.leaf (vI (cwd (x.words.getD k w0)), ([] : Hp))) else _) = _
      simp only [cws, ckEnd]
      cases hc : (cwd (x.words.getD k w0) != 0) with
      | true => simp only [cond_true, hc]
      | false => rfl
    · rw [lt0 hlt, List.drop_of_length_le (by omega)]
      unfold ckEnd cws
      cases x.block <;> cases decide ((x.kids.length : Int) > 0) <;> rfl
theorem c51 (x : It) (hw : okWs x.words = true) : CX Tryz.prog 49 [aT x] [] (vI (ckItem x)) [] := by
  refine cx_of ok51 Tryz.func49 b51 rfl ((ev51 opn cwd x (x.words.length + 1)).trans ?_)
  have hl := lp51 x (x.words.length + 1) hw (x.words.length + 1) 0 (by omega) (by omega)
  have hl' : L51 opn cwd x (x.words.length + 1) (x.words.length + 1) 0 = _ := hl
  rw [hl']
  unfold ckItem ckEnd
  cases h0 : ((x.words.length : Int) == 0) with
  | true => rfl
  | false =>
    have hne : x.words.length ≠ 0 := fun e => by rw [e] at h0; simp at h0
    have hp : (decide ((0 : Int) ≤ 0) && decide ((0 : Int) < (x.words.length : Int))) = true := by rw [decide_eq_true (show (0 : Int) < (x.words.length : Int) by omega)]; rfl
    rw [hp]
    simp only [cond_false, cond_true, List.drop_zero]
    show (bif !opn (x.words.getD 0 w0) then _ else _) = _
    cases opn (x.words.getD 0 w0) <;> cases decide ((x.words.length : Int) > 40) <;> cases (cws x.words != 0) <;> rfl
theorem ansT_ok {f : FuncId} {ci : It → Int} (hc : ∀ x, okWs x.words = true → CX Tryz.prog f [aT x] [] (vI (ci x)) []) : ∀ (R : Type) args H (k : AV → Hp → Option (T R)) t, ansT (fun n w b ks => vI (ci (.mk n (theW w) b (theI ks)))) R args H k = some t → ∃ x H', k x H' = some t ∧ CX Tryz.prog f args H x H' := fun R args H k t h => by
  unfold ansT at h
  split at h
  · rename_i n w b ks
    cases hx : (okW w && okI ks && okWs (theW w) && okL (theI ks)) with
    | false => rw [hx] at h; cases h
    | true =>
      rw [hx] at h
      simp only [Bool.and_eq_true] at hx
      obtain ⟨⟨⟨h1, h2⟩, h3⟩, h4⟩ := hx
      exact ⟨_, _, h, (hc (.mk n (theW w) b (theI ks)) h3).ge (.cons (aT_ge h1 h2) .nil) .nil⟩
  · simp at h
def chP : List It → Int → Int → Int × Int
  | [], _, n => (0, n)
  | .mk a w b k :: r, d, n =>
    bif decide (IntKind.wrap IntKind.i64 (n + 1) > 600) then (3, IntKind.wrap IntKind.i64 (n + 1)) else bif decide (d > 4) then (17, IntKind.wrap IntKind.i64 (n + 1)) else
      bif ckItem (.mk a w b k) != 0 then (ckItem (.mk a w b k), IntKind.wrap IntKind.i64 (n + 1)) else
        bif (chP k (IntKind.wrap IntKind.i64 (d + 1)) (IntKind.wrap IntKind.i64 (n + 1))).1 != 0 then chP k (IntKind.wrap IntKind.i64 (d + 1)) (IntKind.wrap IntKind.i64 (n + 1)) else
          chP r d (chP k (IntKind.wrap IntKind.i64 (d + 1)) (IntKind.wrap IntKind.i64 (n + 1))).2
theorem chP_cons (x : It) (r : List It) (d n : Int) : chP (x :: r) d n = bif decide (IntKind.wrap IntKind.i64 (n + 1) > 600) then (3, IntKind.wrap IntKind.i64 (n + 1)) else bif decide (d > 4) then (17, IntKind.wrap IntKind.i64 (n + 1)) else
      bif ckItem x != 0 then (ckItem x, IntKind.wrap IntKind.i64 (n + 1)) else
        bif (chP x.kids (IntKind.wrap IntKind.i64 (d + 1)) (IntKind.wrap IntKind.i64 (n + 1))).1 != 0 then chP x.kids (IntKind.wrap IntKind.i64 (d + 1)) (IntKind.wrap IntKind.i64 (n + 1)) else
          chP r d (chP x.kids (IntKind.wrap IntKind.i64 (d + 1)) (IntKind.wrap IntKind.i64 (n + 1))).2 := by cases x; simp only [chP, It.kids]
noncomputable def cc (N : Nat) (x : D) : Bool := okI x && okL (theI x) && decide (dep (theI x) < N)
noncomputable def ciP (n : Int) (w : D) (b : Bool) (ks : D) : Int := ckItem (.mk n (theW w) b (theI ks))
noncomputable def eP (x : D) (d n : Int) : Int := (chP (theI x) d n).1
noncomputable def nP (x : D) (d n : Int) : Int := (chP (theI x) d n).2
theorem lp36 (N : Nat) (l : List It) (d : Int) (g : Nat) (hN : dep l ≤ N) (hL : okL l = true) : ∀ (m k : Nat) (n : Int), k ≤ l.length → l.length - k < m →
    L36 ciP (cc N) eP nP l d g m n k = some (.leaf (vI (chP (l.drop k) d n).1, H36 (chP (l.drop k) d n).2))
  | 0, k, n, _, h => by omega
  | m + 1, k, n, hk, h => by
    rw [st36]
    by_cases hlt : k < l.length
    · have hd := dep_get l k hlt
      obtain ⟨ho, hw⟩ := okL_get hL hlt
      have hdd : decide (dep (l.getD k i0).kids < N) = true := decide_eq_true (by omega)
      simp only [lt1 hlt, ge0, tn, Bool.and_self, cond_true, cc, eP, nP, ciP, okW_words, theW_words, okI_kids, theI_kids, ho, hw, hdd]
      rw [nx hlt (okL_len hL), lp36 N l d g hN hL m (k + 1) _ (by omega) (by omega), drop_cons l i0 hlt, chP_cons]
      rw [← It.eta (l.getD k i0)]
      cases decide (IntKind.wrap IntKind.i64 (n + 1) > 600) with
      | true => rfl
      | false =>
        cases decide (d > 4) with
        | true => rfl
        | false =>
          cases hc : (ckItem (l.getD k i0) != 0) with
          | true => rfl
          | false =>
            cases he : ((chP (l.getD k i0).kids (IntKind.wrap IntKind.i64 (d + 1)) (IntKind.wrap IntKind.i64 (n + 1))).1 != 0) with
            | true => simp only [cond_false, cond_true]
            | false => rfl
    · rw [lt0 hlt, List.drop_of_length_le (by omega)]
      simp only [cond_false, chP]
theorem ans36_ok {N : Nat} (hc : ∀ (l : List It) (d n : Int), dep l < N → okL l = true → CX Tryz.prog 106 [aI l, vI d, .c (.ptr 0 0), .c (.ptr 1 0)] (H36 n) (vI (chP l d n).1) (H36 (chP l d n).2)) :
    ∀ (R : Type) args H (k : AV → Hp → Option (T R)) t, ans36 (cc N) eP nP R args H k = some t → ∃ x H', k x H' = some t ∧ CX Tryz.prog 106 args H x H' := fun R args H k t h => by
  unfold ans36 at h
  split at h
  · rename_i n x d
    cases hx : cc N x with
    | false => rw [hx] at h; cases h
    | true =>
      rw [hx] at h
      unfold cc at hx
      simp only [Bool.and_eq_true, decide_eq_true_eq] at hx
      exact ⟨_, _, h, (hc (theI x) d n hx.2 hx.1.2).ge (.cons (ale_d (theI_de hx.1.1)) (.refl _)) (.refl _)⟩
  · simp at h
theorem c36 : ∀ (N : Nat) (l : List It) (d n : Int), dep l < N → okL l = true → CX Tryz.prog 106 [aI l, vI d, .c (.ptr 0 0), .c (.ptr 1 0)] (H36 n) (vI (chP l d n).1) (H36 (chP l d n).2)
  | 0, l, d, n, h, _ => by omega
  | N + 1, l, d, n, h, hL => by
    have ho : OrcOk Tryz.prog (o36 ciP (cc N) eP nP) := Orc.cons_ok (Orc.cons_ok (Orc.nil_ok _) (ans36_ok (c36 N))) (ansT_ok c37)
    refine cx_of ho Tryz.func106 b36 rfl ((ev36 ciP (cc N) eP nP l d (l.length + 1) n).trans ?_)
    exact lp36 N l d (l.length + 1) (by omega) hL (l.length + 1) 0 n (by omega) (by omega)
def chk (l : List It) : Int := (chP l 0 0).1
theorem c16 (l : List It) (hL : okL l = true) : CX Tryz.prog 62 [aI l] [] (vI (chk l)) [] := by
  have ho : OrcOk Tryz.prog (o16 (cc (dep l + 1)) eP nP) := Orc.cons_ok (Orc.nil_ok _) (ans36_ok (c36 (dep l + 1)))
  refine cx_of ho Tryz.func62 b16 rfl ((ev16 (cc (dep l + 1)) eP nP l).trans ?_)
  simp only [cc, eP, okI_items, theI_items, hL, Bool.true_and]
  rw [decide_eq_true (Nat.lt_succ_self _)]
  rfl
def chR : List It → Int → Int → Int × Int
  | [], _, n => (0, n)
  | .mk a w b k :: r, d, n =>
    bif decide (n ≥ 600) then (3, n) else bif decide (d > 4) then (17, n) else
      bif ckItem (.mk a w b k) != 0 then (ckItem (.mk a w b k), IntKind.wrap IntKind.i64 (n + 1)) else
        bif (chR k (IntKind.wrap IntKind.i64 (d + 1)) (IntKind.wrap IntKind.i64 (n + 1))).1 != 0 then chR k (IntKind.wrap IntKind.i64 (d + 1)) (IntKind.wrap IntKind.i64 (n + 1)) else
          chR r d (chR k (IntKind.wrap IntKind.i64 (d + 1)) (IntKind.wrap IntKind.i64 (n + 1))).2
theorem chR_cons (x : It) (r : List It) (d n : Int) : chR (x :: r) d n = bif decide (n ≥ 600) then (3, n) else bif decide (d > 4) then (17, n) else
      bif ckItem x != 0 then (ckItem x, IntKind.wrap IntKind.i64 (n + 1)) else
        bif (chR x.kids (IntKind.wrap IntKind.i64 (d + 1)) (IntKind.wrap IntKind.i64 (n + 1))).1 != 0 then chR x.kids (IntKind.wrap IntKind.i64 (d + 1)) (IntKind.wrap IntKind.i64 (n + 1)) else
          chR r d (chR x.kids (IntKind.wrap IntKind.i64 (d + 1)) (IntKind.wrap IntKind.i64 (n + 1))).2 := by cases x; simp only [chR, It.kids]
noncomputable def eR (x : D) (d n : Int) : Int := (chR (theI x) d n).1
noncomputable def nR (x : D) (d n : Int) : Int := (chR (theI x) d n).2
theorem lp38 (N : Nat) (l : List It) (d : Int) (g : Nat) (hN : dep l ≤ N) (hL : okL l = true) : ∀ (m k : Nat) (n : Int), k ≤ l.length → l.length - k < m →
    L38 ciP (cc N) eR nR l d g m n k = some (.leaf (.tup [pI (chR (l.drop k) d n).2, pI (chR (l.drop k) d n).1], []))
  | 0, k, n, _, h => by omega
  | m + 1, k, n, hk, h => by
    rw [st38]
    by_cases hlt : k < l.length
    · have hd := dep_get l k hlt
      obtain ⟨ho, hw⟩ := okL_get hL hlt
      have hdd : decide (dep (l.getD k i0).kids < N) = true := decide_eq_true (by omega)
      simp only [lt1 hlt, ge0, tn, Bool.and_self, cond_true, cc, eR, nR, ciP, okW_words, theW_words, okI_kids, theI_kids, ho, hw, hdd]
      rw [nx hlt (okL_len hL), lp38 N l d g hN hL m (k + 1) _ (by omega) (by omega), drop_cons l i0 hlt, chR_cons]
      rw [← It.eta (l.getD k i0)]
      cases decide (n ≥ 600) with
      | true => rfl
      | false =>
        cases decide (d > 4) with
        | true => rfl
        | false =>
          cases hc : (ckItem (l.getD k i0) != 0) with
          | true => rfl
          | false =>
            cases he : ((chR (l.getD k i0).kids (IntKind.wrap IntKind.i64 (d + 1)) (IntKind.wrap IntKind.i64 (n + 1))).1 != 0) with
            | true => simp only [cond_false, cond_true]
            | false => rfl
    · rw [lt0 hlt, List.drop_of_length_le (by omega)]
      simp only [cond_false, chR]
theorem ans38_ok {N : Nat} (hc : ∀ (l : List It) (d n : Int), dep l < N → okL l = true → CX Tryz.prog 25 [aI l, vI d, vI n] [] (.tup [pI (chR l d n).2, pI (chR l d n).1]) []) :
    ∀ (R : Type) args H (k : AV → Hp → Option (T R)) t, (match H, args with | [], [.c (.d x), .c (.d (.v (.int .i64 d))), .c (.d (.v (.int .i64 n)))] => bif cc N x then k (.tup [pI (nR x d n), pI (eR x d n)]) [] else none | _, _ => none) = some t → ∃ x H', k x H' = some t ∧ CX Tryz.prog 25 args H x H' := fun R args H k t h => by
  split at h
  · rename_i x d n
    cases hx : cc N x with
    | false => rw [hx] at h; cases h
    | true =>
      rw [hx] at h
      unfold cc at hx
      simp only [Bool.and_eq_true, decide_eq_true_eq] at hx
      exact ⟨_, _, h, (hc (theI x) d n hx.2 hx.1.2).ge (.cons (ale_d (theI_de hx.1.1)) (.refl _)) (.refl _)⟩
  · simp at h
theorem c38 : ∀ (N : Nat) (l : List It) (d n : Int), dep l < N → okL l = true → CX Tryz.prog 25 [aI l, vI d, vI n] [] (.tup [pI (chR l d n).2, pI (chR l d n).1]) []
  | 0, l, d, n, h, _ => by omega
  | N + 1, l, d, n, h, hL => by
    have ho : OrcOk Tryz.prog (o38 ciP (cc N) eR nR) := Orc.cons_ok (Orc.cons_ok (Orc.nil_ok _) (ans38_ok (c38 N))) (ansT_ok c51)
    refine cx_of ho Tryz.func25 b38 rfl ((ev38 ciP (cc N) eR nR l d (l.length + 1) n).trans ?_)
    exact lp38 N l d (l.length + 1) (by omega) hL (l.length + 1) 0 n (by omega) (by omega)
theorem ch_same (N : Nat) : ∀ (l : List It) (d n : Int), dep l < N → 0 ≤ n → n ≤ 600 → (chP l d n).1 = (chR l d n).1 ∧ ((chP l d n).1 = 0 → (chP l d n).2 = (chR l d n).2 ∧ 0 ≤ (chP l d n).2 ∧ (chP l d n).2 ≤ 600) := by
  induction N with
  | zero => intro l d n h; omega
  | succ N ih =>
    intro l
    induction l with
    | nil => intro d n _ h0 h1; simp only [chP, chR]; exact ⟨trivial, fun _ => ⟨trivial, h0, h1⟩⟩
    | cons x r ihr =>
      intro d n hd h0 h1
      have hdk : dep x.kids < N := by cases x; simp only [dep, It.kids] at hd ⊢; omega
      have hdr : dep r < N + 1 := by cases x; simp only [dep] at hd; omega
      rw [chP_cons, chR_cons]
      have hw : IntKind.wrap IntKind.i64 (n + 1) = n + 1 := wd.wrap_id (by omega) (by omega)
      rw [hw]
      have ht : decide (n + 1 > 600) = decide (n ≥ 600) := by rw [Bool.eq_iff_iff]; simp; omega
      rw [ht]
      cases h6 : decide (n ≥ 600) with
      | true => exact ⟨rfl, fun he => by simp at he⟩
      | false =>
        have hlt : n < 600 := by simpa using h6
        cases decide (d > 4) with
        | true => exact ⟨rfl, fun he => by simp at he⟩
        | false =>
          cases hc : (ckItem x != 0) with
          | true => exact ⟨rfl, fun he => by simp only [cond_false, cond_true] at he; rw [he] at hc; simp at hc⟩
          | false =>
            obtain ⟨k1, k2⟩ := ih x.kids (IntKind.wrap IntKind.i64 (d + 1)) (n + 1) hdk (by omega) (by omega)
            simp only [cond_false]
            rw [← k1]
            cases he : ((chP x.kids (IntKind.wrap IntKind.i64 (d + 1)) (n + 1)).1 != 0) with
            | true => exact ⟨k1, fun h => by simp only [cond_true] at h; rw [h] at he; simp at he⟩
            | false =>
              have h0' : (chP x.kids (IntKind.wrap IntKind.i64 (d + 1)) (n + 1)).1 = 0 := by simpa using he
              obtain ⟨e1, e2, e3⟩ := k2 h0'
              simp only [cond_false]
              rw [← e1]
              exact ihr d _ hdr e2 e3
theorem c18 (l : List It) (hL : okL l = true) : CX Tryz.prog 11 [aI l] [] (vI (chk l)) [] := by
  have ho : OrcOk Tryz.prog (o18 (cc (dep l + 1)) eR nR) := Orc.cons_ok (Orc.nil_ok _) (ans38_ok (c38 (dep l + 1)))
  refine cx_of ho Tryz.func11 b18 rfl ((ev18 (cc (dep l + 1)) eR nR l).trans ?_)
  simp only [cc, eR, okI_items, theI_items, hL, Bool.true_and]
  rw [decide_eq_true (Nat.lt_succ_self _)]
  unfold chk
  rw [(ch_same (dep l + 1) l 0 0 (Nat.lt_succ_self _) (by omega) (by omega)).1]
  rfl
def deepB : List It → Int → Bool
  | [], _ => false
  | .mk _ _ _ k :: r, n => decide (n < 0) || (deepB k (IntKind.wrap IntKind.i64 (n - 1)) || deepB r n)
theorem deepB_cons (x : It) (r : List It) (n : Int) : deepB (x :: r) n = (decide (n < 0) || (deepB x.kids (IntKind.wrap IntKind.i64 (n - 1)) || deepB r n)) := by cases x; simp only [deepB, It.kids]
theorem lp17 (N : Nat) (l : List It) (n : Int) (g : Nat) (hN : dep l ≤ N) (hL : okL l = true) : ∀ (m k : Nat), k ≤ l.length → l.length - k < m →
    L17 N deepB l n g m k = some (.leaf (vB (deepB (l.drop k) n), []))
  | 0, k, _, h => by omega
  | m + 1, k, hk, h => by
    rw [st17]
    by_cases hlt : k < l.length
    · have hd := dep_get l k hlt
      obtain ⟨ho, hw⟩ := okL_get hL hlt
      have hdd : decide (dep (l.getD k i0).kids < N) = true := decide_eq_true (by omega)
      simp only [lt1 hlt, ge0, tn, Bool.and_self, cond_true, okI_kids, theI_kids, ho, hdd]
      rw [nx hlt (okL_len hL), lp17 N l n g hN hL m (k + 1) (by omega) (by omega), drop_cons l i0 hlt, deepB_cons]
      cases decide (n < 0) <;> cases deepB (l.getD k i0).kids (IntKind.wrap IntKind.i64 (n - 1)) <;> rfl
    · rw [lt0 hlt, List.drop_of_length_le (by omega)]
      simp only [cond_false, deepB]
theorem c17 : ∀ (N : Nat) (l : List It) (n : Int), dep l < N → okL l = true → CX Tryz.prog 10 [aI l, vI n] [] (vB (deepB l n)) []
  | 0, l, n, h, _ => by omega
  | N + 1, l, n, h, hL => by
    have ho : OrcOk Tryz.prog (o17 N deepB) := Orc.cons_ok (Orc.nil_ok _) fun R args H k t h => by
      split at h
      · rename_i x n
        cases hx : (okI x && okL (theI x) && decide (dep (theI x) < N)) with
        | false => rw [hx] at h; cases h
        | true =>
          rw [hx] at h
          simp only [Bool.and_eq_true, decide_eq_true_eq] at hx
          exact ⟨_, _, h, (c17 N (theI x) n hx.2 hx.1.2).ge (.cons (ale_d (theI_de hx.1.1)) (.refl _)) (.refl _)⟩
      · simp at h
    refine cx_of ho Tryz.func10 b17 rfl ((ev17 N deepB l n (l.length + 1)).trans ?_)
    exact lp17 N l n (l.length + 1) (by omega) hL (l.length + 1) 0 (by omega) (by omega)
end Go.Proofs.YtngoglhlhlfknaaGreat.ck
namespace Go.Proofs.YtngoglhlhlfknaaGreat.dr
open Go.RowKit Go.Eb Go.Proofs.YtngoglhlhlfknaaGreat.st
set_option maxRecDepth 100000
open Go.Proofs.YtngoglhlhlfknaaGreat.wd (numS rN c11)
abbrev aIt (x : It) : AV := .agg ((icells x).map .d)
abbrev aItK (x : It) : AV := .agg [.d (dI x.line), .d (wordsD x.words), .d (dB x.block), .d (itemsD x.kids)]
abbrev intC (n : Int) : List D := [dI n]
abbrev intsD (l : List Int) : D := listD 1 intC 0 l
noncomputable def oNu (nu : ByteArray → Int × Bool) : Orc := Orc.cons 109 (ansP decS fun s => rN (nu s)) Orc.nil
abbrev aFm (ks : ByteArray) (mo re : Bool) (sv : Value) : AV := .agg [.d (dS ks), .d (dB mo), .d (dB re), .d (.v sv)]
abbrev aMt (ws : List ByteArray) (ns : List Int) (ok : Bool) : AV := .tup [(false, [.d (busesD ws)]), (false, [.d (intsD ns)]), (false, [.d (dB ok)])]
noncomputable def annmt : Ann := annOf [(4, ⟨[2, 34, 35, 36, 5, 4], [(4, 0, 1, 9), (5, 0, 1, 3)]⟩)]
noncomputable def Lmt_4 (nu : ByteArray → Int × Bool) (ks : ByteArray) (ba bb : Bool) (sv : Value) (x : It) (g m : Nat) (n1 : Nat) (f1 : Nat → List D) (n2 : Nat) (f2 : Nat → List D) (i36 : Int) := LK Tryz.prog (oNu nu) annmt 0 g Tryz.f74 4 m ⟨frm [(2, .c (.ptr 0 0)), (4, .c (.row 1 1 n1)), (5, .c (.row 2 1 n2)), (34, .c (.d (listD 2 wcells w0 (It.words x)))), (35, .c (.d (.v (.int .i64 (↑(List.length (It.words x)) : Int))))), (36, .c (.d (.v (.int .i64 i36))))] 0 Tryz.f74.ntmps, [(0, Blk.cells [.d (.v (.string ks)), .d (.v (.bool ba)), .d (.v (.bool bb)), C.d (D.v sv)] 143), (1, Blk.row n1 f1 1 9), (2, Blk.row n2 f2 1 3)], 3⟩
theorem bmt : Tryz.f74.body = some (bodyOf Tryz.f74) := by kernel_rfl
theorem evmt (nu : ByteArray → Int × Bool) (ks : ByteArray) (ba bb : Bool) (sv : Value) (x : It) (g : Nat) : callC Tryz.prog (oNu nu) annmt g Tryz.f74 (bodyOf Tryz.f74) [aFm ks ba bb sv, aIt x] [] =
 (bif decide ((↑(List.length (It.words x)) : Int) < (↑(ByteArray.size ks) : Int)) then some (T.leaf (AV.tup [(false, [C.d (.v (.slice none 0 0))]), (false, [C.d
 (D.v (.slice none 0 0))]), (false, [C.d (.v (.bool false))])], [])) else (bif decide ((↑(List.length (It.words x)) : Int) > (↑(ByteArray.size ks) : Int))
 then (bif !ba then some (T.leaf (AV.tup [(false, [C.d (.v (.slice none 0 0))]), (false, [C.d (.v (.slice none 0 0))]), (false, [C.d (D.v
 (Value.bool false))])], [])) else Lmt_4 nu ks ba bb sv x g g 0 (fun x => []) 0 (fun x => []) ((0 : Int))) else Lmt_4 nu ks ba bb sv x g g 0 (fun x => []) (0
 : Nat) (fun x => []) ((0 : Int)))) := by kernel_rfl
theorem stmt_4 (nu : ByteArray → Int × Bool) (ks : ByteArray) (ba bb : Bool) (sv : Value) (x : It) (g m : Nat) (n1 : Nat) (f1 : Nat → List D) (n2 : Nat) (f2 : Nat → List D) (i36 : Int) : Lmt_4 nu ks ba bb sv x g (m + 1) n1 f1 n2 f2 i36 =
 (bif decide (i36 < (↑(List.length (It.words x)) : Int)) then (bif decide ((0 : Int) ≤ i36) && decide (i36 < (↑(List.length (It.words x)) : Int)) then (bif decide (i36 <
 (↑(ByteArray.size ks) : Int)) then (bif decide ((0 : Int) ≤ i36) && decide (i36 < (↑(ByteArray.size ks) : Int)) then (bif !Wd.q (List.getD (It.words x) (Int.toNat i36) w0) ==
 ((↑(UInt8.toNat (List.getD (Array.toList (ByteArray.data ks)) (Int.toNat i36) 0)) : Int) == (113 : Int)) then some (T.leaf (AV.tup [(false, [C.d (D.v (Value.slice none (0
 : Nat) 0))]), (false, [C.d (.v (.slice none 0 0))]), (false, [C.d (.v (.bool false))])], [])) else (bif decide ((n1 + 1) * 16 ≤
 140737488355328) && decide (n1 + 1 ≤ 9223372036854775807) then (bif (↑(UInt8.toNat (List.getD (Array.toList (ByteArray.data ks)) (Int.toNat i36) (0 :
 UInt8))) : Int) == (110 : Int) then (bif !Prod.snd (nu (Wd.text (List.getD (It.words x) (Int.toNat i36) w0))) then some (T.leaf (AV.tup [(false, [C.d (D.v (Value.slice none (0 :
 Nat) 0))]), (false, [C.d (.v (.slice none 0 0))]), (false, [C.d (.v (.bool false))])], [])) else (bif decide ((n2 + 1) * 8 ≤
 140737488355328) && decide (n2 + 1 ≤ 9223372036854775807) then Lmt_4 nu ks ba bb sv x g m (n1 + 1) (appF n1 f1 (chunk [D.v (.string (Wd.text
 (List.getD (It.words x) (Int.toNat i36) w0)))] (0 + 1))) (n2 + 1) (appF n2 f2 (chunk [D.v (.int .i64 (Prod.fst (nu (Wd.text (List.getD (It.words
 x) (Int.toNat i36) w0)))))] (0 + 1))) (IntKind.wrap .i64 (i36 + (1 : Int))) else none)) else Lmt_4 nu ks ba bb sv x g m (n1 + 1) (appF n1 f1 (chunk
 [D.v (.string (Wd.text (List.getD (It.words x) (Int.toNat i36) w0)))] (0 + 1))) n2 f2 (IntKind.wrap .i64 (i36 + (1 : Int)))) else none)) else none) else
 (bif !Wd.q (List.getD (It.words x) (Int.toNat i36) w0) == ((119 : Int) == (113 : Int)) then some (T.leaf (AV.tup [(false, [C.d (.v (.slice none 0 0))]),
 (false, [C.d (.v (.slice none 0 0))]), (false, [C.d (.v (.bool false))])], [])) else (bif decide ((n1 + 1) * 16 ≤ (140737488355328 :
 Nat)) && decide (n1 + 1 ≤ 9223372036854775807) then Lmt_4 nu ks ba bb sv x g m (n1 + 1) (appF n1 f1 (chunk [D.v (.string (Wd.text (List.getD (It.words
 x) (Int.toNat i36) w0)))] (0 + 1))) n2 f2 (IntKind.wrap .i64 (i36 + (1 : Int))) else none))) else none) else some (T.leaf (AV.tup [(false, [C.row (0)
 (1) n1]), (false, [C.row (1) (1) n2]), (false, [C.d (.v (.bool true))])], [(0, Blk.row n1 f1 (1) (9)), (1, Blk.row n2
 f2 (1) (3))]))) := by kernel_rfl
end Go.Proofs.YtngoglhlhlfknaaGreat.dr
namespace Go.Proofs.YtngoglhlhlfknaaGreat.dr
open Go.RowKit Go.Eb Go.Proofs.YtngoglhlhlfknaaGreat.st
set_option maxRecDepth 100000
def HW (ws : List ByteArray) : Hp := [(0, .cells [.d (busesD ws)] 22)]
noncomputable def annhix : Ann := annOf [(2, ⟨[0, 1, 7, 8], []⟩)]
noncomputable def Lhix_2 (bs : List SBay) (ws : List ByteArray) (g m : Nat) (i8 : Int) := LK Tryz.prog (Orc.cons 76 (inl Tryz.prog Orc.nil na 1 Tryz.f76) Orc.nil) annhix (List.length (α := Nat × Blk) (HW ws)) g Tryz.f75 2 m ⟨frm [(0, .c (.d (listD 12 bayC bay0 bs))), (1, .c (.fn 76 [] [Rf.ptr 0 0])), (7, .c (.d (.v (.int .i64 (↑(List.length bs) : Int))))), (8, .c (.d (.v (.int .i64 i8))))] 0 Tryz.f75.ntmps, [(0, Blk.cells [C.d (listD 1 busC e0 ws)] 22)], 1⟩
theorem bhix : Tryz.f75.body = some (bodyOf Tryz.f75) := by kernel_rfl
theorem evhix (bs : List SBay) (ws : List ByteArray) (g : Nat) : callC Tryz.prog (Orc.cons 76 (inl Tryz.prog Orc.nil na 1 Tryz.f76) Orc.nil) annhix g Tryz.f75 (bodyOf Tryz.f75) [.c (.d (baysD bs)), .c (.fn 76 [] [.ptr 0 0])] (HW ws) =
 Lhix_2 bs ws g g ((0 : Int)) := by kernel_rfl
theorem sthix_2 (bs : List SBay) (ws : List ByteArray) (g m : Nat) (i8 : Int) : Lhix_2 bs ws g (m + 1) i8 =
 (bif decide (i8 < (↑(List.length bs) : Int)) then (bif decide ((0 : Int) ≤ i8) && decide (i8 < (↑(List.length bs) : Int)) then (bif decide ((0 : Int) ≤ (3 : Int)) && decide ((3 :
 Int) < (↑(List.length ws) : Int)) then (bif ByteArray.toList (SBay.name (List.getD bs (Int.toNat i8) bay0)) == ByteArray.toList (List.getD ws (Int.toNat (3 : Int)) e0) then some
 (T.leaf (AV.c (.d (.v (.int .i64 i8))), [(0, Blk.cells [C.d (listD (1) busC e0 ws)] (22))])) else Lhix_2 bs ws g m (IntKind.wrap .i64
 (i8 + (1 : Int)))) else none) else none) else some (T.leaf (AV.c (.d (.v (.int .i64 (-1 : Int)))), [(0, Blk.cells [C.d (listD (1) busC e0 ws)] ((22 :
 Nat)))]))) := by kernel_rfl
structure KH where
  okm : List AV → Bool
  mw : List AV → List ByteArray
  mn : List AV → List Int
  mo : List AV → Bool
  okx : List AV → Hp → Bool
  ix : List AV → Hp → Int
  wd : List AV → Hp → D
noncomputable def oHd (Z : KH) : Orc := Orc.cons 74 (ansG Z.okm fun x => aMt (Z.mw x) (Z.mn x) (Z.mo x)) (Orc.cons 75 (ansM Z.okx (fun x H => vI (Z.ix x H)) fun x H => [(0, .cells [.d (Z.wd x H)] 22)]) Orc.nil)
theorem evFo (u : Unit) : callC Tryz.prog Orc.nil na 30 Tryz.f29 (bodyOf Tryz.f29) [] [] =
 some (T.leaf (AV.c (C.mp (0)), [(0, Blk.map (148) [(Value.string (⟨#[115, 117, 98, 115, 99,
 114, 105, 98, 101]⟩), Value.agg #[Value.string (⟨#[119, 119, 119, 119, 119]⟩),
 Value.bool false, Value.bool true, Value.func (Fn.func 73) #[] #[]]), (Value.string (⟨#[112, 117, 98, 108, 105,
 115, 104]⟩), Value.agg #[Value.string (⟨#[119, 119, 110, 110]⟩), Value.bool false, Value.bool true, Value.func
 (Fn.func 72) #[] #[]]), (Value.string (⟨#[115, 101, 116]⟩), Value.agg #[Value.string (⟨#[119, 119]⟩),
 Value.bool true, Value.bool true, Value.func (Fn.func 71) #[] #[]]), (Value.string (⟨#[114, 117, 108, 101]⟩), Value.agg
 #[Value.string (⟨#[119, 119, 113]⟩), Value.bool false, Value.bool true, Value.func (Fn.func 70) #[] #[]]), (Value.string
 (⟨#[100, 105, 102, 102, 101, 114, 101, 110, 116, 105, 97,
 108]⟩), Value.agg #[Value.string (⟨#[119, 110, 110, 110, 110]⟩), Value.bool false, Value.bool false, Value.func
 (Fn.func 69) #[] #[]]), (Value.string (⟨#[114, 101, 99, 108, 111, 115, 101]⟩), Value.agg
 #[Value.string (⟨#[119, 110, 110, 110]⟩), Value.bool false, Value.bool false, Value.func (Fn.func 68) #[] #[]]),
 (Value.string (⟨#[105, 110, 118, 101, 114, 115, 101]⟩), Value.agg #[Value.string (⟨#[119, 110, 110]⟩), Value.bool false, Value.bool false, Value.func (Fn.func 67) #[] #[]]), (Value.string (⟨#[111, (118 :
 UInt8), 101, 114]⟩), Value.agg #[Value.string (⟨#[119, 110, 110]⟩), Value.bool false, Value.bool false, Value.func
 (Fn.func 66) #[] #[]]), (Value.string (⟨#[117, 110, 100, 101, 114]⟩), Value.agg #[Value.string (⟨#[119, 110, 110]⟩), Value.bool false, Value.bool false, Value.func (Fn.func 66) #[] #[]]), (Value.string (⟨#[102, (97 :
 UInt8), 105, 108]⟩), Value.agg #[Value.string (⟨#[119, 110, 110]⟩), Value.bool false, Value.bool false, Value.func
 (Fn.func 66) #[] #[]]), (Value.string (⟨#[100, 101, 102, 105, 110, 105, 116, (101 :
 UInt8)]⟩), Value.agg #[Value.string (⟨#[119, 110, 110]⟩), Value.bool false, Value.bool false, Value.func (Fn.func 66) #[] #[]]),
 (Value.string (⟨#[115, 99, 104, 101, 109, 101]⟩), Value.agg #[Value.string (⟨#[119, (119
 : UInt8), 110, 110]⟩), Value.bool false, Value.bool false, Value.func (Fn.func 65) #[] #[]]), (Value.string (⟨#[108, 111,
 111, 112]⟩), Value.agg #[Value.string (⟨#[119, 110, 110, 110]⟩), Value.bool false, Value.bool false, Value.func
 (Fn.func 64) #[] #[]]), (Value.string (⟨#[122, 111, 110, 101]⟩), Value.agg #[Value.string (⟨#[119,
 110, 119, 110, 110, 110, 110]⟩), Value.bool false, Value.bool false, Value.func (Fn.func 63) #[] #[]])])])) := by kernel_rfl
end Go.Proofs.YtngoglhlhlfknaaGreat.dr
namespace Go.Proofs.YtngoglhlhlfknaaGreat.dr
open Go.RowKit Go.Eb Go.Proofs.YtngoglhlhlfknaaGreat.st
set_option maxRecDepth 100000
open Go.Proofs.YtngoglhlhlfknaaGreat.wd (numS rN c11)
def noM : Option (T (AV × Hp)) := some (T.leaf (AV.tup [(false, [C.d (D.v (Value.slice none 0 0))]), (false, [C.d (D.v (Value.slice none 0 0))]), (false, [C.d (D.v (Value.bool false))])], []))
def okM (n1 : Nat) (f1 : Nat → List D) (n2 : Nat) (f2 : Nat → List D) : Option (T (AV × Hp)) := some (T.leaf (AV.tup [(false, [C.row 0 1 n1]), (false, [C.row 1 1 n2]), (false, [C.d (D.v (Value.bool true))])], [(0, Blk.row n1 f1 1 9), (1, Blk.row n2 f2 1 3)]))
theorem appOk16 {n : Nat} (h : n ≤ 5000) : (decide ((n + 1) * 16 ≤ 140737488355328) && decide (n + 1 ≤ 9223372036854775807)) = true := by
  rw [decide_eq_true (by omega), decide_eq_true (by omega)]; rfl
theorem appOk8 {n : Nat} (h : n ≤ 5000) : (decide ((n + 1) * 8 ≤ 140737488355328) && decide (n + 1 ≤ 9223372036854775807)) = true := by
  rw [decide_eq_true (by omega), decide_eq_true (by omega)]; rfl
theorem hd_lt {l : List UInt8} {k : Nat} (h : k < l.length) : (l.drop k).headD 119 = l.getD k 0 := by
  rw [List.headD_eq_head?_getD, List.head?_drop, List.getD_eq_getElem?_getD, List.getElem?_eq_getElem h]; rfl
theorem hd_ge {l : List UInt8} {k : Nat} (h : ¬ k < l.length) : (l.drop k).headD 119 = 119 := by
  rw [List.headD_eq_head?_getD, List.head?_drop, List.getElem?_eq_none (by omega)]; rfl
theorem ksl (ks : ByteArray) : ks.data.toList.length = ks.size := by rw [Array.length_toList]; rfl
theorem lpmt (ks : ByteArray) (ba bb : Bool) (sv : Value) (x : It) (h5 : x.words.length ≤ 2000) (g : Nat) : ∀ (m k n1 : Nat) (f1 : Nat → List D) (n2 : Nat) (f2 : Nat → List D) (b1 : List ByteArray) (b2 : List Int), k ≤ x.words.length → x.words.length - k < m → n1 ≤ k → n2 ≤ k → RL busC e0 n1 f1 b1 → RL intC 0 n2 f2 b2 →
    ∃ n1' f1' n2' f2', ((mrW numS (x.words.drop k) (ks.data.toList.drop k)).ok = true → RL busC e0 n1' f1' (b1 ++ (mrW numS (x.words.drop k) (ks.data.toList.drop k)).ws) ∧ RL intC 0 n2' f2' (b2 ++ (mrW numS (x.words.drop k) (ks.data.toList.drop k)).ns)) ∧
      Lmt_4 numS ks ba bb sv x g m n1 f1 n2 f2 k = bif (mrW numS (x.words.drop k) (ks.data.toList.drop k)).ok then okM n1' f1' n2' f2' else noM := by
  intro m
  induction m with
  | zero => intro k n1 f1 n2 f2 b1 b2 _ h; omega
  | succ m ih =>
    intro k n1 f1 n2 f2 b1 b2 hk hm hn1 hn2 hr1 hr2
    rw [stmt_4]
    by_cases hlt : k < x.words.length
    · rw [drop_at' (d := w0) hlt]
      unfold mrW
      simp -implicitDefEqProofs only [lt1 hlt, ge0, tn, tt, cond_true, nx hlt (by omega), appOk16 (show n1 ≤ 5000 by omega), appOk8 (show n2 ≤ 5000 by omega)]
      have i1 := ih (k + 1) (n1 + 1) (appF n1 f1 (chunk [dS (x.words.getD k w0).text] 1)) n2 f2 (b1 ++ [(x.words.getD k w0).text]) b2 (by omega) (by omega) (by omega) (by omega) (hr1.app rfl (.refl _) (.refl _)) hr2
      have i2 := ih (k + 1) (n1 + 1) (appF n1 f1 (chunk [dS (x.words.getD k w0).text] 1)) (n2 + 1) (appF n2 f2 (chunk [dI (numS (x.words.getD k w0).text).1] 1)) (b1 ++ [(x.words.getD k w0).text]) (b2 ++ [(numS (x.words.getD k w0).text).1]) (by omega) (by omega) (by omega) (by omega) (hr1.app rfl (.refl _) (.refl _)) (hr2.app rfl (.refl _) (.refl _))
      obtain ⟨p1, q1, p2, q2, i1a, i1b⟩ := i1
      obtain ⟨r1, s1, r2, s2, i2a, i2b⟩ := i2
      generalize x.words.getD k w0 = w at *
      rw [List.tail_drop]
      by_cases hs : k < ks.size
      · have hs' : k < ks.data.toList.length := by rw [ksl]; exact hs
        rw [hd_lt hs', show decide ((k : Int) < (ks.size : Int)) = true from lt1 hs]
        generalize ks.data.toList.getD k 0 = c
        rw [show (w.q != (((c.toNat : Nat) : Int) == 113)) = !(w.q == (((c.toNat : Nat) : Int) == 113)) from rfl]
        simp only [tt, cond_true]
        cases (w.q == (((c.toNat : Nat) : Int) == 113)) with
        | false => exact ⟨0, fun _ => [], 0, fun _ => [], fun h => (by cases h), rfl⟩
        | true =>
          simp only [Bool.not_true, cond_false]
          cases (((c.toNat : Nat) : Int) == 110) with
          | true =>
            simp only [cond_true]
            cases (!(numS w.text).2) with
            | true => exact ⟨0, fun _ => [], 0, fun _ => [], fun h => (by cases h), rfl⟩
            | false =>
              simp only [cond_false]
              refine ⟨r1, s1, r2, s2, fun h => ?_, i2b⟩
              have := i2a h
              simpa using this
          | false =>
            simp only [cond_false]
            refine ⟨p1, q1, p2, q2, fun h => ?_, i1b⟩
            have := i1a h
            simpa using this
      · have hs' : ¬ k < ks.data.toList.length := by rw [ksl]; exact hs
        rw [hd_ge hs', show decide ((k : Int) < (ks.size : Int)) = false from lt0 hs]
        rw [show ((((119 : UInt8).toNat : Nat) : Int) == 113) = false from rfl, show ((((119 : UInt8).toNat : Nat) : Int) == 110) = false from rfl, show ((119 : Int) == 113) = false from rfl]
        rw [show (w.q != false) = !(w.q == false) from rfl]
        simp only [cond_false]
        cases (w.q == false) with
        | false => exact ⟨0, fun _ => [], 0, fun _ => [], fun h => (by cases h), rfl⟩
        | true =>
          simp only [Bool.not_true, cond_false]
          refine ⟨p1, q1, p2, q2, fun h => ?_, i1b⟩
          have := i1a h
          simpa using this
    · rw [lt0 hlt, List.drop_of_length_le (by omega)]
      exact ⟨n1, f1, n2, f2, fun _ => by simpa [mrW] using ⟨hr1, hr2⟩, rfl⟩
theorem sNu : OrcS Tryz.prog (oNu numS) := .cons (.p decS_ok c11) .nil
theorem ale3 {a b c d e f : D} (h : DE a b) (k : DE c d) (l : DE e f) : Ale (.tup [(false, [.d a]), (false, [.d c]), (false, [.d e])]) (.tup [(false, [.d b]), (false, [.d d]), (false, [.d f])]) := by
  refine ⟨rfl, fun j p q h1 h2 => ?_⟩
  match j with
  | 0 => simp at h1 h2; subst h1 h2; exact ⟨rfl, .cons h .nil⟩
  | 1 => simp at h1 h2; subst h1 h2; exact ⟨rfl, .cons k .nil⟩
  | 2 => simp at h1 h2; subst h1 h2; exact ⟨rfl, .cons l .nil⟩
  | j + 3 => simp at h1
theorem cmt (ks : ByteArray) (ba bb : Bool) (sv : Value) (x : It) (h5 : x.words.length ≤ 2000) : CX Tryz.prog 74 [aFm ks ba bb sv, aIt x] [] (aMt (mrK numS ks ba x.words).ws (mrK numS ks ba x.words).ns (mrK numS ks ba x.words).ok) [] := by
  obtain ⟨g, hg⟩ : ∃ g, 3000 < g := ⟨3001, by omega⟩
  have ev := evmt numS ks ba bb sv x g
  have no : callC Tryz.prog (oNu numS) annmt g Tryz.f74 (bodyOf Tryz.f74) [aFm ks ba bb sv, aIt x] [] = noM → CX Tryz.prog 74 [aFm ks ba bb sv, aIt x] [] (aMt [] [] false) [] := fun h => by
    refine (cx_of sNu.ok Tryz.func74 bmt rfl h).le ?_ (.refl _)
    exact ale3 (.nil _ _) (.nil _ _) (.refl _)
  obtain ⟨n1', f1', n2', f2', k1, k2⟩ := lpmt ks ba bb sv x h5 g g 0 0 (fun _ => []) 0 (fun _ => []) [] [] (by omega) (by omega) (by omega) (by omega) (.nil fun _ => []) (.nil fun _ => [])
  simp only [List.drop_zero, List.nil_append] at k1 k2
  have k2' : Lmt_4 numS ks ba bb sv x g g 0 (fun _ => []) 0 (fun _ => []) 0 = _ := k2
  rw [k2'] at ev
  have main : callC Tryz.prog (oNu numS) annmt g Tryz.f74 (bodyOf Tryz.f74) [aFm ks ba bb sv, aIt x] [] = (bif (mrW numS x.words ks.data.toList).ok then okM n1' f1' n2' f2' else noM) → CX Tryz.prog 74 [aFm ks ba bb sv, aIt x] [] (aMt (bif (mrW numS x.words ks.data.toList).ok then mrW numS x.words ks.data.toList else mrNo).ws (bif (mrW numS x.words ks.data.toList).ok then mrW numS x.words ks.data.toList else mrNo).ns (bif (mrW numS x.words ks.data.toList).ok then mrW numS x.words ks.data.toList else mrNo).ok) [] := fun e => by
    cases h3 : (mrW numS x.words ks.data.toList).ok with
    | false => rw [h3] at e; exact no e
    | true =>
      rw [h3] at e
      obtain ⟨hr1, hr2⟩ := k1 h3
      have hc := (cr_of sNu.ok Tryz.func74 bmt rfl e).data (y := .tup [(false, [.d (.sl 1 n1' f1')]), (false, [.d (.sl 1 n2' f2')]), (false, [.d (dB true)])]) rfl
      simp only [cond_true]
      rw [h3]
      refine (CX.of_cr Tryz.func74 bmt hc).le ?_ (.refl _)
      exact ale3 (hr1.de (sz := 1)) (hr2.de (sz := 1)) (.refl _)
  unfold mrK
  cases h1 : decide ((x.words.length : Int) < (ks.size : Int)) with
  | true => rw [h1] at ev; exact no ev
  | false =>
    rw [h1] at ev
    simp only [cond_false, Bool.false_or] at ev ⊢
    cases h2 : decide ((x.words.length : Int) > (ks.size : Int)) with
    | true =>
      rw [h2] at ev
      simp only [cond_true, Bool.true_and] at ev ⊢
      cases h3 : (!ba) with
      | true => rw [h3] at ev; exact no ev
      | false => rw [h3] at ev; exact main ev
    | false =>
      rw [h2] at ev
      exact main ev
end Go.Proofs.YtngoglhlhlfknaaGreat.dr
namespace Go.Proofs.YtngoglhlhlfknaaGreat.dr
open Go.RowKit Go.Eb Go.Proofs.YtngoglhlhlfknaaGreat.st
set_option maxRecDepth 100000
def HL (q : SRel) (n1 : Nat) (f1 : Nat → List D) (n2 : Nat) (f2 : Nat → List D) (n3 : Nat) (f3 : Nat → List D) (n4 : Nat) (f4 : Nat → List D) : Hp :=
  [(0, .cells (((relC q).take 49).map .d ++ [.row 1 2 n1, .row 2 2 n2, .row 3 3 n3, .row 4 4 n4]) 57), (1, .row n1 f1 2 100), (2, .row n2 f2 2 95), (3, .row n3 f3 3 104), (4, .row n4 f4 4 107)]
noncomputable def annads : Ann := annOf [(3, ⟨[11, 1, 0, 12, 13, 7], [(7, 0, 1, 9)]⟩)]
noncomputable def Lads_3 (q : SRel) (na : Nat) (fa : Nat → List D) (nb : Nat) (fb : Nat → List D) (nc : Nat) (fc : Nat → List D) (nd : Nat) (fd : Nat → List D) (ws : List ByteArray) (dn : D) (g m : Nat) (n5 : Nat) (f5 : Nat → List D) (i13 : Int) := LK Tryz.prog Orc.nil annads (List.length (α := Nat × Blk) (HL q na fa nb fb nc fc nd fd)) g Tryz.f71 3 m ⟨frm [(0, .c (.ptr 0 0)), (1, .c (.d (listD 1 busC e0 ws))), (7, .c (.row 5 1 n5)), (11, .c (.d (D.sl 1 (Int.toNat (↑(List.length ws) : Int) - Int.toNat (2 : Int)) fun i => busC (List.getD ws (Int.toNat (2 : Int) + i) e0)))), (12, .c (.d (.v (.int .i64 (↑(Int.toNat (↑(List.length ws) : Int) - Int.toNat (2 : Int)) : Int))))), (13, .c (.d (.v (.int .i64 i13))))] 0 Tryz.f71.ntmps, [(0, Blk.cells [.d (.v (.string (SRel.name q))), .d (.v (.int .i64 (SRel.kind q))), .d (.v (.int .i64 (SRel.bay q))), .d (.v (.bool (SRel.zon0 q))), .d (.v (.bool (SRel.zfw0 q))), .d (.v (.int .i64 (SRel.zx0 q))), .d (.v (.int .i64 (SRel.zr0 q))), .d (.v (.int .i64 (SRel.zl0 q))), .d (.v (.int .i64 (SRel.zd0 q))), .d (.v (.bool (SRel.zon1 q))), .d (.v (.bool (SRel.zfw1 q))), .d (.v (.int .i64 (SRel.zx1 q))), .d (.v (.int .i64 (SRel.zr1 q))), .d (.v (.int .i64 (SRel.zl1 q))), .d (.v (.int .i64 (SRel.zd1 q))), .d (.v (.bool (SRel.zon2 q))), .d (.v (.bool (SRel.zfw2 q))), .d (.v (.int .i64 (SRel.zx2 q))), .d (.v (.int .i64 (SRel.zr2 q))), .d (.v (.int .i64 (SRel.zl2 q))), .d (.v (.int .i64 (SRel.zd2 q))), .d (.v (.int .i64 (SRel.min q))), .d (.v (.int .i64 (SRel.kre q))), .d (.v (.int .i64 (SRel.kim q))), .d (.v (.int .i64 (SRel.scheme q))), .d (.v (.int .i64 (SRel.wait q))), .d (.v (.int .i64 (SRel.guard q))), .d (.v (.bool (SRel.don q))), .d (.v (.int .i64 (SRel.dpk q))), .d (.v (.int .i64 (SRel.ddl q))), .d (.v (.bool (SRel.ion q))), .d (.v (.int .i64 (SRel.ipk q))), .d (.v (.int .i64 (SRel.idl q))), .d (.v (.bool (SRel.fon q))), .d (.v (.int .i64 (SRel.fpk q))), .d (.v (.int .i64 (SRel.fdl q))), .d (.v (.int .i64 (SRel.shots q))), .d (.v (.int .i64 (SRel.dead q))), .d (.v (.int .i64 (SRel.reclaim q))), .d (.v (.bool (SRel.uon q))), .d (.v (.int .i64 (SRel.upk q))), .d (.v (.int .i64 (SRel.udl q))), .d (.v (.bool (SRel.oon q))), .d (.v (.int .i64 (SRel.opk q))), .d (.v (.int .i64 (SRel.odl q))), .d (.v (.int .i64 (SRel.diff q))), .d (.v (.int .i64 (SRel.num q))), .d (.v (.int .i64 (SRel.den q))), .d (.v (.int .i64 (SRel.harm q))), C.row 1 2 na, C.row 2 2 nb, C.row 3 3 nc, C.row 4 4 nd] 57), (1, Blk.row na fa 2 100), (2, Blk.row nb fb 2 95), (3, Blk.row nc fc 3 104), (4, Blk.row nd fd 4 107), (5, Blk.row n5 f5 1 9)], 6⟩
theorem bads : Tryz.f71.body = some (bodyOf Tryz.f71) := by kernel_rfl
theorem evads (q : SRel) (na : Nat) (fa : Nat → List D) (nb : Nat) (fb : Nat → List D) (nc : Nat) (fc : Nat → List D) (nd : Nat) (fd : Nat → List D) (ws : List ByteArray) (dn : D) (g : Nat) : callC Tryz.prog Orc.nil annads g Tryz.f71 (bodyOf Tryz.f71) [.c (.ptr 0 0), .c (.d (busesD ws)), .c (.d dn)] (HL q na fa nb fb nc fc nd fd) =
 (bif decide ((0 : Int) ≤ (2 : Int)) && decide ((2 : Int) ≤ (↑(List.length ws) : Int)) && decide ((↑(List.length ws) : Int) ≤ (↑(List.length ws) : Int)) then Lads_3 q na fa nb fb nc
 fc nd fd ws dn g g 0 (fun x => []) ((0 : Int)) else none) := by kernel_rfl
theorem stads_3 (q : SRel) (na : Nat) (fa : Nat → List D) (nb : Nat) (fb : Nat → List D) (nc : Nat) (fc : Nat → List D) (nd : Nat) (fd : Nat → List D) (ws : List ByteArray) (dn : D) (g m : Nat) (n5 : Nat) (f5 : Nat → List D) (i13 : Int) : Lads_3 q na fa nb fb nc fc nd fd ws dn g (m + 1) n5 f5 i13 =
 (bif decide (i13 < (↑(Int.toNat (↑(List.length ws) : Int) - Int.toNat (2 : Int)) : Int)) then (bif decide ((0 : Int) ≤ i13) && decide (i13 < (↑(Int.toNat (↑(List.length ws) : Int) -
 Int.toNat (2 : Int)) : Int)) then (bif decide ((n5 + 1) * 16 ≤ 140737488355328) && decide (n5 + 1 ≤ 9223372036854775807) then Lads_3 q na fa
 nb fb nc fc nd fd ws dn g m (n5 + 1) (appF n5 f5 (chunk [dS (List.getD ws (Int.toNat (2 : Int) + Int.toNat i13) e0)] (0 + 1))) (IntKind.wrap .i64 (i13
 + (1 : Int))) else none) else none) else (bif decide ((0 : Int) ≤ (1 : Int)) && decide ((1 : Int) < (↑(List.length ws) : Int)) then (bif decide ((nb + 1) * 40 ≤
 140737488355328) && decide (nb + 1 ≤ 9223372036854775807) then some (T.leaf (AV.c (.d (.v (.bool true))), [(0, Blk.cells [C.d (D.v
 (Value.string (SRel.name q))), C.d (.v (.int .i64 (SRel.kind q))), C.d (.v (.int .i64 (SRel.bay q))), C.d (.v (.bool (SRel.zon0 q))), C.d (D.v
 (Value.bool (SRel.zfw0 q))), C.d (.v (.int .i64 (SRel.zx0 q))), C.d (.v (.int .i64 (SRel.zr0 q))), C.d (.v (.int .i64 (SRel.zl0 q))), C.d (D.v
 (Value.int IntKind.i64 (SRel.zd0 q))), C.d (.v (.bool (SRel.zon1 q))), C.d (.v (.bool (SRel.zfw1 q))), C.d (.v (.int .i64 (SRel.zx1 q))), C.d (D.v
 (Value.int IntKind.i64 (SRel.zr1 q))), C.d (.v (.int .i64 (SRel.zl1 q))), C.d (.v (.int .i64 (SRel.zd1 q))), C.d (.v (.bool (SRel.zon2 q))), C.d (D.v
 (Value.bool (SRel.zfw2 q))), C.d (.v (.int .i64 (SRel.zx2 q))), C.d (.v (.int .i64 (SRel.zr2 q))), C.d (.v (.int .i64 (SRel.zl2 q))), C.d (D.v
 (Value.int IntKind.i64 (SRel.zd2 q))), C.d (.v (.int .i64 (SRel.min q))), C.d (.v (.int .i64 (SRel.kre q))), C.d (.v (.int .i64 (SRel.kim
 q))), C.d (.v (.int .i64 (SRel.scheme q))), C.d (.v (.int .i64 (SRel.wait q))), C.d (.v (.int .i64 (SRel.guard q))), C.d (D.v (Value.bool
 (SRel.don q))), C.d (.v (.int .i64 (SRel.dpk q))), C.d (.v (.int .i64 (SRel.ddl q))), C.d (.v (.bool (SRel.ion q))), C.d (D.v (Value.int IntKind.i64
 (SRel.ipk q))), C.d (.v (.int .i64 (SRel.idl q))), C.d (.v (.bool (SRel.fon q))), C.d (.v (.int .i64 (SRel.fpk q))), C.d (D.v (Value.int IntKind.i64
 (SRel.fdl q))), C.d (.v (.int .i64 (SRel.shots q))), C.d (.v (.int .i64 (SRel.dead q))), C.d (.v (.int .i64 (SRel.reclaim q))), C.d (D.v
 (Value.bool (SRel.uon q))), C.d (.v (.int .i64 (SRel.upk q))), C.d (.v (.int .i64 (SRel.udl q))), C.d (.v (.bool (SRel.oon q))), C.d (D.v (Value.int
 IntKind.i64 (SRel.opk q))), C.d (.v (.int .i64 (SRel.odl q))), C.d (.v (.int .i64 (SRel.diff q))), C.d (.v (.int .i64 (SRel.num q))), C.d (D.v
 (Value.int IntKind.i64 (SRel.den q))), C.d (.v (.int .i64 (SRel.harm q))), C.row (1) (2) na, C.row (5) (2) (nb + 1), C.row ((3 :
 Nat)) (3) nc, C.row (4) (4) nd] (57)), (1, Blk.row na fa (2) (100)), (2, Blk.dead), (3, Blk.row nc fc ((3 :
 Nat)) (104)), (4, Blk.row nd fd (4) (107)), (5, Blk.row (nb + 1) (appF nb fb (chunk [dS (List.getD ws (Int.toNat (1 : Int)) e0), D.sl
 1 n5 f5] (1 + 1))) (2) (95))])) else none) else none)) := by kernel_rfl
end Go.Proofs.YtngoglhlhlfknaaGreat.dr
namespace Go.Proofs.YtngoglhlhlfknaaGreat.dr
open Go.RowKit Go.Eb Go.Proofs.YtngoglhlhlfknaaGreat.st
set_option maxRecDepth 100000
def endS (q : SRel) (na : Nat) (fa : Nat → List D) (nb : Nat) (fb : Nat → List D) (nc : Nat) (fc : Nat → List D) (nd : Nat) (fd : Nat → List D) (w : ByteArray) (s : D) : Hp :=
  [(0, .cells (((relC q).take 49).map .d ++ [.row 1 2 na, .row 5 2 (nb + 1), .row 3 3 nc, .row 4 4 nd]) 57), (1, .row na fa 2 100), (2, .dead), (3, .row nc fc 3 104), (4, .row nd fd 4 107), (5, .row (nb + 1) (appF nb fb (chunk [dS w, s] 2)) 2 95)]
section
variable (q : SRel) (na : Nat) (fa : Nat → List D) (nb : Nat) (fb : Nat → List D) (nc : Nat) (fc : Nat → List D) (nd : Nat) (fd : Nat → List D) (ws : List ByteArray) (dn : D)
theorem lads (hb : nb ≤ 5000) (h2 : 2 ≤ ws.length) (h5 : ws.length ≤ 2000) (g : Nat) : ∀ (m k n5 : Nat) (f5 : Nat → List D) (b : List ByteArray), k ≤ ws.length - 2 → ws.length - 2 - k < m → n5 ≤ k → RL busC e0 n5 f5 b →
    ∃ n5' f5', RL busC e0 n5' f5' (b ++ ws.drop (2 + k)) ∧ Lads_3 q na fa nb fb nc fc nd fd ws dn g m n5 f5 k = some (.leaf (vB true, endS q na fa nb fb nc fc nd fd (ws.getD 1 e0) (.sl 1 n5' f5'))) := by
  intro m
  induction m with
  | zero => intro k n5 f5 b _ h; omega
  | succ m ih =>
    intro k n5 f5 b hk hm hn hr
    rw [stads_3]
    have t2 : Int.toNat (2 : Int) = 2 := rfl
    by_cases hlt : k < ws.length - 2
    · have e1 : decide ((k : Int) < ((Int.toNat (ws.length : Int) - Int.toNat (2 : Int) : Nat) : Int)) = true := by rw [tn, t2]; exact lt1 hlt
      have e2 : (decide ((n5 + 1) * 16 ≤ 140737488355328) && decide (n5 + 1 ≤ 9223372036854775807)) = true := by rw [decide_eq_true (by omega), decide_eq_true (by omega)]; rfl
      obtain ⟨n5', f5', i1, i2⟩ := ih (k + 1) (n5 + 1) (appF n5 f5 (chunk [dS (ws.getD (2 + k) e0)] 1)) (b ++ [ws.getD (2 + k) e0]) (by omega) (by omega) (by omega) (hr.app rfl (.refl _) (.refl _))
      refine ⟨n5', f5', ?_, ?_⟩
      · rw [drop_at' (d := e0) (show 2 + k < ws.length by omega)]
        rw [Nat.add_assoc]
        simpa using i1
      · rw [e1, e2, ge0, tn, t2, nx hlt (by omega)]
        exact i2
    · have e1 : decide ((k : Int) < ((Int.toNat (ws.length : Int) - Int.toNat (2 : Int) : Nat) : Int)) = false := by rw [tn, t2]; exact lt0 hlt
      have e2 : (decide ((nb + 1) * 40 ≤ 140737488355328) && decide (nb + 1 ≤ 9223372036854775807)) = true := by rw [decide_eq_true (by omega), decide_eq_true (by omega)]; rfl
      have e3 : (decide ((0 : Int) ≤ (1 : Int)) && decide ((1 : Int) < (ws.length : Int))) = true := by rw [decide_eq_true (show (1 : Int) < (ws.length : Int) by omega)]; rfl
      rw [e1, e2, e3]
      refine ⟨n5, f5, ?_, rfl⟩
      rw [List.drop_of_length_le (by omega)]
      simpa using hr
theorem chunk0 (ds : List D) (n : Nat) (h : ds.length = n) : chunk ds n 0 = ds := by unfold chunk; simp [← h]
theorem cads (hb : nb ≤ 5000) (h2 : 2 ≤ ws.length) (h5 : ws.length ≤ 2000) : CX Tryz.prog 71 [.c (.ptr 0 0), .c (.d (busesD ws)), .c (.d dn)] (HL q na fa nb fb nc fc nd fd) (vB true) (endS q na fa nb fb nc fc nd fd (ws.getD 1 e0) (busesD (ws.drop 2))) := by
  obtain ⟨g, hg⟩ : ∃ g, 3000 < g := ⟨3001, by omega⟩
  obtain ⟨n5', f5', i1, i2⟩ := lads q na fa nb fb nc fc nd fd ws dn hb h2 h5 g g 0 0 (fun _ => []) [] (by omega) (by omega) (by omega) (RL.nil _)
  have e1 : (decide ((0 : Int) ≤ (2 : Int)) && decide ((2 : Int) ≤ (ws.length : Int)) && decide ((ws.length : Int) ≤ (ws.length : Int))) = true := by
    rw [decide_eq_true (show (2 : Int) ≤ (ws.length : Int) by omega), decide_eq_true (Int.le_refl _)]; rfl
  have ev := evads q na fa nb fb nc fc nd fd ws dn g
  rw [e1] at ev
  refine (cx_of (Orc.nil_ok _) Tryz.func71 bads rfl (ev.trans i2)).le (.refl _) ?_
  unfold endS
  refine .cons (.refl _) (.cons (.refl _) (.cons (.refl _) (.cons (.refl _) (.cons (.refl _) (.cons ⟨rfl, rfl, rfl, fun i hi => ?_⟩ .nil)))))
  unfold appF
  rw [bltD]
  by_cases h : i < nb
  · rw [decide_eq_true h]; exact .refl _
  · have : i - nb = 0 := by omega
    rw [decide_eq_false h, this]
    show DEs (chunk _ 2 0) (chunk _ 2 0)
    rw [chunk0 [dS (ws.getD 1 e0), D.sl 1 n5' f5'] 2 rfl, chunk0 [dS (ws.getD 1 e0), busesD (ws.drop 2)] 2 rfl]
    exact .cons (.refl _) (.cons (by simpa using i1.de (sz := 1)) .nil)
end
end Go.Proofs.YtngoglhlhlfknaaGreat.dr
