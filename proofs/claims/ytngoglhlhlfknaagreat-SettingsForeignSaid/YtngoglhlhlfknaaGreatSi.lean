/-
  Check of the reference: what its parts compute. No condition.
-/
import Derived.Test.YtngoglhlhlfknaaGreatSh
namespace Go.Proofs.YtngoglhlhlfknaaGreat.st
open Go.RowKit Go.Eb
set_option maxRecDepth 100000

noncomputable def oBe : Orc := Orc.cons 45 (inl Tryz.prog Orc.nil na 1 Tryz.f45) Orc.nil
noncomputable def oOh : Orc := Orc.cons 22 (inl Tryz.prog oBe na 1 Tryz.f22) oBe
noncomputable def ann49 : Ann := annOf []
theorem b49 : Tryz.f47.body = some (bodyOf Tryz.f47) := by kernel_rfl
set_option maxRecDepth 100000 in
theorem ev49 (x : SBay) (g : Nat) : callC Tryz.prog oOh ann49 g Tryz.f47 (bodyOf Tryz.f47) [aBay x] [] =
 (bif SBay.kind x == (1 : Int) then (bif decide (SBay.fin x ≥ (0 : Int)) then (bif !decide (SBay.fin x ≤ (1 : Int)) then some (T.leaf (AV.c (C.d (D.v (Value.bool false))), [])) else
 (bif !SBay.kind x == (1 : Int) then (bif SBay.fin x != (0 : Int) then some (T.leaf (AV.c (C.d (D.v (Value.bool false))), [])) else (bif SBay.kind x == (3 : Int) then (bif decide
 (SBay.zr x ≥ (0 : Int)) then (bif decide (SBay.zr x ≤ (1000 : Int)) then (bif decide (SBay.zx x ≥ (1 : Int)) then (bif !decide (SBay.zx x ≤ (1000 : Int)) then some (T.leaf (AV.c
 (C.d (D.v (Value.bool false))), [])) else (bif !SBay.kind x == (3 : Int) then (bif !(SBay.zr x == (0 : Int) && (SBay.zx x == (0 : Int) && true)) then some (T.leaf (AV.c (C.d (D.v
 (Value.bool false))), [])) else (bif decide (SBay.ct x ≥ (1 : Int)) then (bif !decide (SBay.ct x ≤ (100 : Int)) then some (T.leaf (AV.c (C.d (D.v (Value.bool false))), [])) else
 (bif SBay.kind x == (3 : Int) then (bif SBay.vt x != (0 : Int) then some (T.leaf (AV.c (C.d (D.v (Value.bool false))), [])) else (bif !SBay.kind x == (3 : Int) then (bif decide
 (SBay.vt x ≥ (1 : Int)) then (bif !decide (SBay.vt x ≤ (10000 : Int)) then some (T.leaf (AV.c (C.d (D.v (Value.bool false))), [])) else (bif decide (SBay.sat x ≥ (0 : Int)) then
 (bif decide (SBay.sat x ≤ (16383 : Int)) then (bif decide (SBay.travel x ≥ (1 : Int)) then some (T.leaf (AV.c (C.d (D.v (Value.bool (decide (SBay.travel x ≤ (6 : Int)))))), []))
 else some (T.leaf (AV.c (C.d (D.v (Value.bool false))), []))) else some (T.leaf (AV.c (C.d (D.v (Value.bool false))), []))) else some (T.leaf (AV.c (C.d (D.v (Value.bool false))),
 [])))) else some (T.leaf (AV.c (C.d (D.v (Value.bool false))), []))) else (bif decide (SBay.sat x ≥ (0 : Int)) then (bif decide (SBay.sat x ≤ (16383 : Int)) then (bif decide
 (SBay.travel x ≥ (1 : Int)) then some (T.leaf (AV.c (C.d (D.v (Value.bool (decide (SBay.travel x ≤ (6 : Int)))))), [])) else some (T.leaf (AV.c (C.d (D.v (Value.bool false))), [])))
 else some (T.leaf (AV.c (C.d (D.v (Value.bool false))), []))) else some (T.leaf (AV.c (C.d (D.v (Value.bool false))), []))))) else (bif !SBay.kind x == (3 : Int) then (bif decide
 (SBay.vt x ≥ (1 : Int)) then (bif !decide (SBay.vt x ≤ (10000 : Int)) then some (T.leaf (AV.c (C.d (D.v (Value.bool false))), [])) else (bif decide (SBay.sat x ≥ (0 : Int)) then
 (bif decide (SBay.sat x ≤ (16383 : Int)) then (bif decide (SBay.travel x ≥ (1 : Int)) then some (T.leaf (AV.c (C.d (D.v (Value.bool (decide (SBay.travel x ≤ (6 : Int)))))), []))
 else some (T.leaf (AV.c (C.d (D.v (Value.bool false))), []))) else some (T.leaf (AV.c (C.d (D.v (Value.bool false))), []))) else some (T.leaf (AV.c (C.d (D.v (Value.bool false))),
 [])))) else some (T.leaf (AV.c (C.d (D.v (Value.bool false))), []))) else (bif decide (SBay.sat x ≥ (0 : Int)) then (bif decide (SBay.sat x ≤ (16383 : Int)) then (bif decide
 (SBay.travel x ≥ (1 : Int)) then some (T.leaf (AV.c (C.d (D.v (Value.bool (decide (SBay.travel x ≤ (6 : Int)))))), [])) else some (T.leaf (AV.c (C.d (D.v (Value.bool false))), [])))
 else some (T.leaf (AV.c (C.d (D.v (Value.bool false))), []))) else some (T.leaf (AV.c (C.d (D.v (Value.bool false))), [])))))) else some (T.leaf (AV.c (C.d (D.v (Value.bool
 false))), [])))) else (bif decide (SBay.ct x ≥ (1 : Int)) then (bif !decide (SBay.ct x ≤ (100 : Int)) then some (T.leaf (AV.c (C.d (D.v (Value.bool false))), [])) else (bif
 SBay.kind x == (3 : Int) then (bif SBay.vt x != (0 : Int) then some (T.leaf (AV.c (C.d (D.v (Value.bool false))), [])) else (bif !SBay.kind x == (3 : Int) then (bif decide (SBay.vt
 x ≥ (1 : Int)) then (bif !decide (SBay.vt x ≤ (10000 : Int)) then some (T.leaf (AV.c (C.d (D.v (Value.bool false))), [])) else (bif decide (SBay.sat x ≥ (0 : Int)) then (bif decide
 (SBay.sat x ≤ (16383 : Int)) then (bif decide (SBay.travel x ≥ (1 : Int)) then some (T.leaf (AV.c (C.d (D.v (Value.bool (decide (SBay.travel x ≤ (6 : Int)))))), [])) else some
 (T.leaf (AV.c (C.d (D.v (Value.bool false))), []))) else some (T.leaf (AV.c (C.d (D.v (Value.bool false))), []))) else some (T.leaf (AV.c (C.d (D.v (Value.bool false))), [])))) else
 some (T.leaf (AV.c (C.d (D.v (Value.bool false))), []))) else (bif decide (SBay.sat x ≥ (0 : Int)) then (bif decide (SBay.sat x ≤ (16383 : Int)) then (bif decide (SBay.travel x ≥ (1
 : Int)) then some (T.leaf (AV.c (C.d (D.v (Value.bool (decide (SBay.travel x ≤ (6 : Int)))))), [])) else some (T.leaf (AV.c (C.d (D.v (Value.bool false))), []))) else some (T.leaf
 (AV.c (C.d (D.v (Value.bool false))), []))) else some (T.leaf (AV.c (C.d (D.v (Value.bool false))), []))))) else (bif !SBay.kind x == (3 : Int) then (bif decide (SBay.vt x ≥ (1 :
 Int)) then (bif !decide (SBay.vt x ≤ (10000 : Int)) then some (T.leaf (AV.c (C.d (D.v (Value.bool false))), [])) else (bif decide (SBay.sat x ≥ (0 : Int)) then (bif decide (SBay.sat
 x ≤ (16383 : Int)) then (bif decide (SBay.travel x ≥ (1 : Int)) then some (T.leaf (AV.c (C.d (D.v (Value.bool (decide (SBay.travel x ≤ (6 : Int)))))), [])) else some (T.leaf (AV.c
 (C.d (D.v (Value.bool false))), []))) else some (T.leaf (AV.c (C.d (D.v (Value.bool false))), []))) else some (T.leaf (AV.c (C.d (D.v (Value.bool false))), [])))) else some (T.leaf
 (AV.c (C.d (D.v (Value.bool false))), []))) else (bif decide (SBay.sat x ≥ (0 : Int)) then (bif decide (SBay.sat x ≤ (16383 : Int)) then (bif decide (SBay.travel x ≥ (1 : Int)) then
 some (T.leaf (AV.c (C.d (D.v (Value.bool (decide (SBay.travel x ≤ (6 : Int)))))), [])) else some (T.leaf (AV.c (C.d (D.v (Value.bool false))), []))) else some (T.leaf (AV.c (C.d
 (D.v (Value.bool false))), []))) else some (T.leaf (AV.c (C.d (D.v (Value.bool false))), [])))))) else some (T.leaf (AV.c (C.d (D.v (Value.bool false))), []))))) else some (T.leaf
 (AV.c (C.d (D.v (Value.bool false))), []))) else some (T.leaf (AV.c (C.d (D.v (Value.bool false))), []))) else some (T.leaf (AV.c (C.d (D.v (Value.bool false))), []))) else (bif
 !SBay.kind x == (3 : Int) then (bif !(SBay.zr x == (0 : Int) && (SBay.zx x == (0 : Int) && true)) then some (T.leaf (AV.c (C.d (D.v (Value.bool false))), [])) else (bif decide
 (SBay.ct x ≥ (1 : Int)) then (bif !decide (SBay.ct x ≤ (100 : Int)) then some (T.leaf (AV.c (C.d (D.v (Value.bool false))), [])) else (bif SBay.kind x == (3 : Int) then (bif SBay.vt
 x != (0 : Int) then some (T.leaf (AV.c (C.d (D.v (Value.bool false))), [])) else (bif !SBay.kind x == (3 : Int) then (bif decide (SBay.vt x ≥ (1 : Int)) then (bif !decide (SBay.vt x
 ≤ (10000 : Int)) then some (T.leaf (AV.c (C.d (D.v (Value.bool false))), [])) else (bif decide (SBay.sat x ≥ (0 : Int)) then (bif decide (SBay.sat x ≤ (16383 : Int)) then (bif
 decide (SBay.travel x ≥ (1 : Int)) then some (T.leaf (AV.c (C.d (D.v (Value.bool (decide (SBay.travel x ≤ (6 : Int)))))), [])) else some (T.leaf (AV.c (C.d (D.v (Value.bool
 false))), []))) else some (T.leaf (AV.c (C.d (D.v (Value.bool false))), []))) else some (T.leaf (AV.c (C.d (D.v (Value.bool false))), [])))) else some (T.leaf (AV.c (C.d (D.v
 (Value.bool false))), []))) else (bif decide (SBay.sat x ≥ (0 : Int)) then (bif decide (SBay.sat x ≤ (16383 : Int)) then (bif decide (SBay.travel x ≥ (1 : Int)) then some (T.leaf
 (AV.c (C.d (D.v (Value.bool (decide (SBay.travel x ≤ (6 : Int)))))), [])) else some (T.leaf (AV.c (C.d (D.v (Value.bool false))), []))) else some (T.leaf (AV.c (C.d (D.v (Value.bool
 false))), []))) else some (T.leaf (AV.c (C.d (D.v (Value.bool false))), []))))) else (bif !SBay.kind x == (3 : Int) then (bif decide (SBay.vt x ≥ (1 : Int)) then (bif !decide
 (SBay.vt x ≤ (10000 : Int)) then some (T.leaf (AV.c (C.d (D.v (Value.bool false))), [])) else (bif decide (SBay.sat x ≥ (0 : Int)) then (bif decide (SBay.sat x ≤ (16383 : Int)) then
 (bif decide (SBay.travel x ≥ (1 : Int)) then some (T.leaf (AV.c (C.d (D.v (Value.bool (decide (SBay.travel x ≤ (6 : Int)))))), [])) else some (T.leaf (AV.c (C.d (D.v (Value.bool
 false))), []))) else some (T.leaf (AV.c (C.d (D.v (Value.bool false))), []))) else some (T.leaf (AV.c (C.d (D.v (Value.bool false))), [])))) else some (T.leaf (AV.c (C.d (D.v
 (Value.bool false))), []))) else (bif decide (SBay.sat x ≥ (0 : Int)) then (bif decide (SBay.sat x ≤ (16383 : Int)) then (bif decide (SBay.travel x ≥ (1 : Int)) then some (T.leaf
 (AV.c (C.d (D.v (Value.bool (decide (SBay.travel x ≤ (6 : Int)))))), [])) else some (T.leaf (AV.c (C.d (D.v (Value.bool false))), []))) else some (T.leaf (AV.c (C.d (D.v (Value.bool
 false))), []))) else some (T.leaf (AV.c (C.d (D.v (Value.bool false))), [])))))) else some (T.leaf (AV.c (C.d (D.v (Value.bool false))), [])))) else (bif decide (SBay.ct x ≥ (1 :
 Int)) then (bif !decide (SBay.ct x ≤ (100 : Int)) then some (T.leaf (AV.c (C.d (D.v (Value.bool false))), [])) else (bif SBay.kind x == (3 : Int) then (bif SBay.vt x != (0 : Int)
 then some (T.leaf (AV.c (C.d (D.v (Value.bool false))), [])) else (bif !SBay.kind x == (3 : Int) then (bif decide (SBay.vt x ≥ (1 : Int)) then (bif !decide (SBay.vt x ≤ (10000 :
 Int)) then some (T.leaf (AV.c (C.d (D.v (Value.bool false))), [])) else (bif decide (SBay.sat x ≥ (0 : Int)) then (bif decide (SBay.sat x ≤ (16383 : Int)) then (bif decide
 (SBay.travel x ≥ (1 : Int)) then some (T.leaf (AV.c (C.d (D.v (Value.bool (decide (SBay.travel x ≤ (6 : Int)))))), [])) else some (T.leaf (AV.c (C.d (D.v (Value.bool false))), [])))
 else some (T.leaf (AV.c (C.d (D.v (Value.bool false))), []))) else some (T.leaf (AV.c (C.d (D.v (Value.bool false))), [])))) else some (T.leaf (AV.c (C.d (D.v (Value.bool false))),
 []))) else (bif decide (SBay.sat x ≥ (0 : Int)) then (bif decide (SBay.sat x ≤ (16383 : Int)) then (bif decide (SBay.travel x ≥ (1 : Int)) then some (T.leaf (AV.c (C.d (D.v
 (Value.bool (decide (SBay.travel x ≤ (6 : Int)))))), [])) else some (T.leaf (AV.c (C.d (D.v (Value.bool false))), []))) else some (T.leaf (AV.c (C.d (D.v (Value.bool false))), [])))
 else some (T.leaf (AV.c (C.d (D.v (Value.bool false))), []))))) else (bif !SBay.kind x == (3 : Int) then (bif decide (SBay.vt x ≥ (1 : Int)) then (bif !decide (SBay.vt x ≤ (10000 :
 Int)) then some (T.leaf (AV.c (C.d (D.v (Value.bool false))), [])) else (bif decide (SBay.sat x ≥ (0 : Int)) then (bif decide (SBay.sat x ≤ (16383 : Int)) then (bif decide
 (SBay.travel x ≥ (1 : Int)) then some (T.leaf (AV.c (C.d (D.v (Value.bool (decide (SBay.travel x ≤ (6 : Int)))))), [])) else some (T.leaf (AV.c (C.d (D.v (Value.bool false))), [])))
 else some (T.leaf (AV.c (C.d (D.v (Value.bool false))), []))) else some (T.leaf (AV.c (C.d (D.v (Value.bool false))), [])))) else some (T.leaf (AV.c (C.d (D.v (Value.bool false))),
 []))) else (bif decide (SBay.sat x ≥ (0 : Int)) then (bif decide (SBay.sat x ≤ (16383 : Int)) then (bif decide (SBay.travel x ≥ (1 : Int)) then some (T.leaf (AV.c (C.d (D.v
 (Value.bool (decide (SBay.travel x ≤ (6 : Int)))))), [])) else some (T.leaf (AV.c (C.d (D.v (Value.bool false))), []))) else some (T.leaf (AV.c (C.d (D.v (Value.bool false))), [])))
 else some (T.leaf (AV.c (C.d (D.v (Value.bool false))), [])))))) else some (T.leaf (AV.c (C.d (D.v (Value.bool false))), [])))))) else (bif SBay.kind x == (3 : Int) then (bif decide
 (SBay.zr x ≥ (0 : Int)) then (bif decide (SBay.zr x ≤ (1000 : Int)) then (bif decide (SBay.zx x ≥ (1 : Int)) then (bif !decide (SBay.zx x ≤ (1000 : Int)) then some (T.leaf (AV.c
 (C.d (D.v (Value.bool false))), [])) else (bif !SBay.kind x == (3 : Int) then (bif !(SBay.zr x == (0 : Int) && (SBay.zx x == (0 : Int) && true)) then some (T.leaf (AV.c (C.d (D.v
 (Value.bool false))), [])) else (bif decide (SBay.ct x ≥ (1 : Int)) then (bif !decide (SBay.ct x ≤ (100 : Int)) then some (T.leaf (AV.c (C.d (D.v (Value.bool false))), [])) else
 (bif SBay.kind x == (3 : Int) then (bif SBay.vt x != (0 : Int) then some (T.leaf (AV.c (C.d (D.v (Value.bool false))), [])) else (bif !SBay.kind x == (3 : Int) then (bif decide
 (SBay.vt x ≥ (1 : Int)) then (bif !decide (SBay.vt x ≤ (10000 : Int)) then some (T.leaf (AV.c (C.d (D.v (Value.bool false))), [])) else (bif decide (SBay.sat x ≥ (0 : Int)) then
 (bif decide (SBay.sat x ≤ (16383 : Int)) then (bif decide (SBay.travel x ≥ (1 : Int)) then some (T.leaf (AV.c (C.d (D.v (Value.bool (decide (SBay.travel x ≤ (6 : Int)))))), []))
 else some (T.leaf (AV.c (C.d (D.v (Value.bool false))), []))) else some (T.leaf (AV.c (C.d (D.v (Value.bool false))), []))) else some (T.leaf (AV.c (C.d (D.v (Value.bool false))),
 [])))) else some (T.leaf (AV.c (C.d (D.v (Value.bool false))), []))) else (bif decide (SBay.sat x ≥ (0 : Int)) then (bif decide (SBay.sat x ≤ (16383 : Int)) then (bif decide
 (SBay.travel x ≥ (1 : Int)) then some (T.leaf (AV.c (C.d (D.v (Value.bool (decide (SBay.travel x ≤ (6 : Int)))))), [])) else some (T.leaf (AV.c (C.d (D.v (Value.bool false))), [])))
 else some (T.leaf (AV.c (C.d (D.v (Value.bool false))), []))) else some (T.leaf (AV.c (C.d (D.v (Value.bool false))), []))))) else (bif !SBay.kind x == (3 : Int) then (bif decide
 (SBay.vt x ≥ (1 : Int)) then (bif !decide (SBay.vt x ≤ (10000 : Int)) then some (T.leaf (AV.c (C.d (D.v (Value.bool false))), [])) else (bif decide (SBay.sat x ≥ (0 : Int)) then
 (bif decide (SBay.sat x ≤ (16383 : Int)) then (bif decide (SBay.travel x ≥ (1 : Int)) then some (T.leaf (AV.c (C.d (D.v (Value.bool (decide (SBay.travel x ≤ (6 : Int)))))), []))
 else some (T.leaf (AV.c (C.d (D.v (Value.bool false))), []))) else some (T.leaf (AV.c (C.d (D.v (Value.bool false))), []))) else some (T.leaf (AV.c (C.d (D.v (Value.bool false))),
 [])))) else some (T.leaf (AV.c (C.d (D.v (Value.bool false))), []))) else (bif decide (SBay.sat x ≥ (0 : Int)) then (bif decide (SBay.sat x ≤ (16383 : Int)) then (bif decide
 (SBay.travel x ≥ (1 : Int)) then some (T.leaf (AV.c (C.d (D.v (Value.bool (decide (SBay.travel x ≤ (6 : Int)))))), [])) else some (T.leaf (AV.c (C.d (D.v (Value.bool false))), [])))
 else some (T.leaf (AV.c (C.d (D.v (Value.bool false))), []))) else some (T.leaf (AV.c (C.d (D.v (Value.bool false))), [])))))) else some (T.leaf (AV.c (C.d (D.v (Value.bool
 false))), [])))) else (bif decide (SBay.ct x ≥ (1 : Int)) then (bif !decide (SBay.ct x ≤ (100 : Int)) then some (T.leaf (AV.c (C.d (D.v (Value.bool false))), [])) else (bif
 SBay.kind x == (3 : Int) then (bif SBay.vt x != (0 : Int) then some (T.leaf (AV.c (C.d (D.v (Value.bool false))), [])) else (bif !SBay.kind x == (3 : Int) then (bif decide (SBay.vt
 x ≥ (1 : Int)) then (bif !decide (SBay.vt x ≤ (10000 : Int)) then some (T.leaf (AV.c (C.d (D.v (Value.bool false))), [])) else (bif decide (SBay.sat x ≥ (0 : Int)) then (bif decide
 (SBay.sat x ≤ (16383 : Int)) then (bif decide (SBay.travel x ≥ (1 : Int)) then some (T.leaf (AV.c (C.d (D.v (Value.bool (decide (SBay.travel x ≤ (6 : Int)))))), [])) else some
 (T.leaf (AV.c (C.d (D.v (Value.bool false))), []))) else some (T.leaf (AV.c (C.d (D.v (Value.bool false))), []))) else some (T.leaf (AV.c (C.d (D.v (Value.bool false))), [])))) else
 some (T.leaf (AV.c (C.d (D.v (Value.bool false))), []))) else (bif decide (SBay.sat x ≥ (0 : Int)) then (bif decide (SBay.sat x ≤ (16383 : Int)) then (bif decide (SBay.travel x ≥ (1
 : Int)) then some (T.leaf (AV.c (C.d (D.v (Value.bool (decide (SBay.travel x ≤ (6 : Int)))))), [])) else some (T.leaf (AV.c (C.d (D.v (Value.bool false))), []))) else some (T.leaf
 (AV.c (C.d (D.v (Value.bool false))), []))) else some (T.leaf (AV.c (C.d (D.v (Value.bool false))), []))))) else (bif !SBay.kind x == (3 : Int) then (bif decide (SBay.vt x ≥ (1 :
 Int)) then (bif !decide (SBay.vt x ≤ (10000 : Int)) then some (T.leaf (AV.c (C.d (D.v (Value.bool false))), [])) else (bif decide (SBay.sat x ≥ (0 : Int)) then (bif decide (SBay.sat
 x ≤ (16383 : Int)) then (bif decide (SBay.travel x ≥ (1 : Int)) then some (T.leaf (AV.c (C.d (D.v (Value.bool (decide (SBay.travel x ≤ (6 : Int)))))), [])) else some (T.leaf (AV.c
 (C.d (D.v (Value.bool false))), []))) else some (T.leaf (AV.c (C.d (D.v (Value.bool false))), []))) else some (T.leaf (AV.c (C.d (D.v (Value.bool false))), [])))) else some (T.leaf
 (AV.c (C.d (D.v (Value.bool false))), []))) else (bif decide (SBay.sat x ≥ (0 : Int)) then (bif decide (SBay.sat x ≤ (16383 : Int)) then (bif decide (SBay.travel x ≥ (1 : Int)) then
 some (T.leaf (AV.c (C.d (D.v (Value.bool (decide (SBay.travel x ≤ (6 : Int)))))), [])) else some (T.leaf (AV.c (C.d (D.v (Value.bool false))), []))) else some (T.leaf (AV.c (C.d
 (D.v (Value.bool false))), []))) else some (T.leaf (AV.c (C.d (D.v (Value.bool false))), [])))))) else some (T.leaf (AV.c (C.d (D.v (Value.bool false))), []))))) else some (T.leaf
 (AV.c (C.d (D.v (Value.bool false))), []))) else some (T.leaf (AV.c (C.d (D.v (Value.bool false))), []))) else some (T.leaf (AV.c (C.d (D.v (Value.bool false))), []))) else (bif
 !SBay.kind x == (3 : Int) then (bif !(SBay.zr x == (0 : Int) && (SBay.zx x == (0 : Int) && true)) then some (T.leaf (AV.c (C.d (D.v (Value.bool false))), [])) else (bif decide
 (SBay.ct x ≥ (1 : Int)) then (bif !decide (SBay.ct x ≤ (100 : Int)) then some (T.leaf (AV.c (C.d (D.v (Value.bool false))), [])) else (bif SBay.kind x == (3 : Int) then (bif SBay.vt
 x != (0 : Int) then some (T.leaf (AV.c (C.d (D.v (Value.bool false))), [])) else (bif !SBay.kind x == (3 : Int) then (bif decide (SBay.vt x ≥ (1 : Int)) then (bif !decide (SBay.vt x
 ≤ (10000 : Int)) then some (T.leaf (AV.c (C.d (D.v (Value.bool false))), [])) else (bif decide (SBay.sat x ≥ (0 : Int)) then (bif decide (SBay.sat x ≤ (16383 : Int)) then (bif
 decide (SBay.travel x ≥ (1 : Int)) then some (T.leaf (AV.c (C.d (D.v (Value.bool (decide (SBay.travel x ≤ (6 : Int)))))), [])) else some (T.leaf (AV.c (C.d (D.v (Value.bool
 false))), []))) else some (T.leaf (AV.c (C.d (D.v (Value.bool false))), []))) else some (T.leaf (AV.c (C.d (D.v (Value.bool false))), [])))) else some (T.leaf (AV.c (C.d (D.v
 (Value.bool false))), []))) else (bif decide (SBay.sat x ≥ (0 : Int)) then (bif decide (SBay.sat x ≤ (16383 : Int)) then (bif decide (SBay.travel x ≥ (1 : Int)) then some (T.leaf
 (AV.c (C.d (D.v (Value.bool (decide (SBay.travel x ≤ (6 : Int)))))), [])) else some (T.leaf (AV.c (C.d (D.v (Value.bool false))), []))) else some (T.leaf (AV.c (C.d (D.v (Value.bool
 false))), []))) else some (T.leaf (AV.c (C.d (D.v (Value.bool false))), []))))) else (bif !SBay.kind x == (3 : Int) then (bif decide (SBay.vt x ≥ (1 : Int)) then (bif !decide
 (SBay.vt x ≤ (10000 : Int)) then some (T.leaf (AV.c (C.d (D.v (Value.bool false))), [])) else (bif decide (SBay.sat x ≥ (0 : Int)) then (bif decide (SBay.sat x ≤ (16383 : Int)) then
 (bif decide (SBay.travel x ≥ (1 : Int)) then some (T.leaf (AV.c (C.d (D.v (Value.bool (decide (SBay.travel x ≤ (6 : Int)))))), [])) else some (T.leaf (AV.c (C.d (D.v (Value.bool
 false))), []))) else some (T.leaf (AV.c (C.d (D.v (Value.bool false))), []))) else some (T.leaf (AV.c (C.d (D.v (Value.bool false))), [])))) else some (T.leaf (AV.c (C.d (D.v
 (Value.bool false))), []))) else (bif decide (SBay.sat x ≥ (0 : Int)) then (bif decide (SBay.sat x ≤ (16383 : Int)) then (bif decide (SBay.travel x ≥ (1 : Int)) then some (T.leaf
 (AV.c (C.d (D.v (Value.bool (decide (SBay.travel x ≤ (6 : Int)))))), [])) else some (T.leaf (AV.c (C.d (D.v (Value.bool false))), []))) else some (T.leaf (AV.c (C.d (D.v (Value.bool
 false))), []))) else some (T.leaf (AV.c (C.d (D.v (Value.bool false))), [])))))) else some (T.leaf (AV.c (C.d (D.v (Value.bool false))), [])))) else (bif decide (SBay.ct x ≥ (1 :
 Int)) then (bif !decide (SBay.ct x ≤ (100 : Int)) then some (T.leaf (AV.c (C.d (D.v (Value.bool false))), [])) else (bif SBay.kind x == (3 : Int) then (bif SBay.vt x != (0 : Int)
 then some (T.leaf (AV.c (C.d (D.v (Value.bool false))), [])) else (bif !SBay.kind x == (3 : Int) then (bif decide (SBay.vt x ≥ (1 : Int)) then (bif !decide (SBay.vt x ≤ (10000 :
 Int)) then some (T.leaf (AV.c (C.d (D.v (Value.bool false))), [])) else (bif decide (SBay.sat x ≥ (0 : Int)) then (bif decide (SBay.sat x ≤ (16383 : Int)) then (bif decide
 (SBay.travel x ≥ (1 : Int)) then some (T.leaf (AV.c (C.d (D.v (Value.bool (decide (SBay.travel x ≤ (6 : Int)))))), [])) else some (T.leaf (AV.c (C.d (D.v (Value.bool false))), [])))
 else some (T.leaf (AV.c (C.d (D.v (Value.bool false))), []))) else some (T.leaf (AV.c (C.d (D.v (Value.bool false))), [])))) else some (T.leaf (AV.c (C.d (D.v (Value.bool false))),
 []))) else (bif decide (SBay.sat x ≥ (0 : Int)) then (bif decide (SBay.sat x ≤ (16383 : Int)) then (bif decide (SBay.travel x ≥ (1 : Int)) then some (T.leaf (AV.c (C.d (D.v
 (Value.bool (decide (SBay.travel x ≤ (6 : Int)))))), [])) else some (T.leaf (AV.c (C.d (D.v (Value.bool false))), []))) else some (T.leaf (AV.c (C.d (D.v (Value.bool false))), [])))
 else some (T.leaf (AV.c (C.d (D.v (Value.bool false))), []))))) else (bif !SBay.kind x == (3 : Int) then (bif decide (SBay.vt x ≥ (1 : Int)) then (bif !decide (SBay.vt x ≤ (10000 :
 Int)) then some (T.leaf (AV.c (C.d (D.v (Value.bool false))), [])) else (bif decide (SBay.sat x ≥ (0 : Int)) then (bif decide (SBay.sat x ≤ (16383 : Int)) then (bif decide
 (SBay.travel x ≥ (1 : Int)) then some (T.leaf (AV.c (C.d (D.v (Value.bool (decide (SBay.travel x ≤ (6 : Int)))))), [])) else some (T.leaf (AV.c (C.d (D.v (Value.bool false))), [])))
 else some (T.leaf (AV.c (C.d (D.v (Value.bool false))), []))) else some (T.leaf (AV.c (C.d (D.v (Value.bool false))), [])))) else some (T.leaf (AV.c (C.d (D.v (Value.bool false))),
 []))) else (bif decide (SBay.sat x ≥ (0 : Int)) then (bif decide (SBay.sat x ≤ (16383 : Int)) then (bif decide (SBay.travel x ≥ (1 : Int)) then some (T.leaf (AV.c (C.d (D.v
 (Value.bool (decide (SBay.travel x ≤ (6 : Int)))))), [])) else some (T.leaf (AV.c (C.d (D.v (Value.bool false))), []))) else some (T.leaf (AV.c (C.d (D.v (Value.bool false))), [])))
 else some (T.leaf (AV.c (C.d (D.v (Value.bool false))), [])))))) else some (T.leaf (AV.c (C.d (D.v (Value.bool false))), []))))))) else some (T.leaf (AV.c (C.d (D.v (Value.bool
 false))), []))) else (bif !SBay.kind x == (1 : Int) then (bif SBay.fin x != (0 : Int) then some (T.leaf (AV.c (C.d (D.v (Value.bool false))), [])) else (bif SBay.kind x == (3 : Int)
 then (bif decide (SBay.zr x ≥ (0 : Int)) then (bif decide (SBay.zr x ≤ (1000 : Int)) then (bif decide (SBay.zx x ≥ (1 : Int)) then (bif !decide (SBay.zx x ≤ (1000 : Int)) then some
 (T.leaf (AV.c (C.d (D.v (Value.bool false))), [])) else (bif !SBay.kind x == (3 : Int) then (bif !(SBay.zr x == (0 : Int) && (SBay.zx x == (0 : Int) && true)) then some (T.leaf
 (AV.c (C.d (D.v (Value.bool false))), [])) else (bif decide (SBay.ct x ≥ (1 : Int)) then (bif !decide (SBay.ct x ≤ (100 : Int)) then some (T.leaf (AV.c (C.d (D.v (Value.bool
 false))), [])) else (bif SBay.kind x == (3 : Int) then (bif SBay.vt x != (0 : Int) then some (T.leaf (AV.c (C.d (D.v (Value.bool false))), [])) else (bif !SBay.kind x == (3 : Int)
 then (bif decide (SBay.vt x ≥ (1 : Int)) then (bif !decide (SBay.vt x ≤ (10000 : Int)) then some (T.leaf (AV.c (C.d (D.v (Value.bool false))), [])) else (bif decide (SBay.sat x ≥ (0
 : Int)) then (bif decide (SBay.sat x ≤ (16383 : Int)) then (bif decide (SBay.travel x ≥ (1 : Int)) then some (T.leaf (AV.c (C.d (D.v (Value.bool (decide (SBay.travel x ≤ (6 :
 Int)))))), [])) else some (T.leaf (AV.c (C.d (D.v (Value.bool false))), []))) else some (T.leaf (AV.c (C.d (D.v (Value.bool false))), []))) else some (T.leaf (AV.c (C.d (D.v
 (Value.bool false))), [])))) else some (T.leaf (AV.c (C.d (D.v (Value.bool false))), []))) else (bif decide (SBay.sat x ≥ (0 : Int)) then (bif decide (SBay.sat x ≤ (16383 : Int))
 then (bif decide (SBay.travel x ≥ (1 : Int)) then some (T.leaf (AV.c (C.d (D.v (Value.bool (decide (SBay.travel x ≤ (6 : Int)))))), [])) else some (T.leaf (AV.c (C.d (D.v
 (Value.bool false))), []))) else some (T.leaf (AV.c (C.d (D.v (Value.bool false))), []))) else some (T.leaf (AV.c (C.d (D.v (Value.bool false))), []))))) else (bif !SBay.kind x ==
 (3 : Int) then (bif decide (SBay.vt x ≥ (1 : Int)) then (bif !decide (SBay.vt x ≤ (10000 : Int)) then some (T.leaf (AV.c (C.d (D.v (Value.bool false))), [])) else (bif decide
 (SBay.sat x ≥ (0 : Int)) then (bif decide (SBay.sat x ≤ (16383 : Int)) then (bif decide (SBay.travel x ≥ (1 : Int)) then some (T.leaf (AV.c (C.d (D.v (Value.bool (decide
 (SBay.travel x ≤ (6 : Int)))))), [])) else some (T.leaf (AV.c (C.d (D.v (Value.bool false))), []))) else some (T.leaf (AV.c (C.d (D.v (Value.bool false))), []))) else some (T.leaf
 (AV.c (C.d (D.v (Value.bool false))), [])))) else some (T.leaf (AV.c (C.d (D.v (Value.bool false))), []))) else (bif decide (SBay.sat x ≥ (0 : Int)) then (bif decide (SBay.sat x ≤
 (16383 : Int)) then (bif decide (SBay.travel x ≥ (1 : Int)) then some (T.leaf (AV.c (C.d (D.v (Value.bool (decide (SBay.travel x ≤ (6 : Int)))))), [])) else some (T.leaf (AV.c (C.d
 (D.v (Value.bool false))), []))) else some (T.leaf (AV.c (C.d (D.v (Value.bool false))), []))) else some (T.leaf (AV.c (C.d (D.v (Value.bool false))), [])))))) else some (T.leaf
 (AV.c (C.d (D.v (Value.bool false))), [])))) else (bif decide (SBay.ct x ≥ (1 : Int)) then (bif !decide (SBay.ct x ≤ (100 : Int)) then some (T.leaf (AV.c (C.d (D.v (Value.bool
 false))), [])) else (bif SBay.kind x == (3 : Int) then (bif SBay.vt x != (0 : Int) then some (T.leaf (AV.c (C.d (D.v (Value.bool false))), [])) else (bif !SBay.kind x == (3 : Int)
 then (bif decide (SBay.vt x ≥ (1 : Int)) then (bif !decide (SBay.vt x ≤ (10000 : Int)) then some (T.leaf (AV.c (C.d (D.v (Value.bool false))), [])) else (bif decide (SBay.sat x ≥ (0
 : Int)) then (bif decide (SBay.sat x ≤ (16383 : Int)) then (bif decide (SBay.travel x ≥ (1 : Int)) then some (T.leaf (AV.c (C.d (D.v (Value.bool (decide (SBay.travel x ≤ (6 :
 Int)))))), [])) else some (T.leaf (AV.c (C.d (D.v (Value.bool false))), []))) else some (T.leaf (AV.c (C.d (D.v (Value.bool false))), []))) else some (T.leaf (AV.c (C.d (D.v
 (Value.bool false))), [])))) else some (T.leaf (AV.c (C.d (D.v (Value.bool false))), []))) else (bif decide (SBay.sat x ≥ (0 : Int)) then (bif decide (SBay.sat x ≤ (16383 : Int))
 then (bif decide (SBay.travel x ≥ (1 : Int)) then some (T.leaf (AV.c (C.d (D.v (Value.bool (decide (SBay.travel x ≤ (6 : Int)))))), [])) else some (T.leaf (AV.c (C.d (D.v
 (Value.bool false))), []))) else some (T.leaf (AV.c (C.d (D.v (Value.bool false))), []))) else some (T.leaf (AV.c (C.d (D.v (Value.bool false))), []))))) else (bif !SBay.kind x ==
 (3 : Int) then (bif decide (SBay.vt x ≥ (1 : Int)) then (bif !decide (SBay.vt x ≤ (10000 : Int)) then some (T.leaf (AV.c (C.d (D.v (Value.bool false))), [])) else (bif decide
 (SBay.sat x ≥ (0 : Int)) then (bif decide (SBay.sat x ≤ (16383 : Int)) then (bif decide (SBay.travel x ≥ (1 : Int)) then some (T.leaf (AV.c (C.d (D.v (Value.bool (decide
 (SBay.travel x ≤ (6 : Int)))))), [])) else some (T.leaf (AV.c (C.d (D.v (Value.bool false))), []))) else some (T.leaf (AV.c (C.d (D.v (Value.bool false))), []))) else some (T.leaf
 (AV.c (C.d (D.v (Value.bool false))), [])))) else some (T.leaf (AV.c (C.d (D.v (Value.bool false))), []))) else (bif decide (SBay.sat x ≥ (0 : Int)) then (bif decide (SBay.sat x ≤
 (16383 : Int)) then (bif decide (SBay.travel x ≥ (1 : Int)) then some (T.leaf (AV.c (C.d (D.v (Value.bool (decide (SBay.travel x ≤ (6 : Int)))))), [])) else some (T.leaf (AV.c (C.d
 (D.v (Value.bool false))), []))) else some (T.leaf (AV.c (C.d (D.v (Value.bool false))), []))) else some (T.leaf (AV.c (C.d (D.v (Value.bool false))), [])))))) else some (T.leaf
 (AV.c (C.d (D.v (Value.bool false))), []))))) else some (T.leaf (AV.c (C.d (D.v (Value.bool false))), []))) else some (T.leaf (AV.c (C.d (D.v (Value.bool false))), []))) else some
 (T.leaf (AV.c (C.d (D.v (Value.bool false))), []))) else (bif !SBay.kind x == (3 : Int) then (bif !(SBay.zr x == (0 : Int) && (SBay.zx x == (0 : Int) && true)) then some (T.leaf
 (AV.c (C.d (D.v (Value.bool false))), [])) else (bif decide (SBay.ct x ≥ (1 : Int)) then (bif !decide (SBay.ct x ≤ (100 : Int)) then some (T.leaf (AV.c (C.d (D.v (Value.bool
 false))), [])) else (bif SBay.kind x == (3 : Int) then (bif SBay.vt x != (0 : Int) then some (T.leaf (AV.c (C.d (D.v (Value.bool false))), [])) else (bif !SBay.kind x == (3 : Int)
 then (bif decide (SBay.vt x ≥ (1 : Int)) then (bif !decide (SBay.vt x ≤ (10000 : Int)) then some (T.leaf (AV.c (C.d (D.v (Value.bool false))), [])) else (bif decide (SBay.sat x ≥ (0
 : Int)) then (bif decide (SBay.sat x ≤ (16383 : Int)) then (bif decide (SBay.travel x ≥ (1 : Int)) then some (T.leaf (AV.c (C.d (D.v (Value.bool (decide (SBay.travel x ≤ (6 :
 Int)))))), [])) else some (T.leaf (AV.c (C.d (D.v (Value.bool false))), []))) else some (T.leaf (AV.c (C.d (D.v (Value.bool false))), []))) else some (T.leaf (AV.c (C.d (D.v
 (Value.bool false))), [])))) else some (T.leaf (AV.c (C.d (D.v (Value.bool false))), []))) else (bif decide (SBay.sat x ≥ (0 : Int)) then (bif decide (SBay.sat x ≤ (16383 : Int))
 then (bif decide (SBay.travel x ≥ (1 : Int)) then some (T.leaf (AV.c (C.d (D.v (Value.bool (decide (SBay.travel x ≤ (6 : Int)))))), [])) else some (T.leaf (AV.c (C.d (D.v
 (Value.bool false))), []))) else some (T.leaf (AV.c (C.d (D.v (Value.bool false))), []))) else some (T.leaf (AV.c (C.d (D.v (Value.bool false))), []))))) else (bif !SBay.kind x ==
 (3 : Int) then (bif decide (SBay.vt x ≥ (1 : Int)) then (bif !decide (SBay.vt x ≤ (10000 : Int)) then some (T.leaf (AV.c (C.d (D.v (Value.bool false))), [])) else (bif decide
 (SBay.sat x ≥ (0 : Int)) then (bif decide (SBay.sat x ≤ (16383 : Int)) then (bif decide (SBay.travel x ≥ (1 : Int)) then some (T.leaf (AV.c (C.d (D.v (Value.bool (decide
 (SBay.travel x ≤ (6 : Int)))))), [])) else some (T.leaf (AV.c (C.d (D.v (Value.bool false))), []))) else some (T.leaf (AV.c (C.d (D.v (Value.bool false))), []))) else some (T.leaf
 (AV.c (C.d (D.v (Value.bool false))), [])))) else some (T.leaf (AV.c (C.d (D.v (Value.bool false))), []))) else (bif decide (SBay.sat x ≥ (0 : Int)) then (bif decide (SBay.sat x ≤
 (16383 : Int)) then (bif decide (SBay.travel x ≥ (1 : Int)) then some (T.leaf (AV.c (C.d (D.v (Value.bool (decide (SBay.travel x ≤ (6 : Int)))))), [])) else some (T.leaf (AV.c (C.d
 (D.v (Value.bool false))), []))) else some (T.leaf (AV.c (C.d (D.v (Value.bool false))), []))) else some (T.leaf (AV.c (C.d (D.v (Value.bool false))), [])))))) else some (T.leaf
 (AV.c (C.d (D.v (Value.bool false))), [])))) else (bif decide (SBay.ct x ≥ (1 : Int)) then (bif !decide (SBay.ct x ≤ (100 : Int)) then some (T.leaf (AV.c (C.d (D.v (Value.bool
 false))), [])) else (bif SBay.kind x == (3 : Int) then (bif SBay.vt x != (0 : Int) then some (T.leaf (AV.c (C.d (D.v (Value.bool false))), [])) else (bif !SBay.kind x == (3 : Int)
 then (bif decide (SBay.vt x ≥ (1 : Int)) then (bif !decide (SBay.vt x ≤ (10000 : Int)) then some (T.leaf (AV.c (C.d (D.v (Value.bool false))), [])) else (bif decide (SBay.sat x ≥ (0
 : Int)) then (bif decide (SBay.sat x ≤ (16383 : Int)) then (bif decide (SBay.travel x ≥ (1 : Int)) then some (T.leaf (AV.c (C.d (D.v (Value.bool (decide (SBay.travel x ≤ (6 :
 Int)))))), [])) else some (T.leaf (AV.c (C.d (D.v (Value.bool false))), []))) else some (T.leaf (AV.c (C.d (D.v (Value.bool false))), []))) else some (T.leaf (AV.c (C.d (D.v
 (Value.bool false))), [])))) else some (T.leaf (AV.c (C.d (D.v (Value.bool false))), []))) else (bif decide (SBay.sat x ≥ (0 : Int)) then (bif decide (SBay.sat x ≤ (16383 : Int))
 then (bif decide (SBay.travel x ≥ (1 : Int)) then some (T.leaf (AV.c (C.d (D.v (Value.bool (decide (SBay.travel x ≤ (6 : Int)))))), [])) else some (T.leaf (AV.c (C.d (D.v
 (Value.bool false))), []))) else some (T.leaf (AV.c (C.d (D.v (Value.bool false))), []))) else some (T.leaf (AV.c (C.d (D.v (Value.bool false))), []))))) else (bif !SBay.kind x ==
 (3 : Int) then (bif decide (SBay.vt x ≥ (1 : Int)) then (bif !decide (SBay.vt x ≤ (10000 : Int)) then some (T.leaf (AV.c (C.d (D.v (Value.bool false))), [])) else (bif decide
 (SBay.sat x ≥ (0 : Int)) then (bif decide (SBay.sat x ≤ (16383 : Int)) then (bif decide (SBay.travel x ≥ (1 : Int)) then some (T.leaf (AV.c (C.d (D.v (Value.bool (decide
 (SBay.travel x ≤ (6 : Int)))))), [])) else some (T.leaf (AV.c (C.d (D.v (Value.bool false))), []))) else some (T.leaf (AV.c (C.d (D.v (Value.bool false))), []))) else some (T.leaf
 (AV.c (C.d (D.v (Value.bool false))), [])))) else some (T.leaf (AV.c (C.d (D.v (Value.bool false))), []))) else (bif decide (SBay.sat x ≥ (0 : Int)) then (bif decide (SBay.sat x ≤
 (16383 : Int)) then (bif decide (SBay.travel x ≥ (1 : Int)) then some (T.leaf (AV.c (C.d (D.v (Value.bool (decide (SBay.travel x ≤ (6 : Int)))))), [])) else some (T.leaf (AV.c (C.d
 (D.v (Value.bool false))), []))) else some (T.leaf (AV.c (C.d (D.v (Value.bool false))), []))) else some (T.leaf (AV.c (C.d (D.v (Value.bool false))), [])))))) else some (T.leaf
 (AV.c (C.d (D.v (Value.bool false))), [])))))) else (bif SBay.kind x == (3 : Int) then (bif decide (SBay.zr x ≥ (0 : Int)) then (bif decide (SBay.zr x ≤ (1000 : Int)) then (bif
 decide (SBay.zx x ≥ (1 : Int)) then (bif !decide (SBay.zx x ≤ (1000 : Int)) then some (T.leaf (AV.c (C.d (D.v (Value.bool false))), [])) else (bif !SBay.kind x == (3 : Int) then
 (bif !(SBay.zr x == (0 : Int) && (SBay.zx x == (0 : Int) && true)) then some (T.leaf (AV.c (C.d (D.v (Value.bool false))), [])) else (bif decide (SBay.ct x ≥ (1 : Int)) then (bif
 !decide (SBay.ct x ≤ (100 : Int)) then some (T.leaf (AV.c (C.d (D.v (Value.bool false))), [])) else (bif SBay.kind x == (3 : Int) then (bif SBay.vt x != (0 : Int) then some (T.leaf
 (AV.c (C.d (D.v (Value.bool false))), [])) else (bif !SBay.kind x == (3 : Int) then (bif decide (SBay.vt x ≥ (1 : Int)) then (bif !decide (SBay.vt x ≤ (10000 : Int)) then some
 (T.leaf (AV.c (C.d (D.v (Value.bool false))), [])) else (bif decide (SBay.sat x ≥ (0 : Int)) then (bif decide (SBay.sat x ≤ (16383 : Int)) then (bif decide (SBay.travel x ≥ (1 :
 Int)) then some (T.leaf (AV.c (C.d (D.v (Value.bool (decide (SBay.travel x ≤ (6 : Int)))))), [])) else some (T.leaf (AV.c (C.d (D.v (Value.bool false))), []))) else some (T.leaf
 (AV.c (C.d (D.v (Value.bool false))), []))) else some (T.leaf (AV.c (C.d (D.v (Value.bool false))), [])))) else some (T.leaf (AV.c (C.d (D.v (Value.bool false))), []))) else (bif
 decide (SBay.sat x ≥ (0 : Int)) then (bif decide (SBay.sat x ≤ (16383 : Int)) then (bif decide (SBay.travel x ≥ (1 : Int)) then some (T.leaf (AV.c (C.d (D.v (Value.bool (decide
 (SBay.travel x ≤ (6 : Int)))))), [])) else some (T.leaf (AV.c (C.d (D.v (Value.bool false))), []))) else some (T.leaf (AV.c (C.d (D.v (Value.bool false))), []))) else some (T.leaf
 (AV.c (C.d (D.v (Value.bool false))), []))))) else (bif !SBay.kind x == (3 : Int) then (bif decide (SBay.vt x ≥ (1 : Int)) then (bif !decide (SBay.vt x ≤ (10000 : Int)) then some
 (T.leaf (AV.c (C.d (D.v (Value.bool false))), [])) else (bif decide (SBay.sat x ≥ (0 : Int)) then (bif decide (SBay.sat x ≤ (16383 : Int)) then (bif decide (SBay.travel x ≥ (1 :
 Int)) then some (T.leaf (AV.c (C.d (D.v (Value.bool (decide (SBay.travel x ≤ (6 : Int)))))), [])) else some (T.leaf (AV.c (C.d (D.v (Value.bool false))), []))) else some (T.leaf
 (AV.c (C.d (D.v (Value.bool false))), []))) else some (T.leaf (AV.c (C.d (D.v (Value.bool false))), [])))) else some (T.leaf (AV.c (C.d (D.v (Value.bool false))), []))) else (bif
 decide (SBay.sat x ≥ (0 : Int)) then (bif decide (SBay.sat x ≤ (16383 : Int)) then (bif decide (SBay.travel x ≥ (1 : Int)) then some (T.leaf (AV.c (C.d (D.v (Value.bool (decide
 (SBay.travel x ≤ (6 : Int)))))), [])) else some (T.leaf (AV.c (C.d (D.v (Value.bool false))), []))) else some (T.leaf (AV.c (C.d (D.v (Value.bool false))), []))) else some (T.leaf
 (AV.c (C.d (D.v (Value.bool false))), [])))))) else some (T.leaf (AV.c (C.d (D.v (Value.bool false))), [])))) else (bif decide (SBay.ct x ≥ (1 : Int)) then (bif !decide (SBay.ct x ≤
 (100 : Int)) then some (T.leaf (AV.c (C.d (D.v (Value.bool false))), [])) else (bif SBay.kind x == (3 : Int) then (bif SBay.vt x != (0 : Int) then some (T.leaf (AV.c (C.d (D.v
 (Value.bool false))), [])) else (bif !SBay.kind x == (3 : Int) then (bif decide (SBay.vt x ≥ (1 : Int)) then (bif !decide (SBay.vt x ≤ (10000 : Int)) then some (T.leaf (AV.c (C.d
 (D.v (Value.bool false))), [])) else (bif decide (SBay.sat x ≥ (0 : Int)) then (bif decide (SBay.sat x ≤ (16383 : Int)) then (bif decide (SBay.travel x ≥ (1 : Int)) then some
 (T.leaf (AV.c (C.d (D.v (Value.bool (decide (SBay.travel x ≤ (6 : Int)))))), [])) else some (T.leaf (AV.c (C.d (D.v (Value.bool false))), []))) else some (T.leaf (AV.c (C.d (D.v
 (Value.bool false))), []))) else some (T.leaf (AV.c (C.d (D.v (Value.bool false))), [])))) else some (T.leaf (AV.c (C.d (D.v (Value.bool false))), []))) else (bif decide (SBay.sat x
 ≥ (0 : Int)) then (bif decide (SBay.sat x ≤ (16383 : Int)) then (bif decide (SBay.travel x ≥ (1 : Int)) then some (T.leaf (AV.c (C.d (D.v (Value.bool (decide (SBay.travel x ≤ (6 :
 Int)))))), [])) else some (T.leaf (AV.c (C.d (D.v (Value.bool false))), []))) else some (T.leaf (AV.c (C.d (D.v (Value.bool false))), []))) else some (T.leaf (AV.c (C.d (D.v
 (Value.bool false))), []))))) else (bif !SBay.kind x == (3 : Int) then (bif decide (SBay.vt x ≥ (1 : Int)) then (bif !decide (SBay.vt x ≤ (10000 : Int)) then some (T.leaf (AV.c (C.d
 (D.v (Value.bool false))), [])) else (bif decide (SBay.sat x ≥ (0 : Int)) then (bif decide (SBay.sat x ≤ (16383 : Int)) then (bif decide (SBay.travel x ≥ (1 : Int)) then some
 (T.leaf (AV.c (C.d (D.v (Value.bool (decide (SBay.travel x ≤ (6 : Int)))))), [])) else some (T.leaf (AV.c (C.d (D.v (Value.bool false))), []))) else some (T.leaf (AV.c (C.d (D.v
 (Value.bool false))), []))) else some (T.leaf (AV.c (C.d (D.v (Value.bool false))), [])))) else some (T.leaf (AV.c (C.d (D.v (Value.bool false))), []))) else (bif decide (SBay.sat x
 ≥ (0 : Int)) then (bif decide (SBay.sat x ≤ (16383 : Int)) then (bif decide (SBay.travel x ≥ (1 : Int)) then some (T.leaf (AV.c (C.d (D.v (Value.bool (decide (SBay.travel x ≤ (6 :
 Int)))))), [])) else some (T.leaf (AV.c (C.d (D.v (Value.bool false))), []))) else some (T.leaf (AV.c (C.d (D.v (Value.bool false))), []))) else some (T.leaf (AV.c (C.d (D.v
 (Value.bool false))), [])))))) else some (T.leaf (AV.c (C.d (D.v (Value.bool false))), []))))) else some (T.leaf (AV.c (C.d (D.v (Value.bool false))), []))) else some (T.leaf (AV.c
 (C.d (D.v (Value.bool false))), []))) else some (T.leaf (AV.c (C.d (D.v (Value.bool false))), []))) else (bif !SBay.kind x == (3 : Int) then (bif !(SBay.zr x == (0 : Int) &&
 (SBay.zx x == (0 : Int) && true)) then some (T.leaf (AV.c (C.d (D.v (Value.bool false))), [])) else (bif decide (SBay.ct x ≥ (1 : Int)) then (bif !decide (SBay.ct x ≤ (100 : Int))
 then some (T.leaf (AV.c (C.d (D.v (Value.bool false))), [])) else (bif SBay.kind x == (3 : Int) then (bif SBay.vt x != (0 : Int) then some (T.leaf (AV.c (C.d (D.v (Value.bool
 false))), [])) else (bif !SBay.kind x == (3 : Int) then (bif decide (SBay.vt x ≥ (1 : Int)) then (bif !decide (SBay.vt x ≤ (10000 : Int)) then some (T.leaf (AV.c (C.d (D.v
 (Value.bool false))), [])) else (bif decide (SBay.sat x ≥ (0 : Int)) then (bif decide (SBay.sat x ≤ (16383 : Int)) then (bif decide (SBay.travel x ≥ (1 : Int)) then some (T.leaf
 (AV.c (C.d (D.v (Value.bool (decide (SBay.travel x ≤ (6 : Int)))))), [])) else some (T.leaf (AV.c (C.d (D.v (Value.bool false))), []))) else some (T.leaf (AV.c (C.d (D.v (Value.bool
 false))), []))) else some (T.leaf (AV.c (C.d (D.v (Value.bool false))), [])))) else some (T.leaf (AV.c (C.d (D.v (Value.bool false))), []))) else (bif decide (SBay.sat x ≥ (0 :
 Int)) then (bif decide (SBay.sat x ≤ (16383 : Int)) then (bif decide (SBay.travel x ≥ (1 : Int)) then some (T.leaf (AV.c (C.d (D.v (Value.bool (decide (SBay.travel x ≤ (6 :
 Int)))))), [])) else some (T.leaf (AV.c (C.d (D.v (Value.bool false))), []))) else some (T.leaf (AV.c (C.d (D.v (Value.bool false))), []))) else some (T.leaf (AV.c (C.d (D.v
 (Value.bool false))), []))))) else (bif !SBay.kind x == (3 : Int) then (bif decide (SBay.vt x ≥ (1 : Int)) then (bif !decide (SBay.vt x ≤ (10000 : Int)) then some (T.leaf (AV.c (C.d
 (D.v (Value.bool false))), [])) else (bif decide (SBay.sat x ≥ (0 : Int)) then (bif decide (SBay.sat x ≤ (16383 : Int)) then (bif decide (SBay.travel x ≥ (1 : Int)) then some
 (T.leaf (AV.c (C.d (D.v (Value.bool (decide (SBay.travel x ≤ (6 : Int)))))), [])) else some (T.leaf (AV.c (C.d (D.v (Value.bool false))), []))) else some (T.leaf (AV.c (C.d (D.v
 (Value.bool false))), []))) else some (T.leaf (AV.c (C.d (D.v (Value.bool false))), [])))) else some (T.leaf (AV.c (C.d (D.v (Value.bool false))), []))) else (bif decide (SBay.sat x
 ≥ (0 : Int)) then (bif decide (SBay.sat x ≤ (16383 : Int)) then (bif decide (SBay.travel x ≥ (1 : Int)) then some (T.leaf (AV.c (C.d (D.v (Value.bool (decide (SBay.travel x ≤ (6 :
 Int)))))), [])) else some (T.leaf (AV.c (C.d (D.v (Value.bool false))), []))) else some (T.leaf (AV.c (C.d (D.v (Value.bool false))), []))) else some (T.leaf (AV.c (C.d (D.v
 (Value.bool false))), [])))))) else some (T.leaf (AV.c (C.d (D.v (Value.bool false))), [])))) else (bif decide (SBay.ct x ≥ (1 : Int)) then (bif !decide (SBay.ct x ≤ (100 : Int))
 then some (T.leaf (AV.c (C.d (D.v (Value.bool false))), [])) else (bif SBay.kind x == (3 : Int) then (bif SBay.vt x != (0 : Int) then some (T.leaf (AV.c (C.d (D.v (Value.bool
 false))), [])) else (bif !SBay.kind x == (3 : Int) then (bif decide (SBay.vt x ≥ (1 : Int)) then (bif !decide (SBay.vt x ≤ (10000 : Int)) then some (T.leaf (AV.c (C.d (D.v
 (Value.bool false))), [])) else (bif decide (SBay.sat x ≥ (0 : Int)) then (bif decide (SBay.sat x ≤ (16383 : Int)) then (bif decide (SBay.travel x ≥ (1 : Int)) then some (T.leaf
 (AV.c (C.d (D.v (Value.bool (decide (SBay.travel x ≤ (6 : Int)))))), [])) else some (T.leaf (AV.c (C.d (D.v (Value.bool false))), []))) else some (T.leaf (AV.c (C.d (D.v (Value.bool
 false))), []))) else some (T.leaf (AV.c (C.d (D.v (Value.bool false))), [])))) else some (T.leaf (AV.c (C.d (D.v (Value.bool false))), []))) else (bif decide (SBay.sat x ≥ (0 :
 Int)) then (bif decide (SBay.sat x ≤ (16383 : Int)) then (bif decide (SBay.travel x ≥ (1 : Int)) then some (T.leaf (AV.c (C.d (D.v (Value.bool (decide (SBay.travel x ≤ (6 :
 Int)))))), [])) else some (T.leaf (AV.c (C.d (D.v (Value.bool false))), []))) else some (T.leaf (AV.c (C.d (D.v (Value.bool false))), []))) else some (T.leaf (AV.c (C.d (D.v
 (Value.bool false))), []))))) else (bif !SBay.kind x == (3 : Int) then (bif decide (SBay.vt x ≥ (1 : Int)) then (bif !decide (SBay.vt x ≤ (10000 : Int)) then some (T.leaf (AV.c (C.d
 (D.v (Value.bool false))), [])) else (bif decide (SBay.sat x ≥ (0 : Int)) then (bif decide (SBay.sat x ≤ (16383 : Int)) then (bif decide (SBay.travel x ≥ (1 : Int)) then some
 (T.leaf (AV.c (C.d (D.v (Value.bool (decide (SBay.travel x ≤ (6 : Int)))))), [])) else some (T.leaf (AV.c (C.d (D.v (Value.bool false))), []))) else some (T.leaf (AV.c (C.d (D.v
 (Value.bool false))), []))) else some (T.leaf (AV.c (C.d (D.v (Value.bool false))), [])))) else some (T.leaf (AV.c (C.d (D.v (Value.bool false))), []))) else (bif decide (SBay.sat x
 ≥ (0 : Int)) then (bif decide (SBay.sat x ≤ (16383 : Int)) then (bif decide (SBay.travel x ≥ (1 : Int)) then some (T.leaf (AV.c (C.d (D.v (Value.bool (decide (SBay.travel x ≤ (6 :
 Int)))))), [])) else some (T.leaf (AV.c (C.d (D.v (Value.bool false))), []))) else some (T.leaf (AV.c (C.d (D.v (Value.bool false))), []))) else some (T.leaf (AV.c (C.d (D.v
 (Value.bool false))), [])))))) else some (T.leaf (AV.c (C.d (D.v (Value.bool false))), []))))))) := by kernel_rfl
noncomputable def ann50 : Ann := annOf [(5, ⟨[3, 2, 5, 6], []⟩)]
noncomputable def L50_5 (s : SSta) (x : SBay) (g m : Nat) (i6 : Int) := LK Tryz.prog Orc.nil ann50 (List.length (α := Nat × Blk) []) g Tryz.f48 5 m ⟨frm [(2, AV.c (C.ptr 0 0)), (3, AV.c (C.ptr 1 0)), (5, AV.c (C.d (D.v (Value.int IntKind.i64 (↑(List.length (SBay.links x)) : Int))))), (6, AV.c (C.d (D.v (Value.int IntKind.i64 i6))))] 0 Tryz.f48.ntmps, [(0, Blk.cells [C.d (D.v (Value.string (SSta.name s))), C.d (D.sl 1 (List.length (SSta.buses s)) fun i => busC (List.getD (SSta.buses s) i e0)), C.d (D.sl 5 (List.length (SSta.lines s)) fun i => lineC (List.getD (SSta.lines s) i line0)), C.d (D.sl 6 (List.length (SSta.srcs s)) fun i => srcC' (List.getD (SSta.srcs s) i src0)), C.d (D.sl 12 (List.length (SSta.bays s)) fun i => bayC (List.getD (SSta.bays s) i bay0))] 27), (1, Blk.cells [C.d (D.v (Value.string (SBay.name x))), C.d (D.v (Value.int IntKind.i64 (SBay.kind x))), C.d (D.v (Value.int IntKind.i64 (SBay.off x))), C.d (D.v (Value.int IntKind.i64 (SBay.fin x))), C.d (D.v (Value.int IntKind.i64 (SBay.zr x))), C.d (D.v (Value.int IntKind.i64 (SBay.zx x))), C.d (D.sl 2 (List.length (SBay.links x)) fun i => linkC (List.getD (SBay.links x) i link0)), C.d (D.v (Value.bool (SBay.closed x))), C.d (D.v (Value.int IntKind.i64 (SBay.ct x))), C.d (D.v (Value.int IntKind.i64 (SBay.vt x))), C.d (D.v (Value.int IntKind.i64 (SBay.sat x))), C.d (D.v (Value.int IntKind.i64 (SBay.travel x)))] 66)], 2⟩
theorem b50 : Tryz.f48.body = some (bodyOf Tryz.f48) := by kernel_rfl
set_option maxRecDepth 100000 in
theorem ev50 (s : SSta) (x : SBay) (g : Nat) : callC Tryz.prog Orc.nil ann50 g Tryz.f48 (bodyOf Tryz.f48) [aSta s, aBay x] [] =
 (bif decide ((↑(List.length (SBay.links x)) : Int) < (1 : Int)) then some (T.leaf (AV.c (C.d (D.v (Value.int IntKind.i64 (3 : Int)))), [])) else (bif decide ((↑(List.length
 (SBay.links x)) : Int) > (2 : Int)) then some (T.leaf (AV.c (C.d (D.v (Value.int IntKind.i64 (3 : Int)))), [])) else (bif SBay.kind x == (3 : Int) then (bif (↑(List.length
 (SBay.links x)) : Int) != (2 : Int) then some (T.leaf (AV.c (C.d (D.v (Value.int IntKind.i64 (3 : Int)))), [])) else L50_5 s x g g ((0 : Int))) else L50_5 s x g g ((0 : Int))))) := by kernel_rfl
set_option maxRecDepth 100000 in
theorem st50_5 (s : SSta) (x : SBay) (g m : Nat) (i6 : Int) : L50_5 s x g (m + 1) i6 =
 (bif decide (i6 < (↑(List.length (SBay.links x)) : Int)) then (bif decide ((0 : Int) ≤ i6) && decide (i6 < (↑(List.length (SBay.links x)) : Int)) then (bif decide (SLink.bus
 (List.getD (SBay.links x) (Int.toNat i6) link0) < (0 : Int)) then some (T.leaf (AV.c (C.d (D.v (Value.int IntKind.i64 (9 : Int)))), [])) else (bif decide (SLink.bus (List.getD
 (SBay.links x) (Int.toNat i6) link0) ≥ (↑(List.length (SSta.buses s)) : Int)) then some (T.leaf (AV.c (C.d (D.v (Value.int IntKind.i64 (9 : Int)))), [])) else (bif SLink.pos
 (List.getD (SBay.links x) (Int.toNat i6) link0) != (1 : Int) then (bif SLink.pos (List.getD (SBay.links x) (Int.toNat i6) link0) != (0 : Int) then some (T.leaf (AV.c (C.d (D.v
 (Value.int IntKind.i64 (16 : Int)))), [])) else (bif SBay.kind x == (3 : Int) then some (T.leaf (AV.c (C.d (D.v (Value.int IntKind.i64 (16 : Int)))), [])) else (bif decide (i6 > (0
 : Int)) then (bif decide ((0 : Int) ≤ IntKind.wrap IntKind.i64 (i6 - (1 : Int))) && decide (IntKind.wrap IntKind.i64 (i6 - (1 : Int)) < (↑(List.length (SBay.links x)) : Int)) then
 (bif SLink.bus (List.getD (SBay.links x) (Int.toNat i6) link0) == SLink.bus (List.getD (SBay.links x) (Int.toNat (IntKind.wrap IntKind.i64 (i6 - (1 : Int)))) link0) then some
 (T.leaf (AV.c (C.d (D.v (Value.int IntKind.i64 (12 : Int)))), [])) else L50_5 s x g m (IntKind.wrap IntKind.i64 (i6 + (1 : Int)))) else none) else L50_5 s x g m (IntKind.wrap
 IntKind.i64 (i6 + (1 : Int)))))) else (bif decide (i6 > (0 : Int)) then (bif decide ((0 : Int) ≤ IntKind.wrap IntKind.i64 (i6 - (1 : Int))) && decide (IntKind.wrap IntKind.i64 (i6 -
 (1 : Int)) < (↑(List.length (SBay.links x)) : Int)) then (bif SLink.bus (List.getD (SBay.links x) (Int.toNat i6) link0) == SLink.bus (List.getD (SBay.links x) (Int.toNat
 (IntKind.wrap IntKind.i64 (i6 - (1 : Int)))) link0) then some (T.leaf (AV.c (C.d (D.v (Value.int IntKind.i64 (12 : Int)))), [])) else L50_5 s x g m (IntKind.wrap IntKind.i64 (i6 +
 (1 : Int)))) else none) else L50_5 s x g m (IntKind.wrap IntKind.i64 (i6 + (1 : Int))))))) else none) else some (T.leaf (AV.c (C.d (D.v (Value.int IntKind.i64 (0 : Int)))), []))) := by kernel_rfl
def dSB : Dec (List AV × Hp) ((RSta × RBay × Unit) × Unit) := .pair (.cons (.agg staD) (.cons (.agg bayD) .nil)) .nil
def dSI : Dec (List AV × Hp) ((RSta × Int × Unit) × Unit) := .pair (.cons (.agg staD) (.cons (.c .i64) .nil)) .nil
def dSI4 : Dec (List AV × Hp) ((RSta × Int × Int × Int × Int × Unit) × Unit) := .pair (.cons (.agg staD) (.cons (.c .i64) (.cons (.c .i64) (.cons (.c .i64) (.cons (.c .i64) .nil))))) .nil
def dDS : Dec (List AV × Hp) ((D × ByteArray × Unit) × Unit) := .pair (.cons (.c .data) (.cons (.c .str) .nil)) .nil
noncomputable def o24 (rg okr : RBay → Bool) (ok : RSta → RBay → Bool) (lk : RSta → RBay → Int) : Orc := Orc.cons 46 (inl Tryz.prog Orc.nil na 1 Tryz.f46) (Orc.cons 47 (ansD d54 (fun a => okr a.1.1) (fun a => vB (rg a.1.1)) fun _ => [])
  (Orc.cons 48 (ansD dSB (fun a => ok a.1.1 a.1.2.1) (fun a => vI (lk a.1.1 a.1.2.1)) fun _ => []) Orc.nil))
noncomputable def ann24 : Ann := annOf [(8, ⟨[5, 2, 1, 7], []⟩)]
noncomputable def L24_8 (rg okr : RBay → Bool) (ok : RSta → RBay → Bool) (lk : RSta → RBay → Int) (s : SSta) (n : Int) (g m : Nat) (i7 : Int) := LK Tryz.prog (o24 rg okr ok lk) ann24 (List.length (α := Nat × Blk) []) g Tryz.f24 8 m ⟨frm [(1, AV.c (C.d (D.v (Value.int IntKind.i64 n)))), (2, AV.c (C.ptr 0 0)), (5, AV.c (C.ptr 1 0)), (7, AV.c (C.d (D.v (Value.int IntKind.i64 i7))))] 0 Tryz.f24.ntmps, [(0, Blk.cells [C.d (D.v (Value.string (SSta.name s))), C.d (D.sl 1 (List.length (SSta.buses s)) fun i => busC (List.getD (SSta.buses s) i e0)), C.d (D.sl 5 (List.length (SSta.lines s)) fun i => lineC (List.getD (SSta.lines s) i line0)), C.d (D.sl 6 (List.length (SSta.srcs s)) fun i => srcC' (List.getD (SSta.srcs s) i src0)), C.d (D.sl 12 (List.length (SSta.bays s)) fun i => bayC (List.getD (SSta.bays s) i bay0))] 27), (1, Blk.cells [C.d (D.v (Value.string (SBay.name (List.getD (SSta.bays s) (Int.toNat n) bay0)))), C.d (D.v (Value.int IntKind.i64 (SBay.kind (List.getD (SSta.bays s) (Int.toNat n) bay0)))), C.d (D.v (Value.int IntKind.i64 (SBay.off (List.getD (SSta.bays s) (Int.toNat n) bay0)))), C.d (D.v (Value.int IntKind.i64 (SBay.fin (List.getD (SSta.bays s) (Int.toNat n) bay0)))), C.d (D.v (Value.int IntKind.i64 (SBay.zr (List.getD (SSta.bays s) (Int.toNat n) bay0)))), C.d (D.v (Value.int IntKind.i64 (SBay.zx (List.getD (SSta.bays s) (Int.toNat n) bay0)))), C.d (D.sl 2 (List.length (SBay.links (List.getD (SSta.bays s) (Int.toNat n) bay0))) fun i => linkC (List.getD (SBay.links (List.getD (SSta.bays s) (Int.toNat n) bay0)) i link0)), C.d (D.v (Value.bool (SBay.closed (List.getD (SSta.bays s) (Int.toNat n) bay0)))), C.d (D.v (Value.int IntKind.i64 (SBay.ct (List.getD (SSta.bays s) (Int.toNat n) bay0)))), C.d (D.v (Value.int IntKind.i64 (SBay.vt (List.getD (SSta.bays s) (Int.toNat n) bay0)))), C.d (D.v (Value.int IntKind.i64 (SBay.sat (List.getD (SSta.bays s) (Int.toNat n) bay0)))), C.d (D.v (Value.int IntKind.i64 (SBay.travel (List.getD (SSta.bays s) (Int.toNat n) bay0))))] 66)], 2⟩
theorem b24 : Tryz.f24.body = some (bodyOf Tryz.f24) := by kernel_rfl
set_option maxRecDepth 100000 in
theorem ev24 (rg okr : RBay → Bool) (ok : RSta → RBay → Bool) (lk : RSta → RBay → Int) (s : SSta) (n : Int) (g : Nat) : callC Tryz.prog (o24 rg okr ok lk) ann24 g Tryz.f24 (bodyOf Tryz.f24) [aSta s, vI n] [] =
 (bif decide ((0 : Int) ≤ n) && decide (n < (↑(List.length (SSta.bays s)) : Int)) then (bif SBay.kind (List.getD (SSta.bays s) (Int.toNat n) bay0) == (1 : Int) then (bif decide
 (SBay.off (List.getD (SSta.bays s) (Int.toNat n) bay0) < (0 : Int)) then some (T.leaf (AV.c (C.d (D.v (Value.int IntKind.i64 (9 : Int)))), [])) else (bif decide (SBay.off (List.getD
 (SSta.bays s) (Int.toNat n) bay0) ≥ (↑(List.length (SSta.lines s)) : Int)) then some (T.leaf (AV.c (C.d (D.v (Value.int IntKind.i64 (9 : Int)))), [])) else (bif okr (SBay.name
 (List.getD (SSta.bays s) (Int.toNat n) bay0), SBay.kind (List.getD (SSta.bays s) (Int.toNat n) bay0), SBay.off (List.getD (SSta.bays s) (Int.toNat n) bay0), SBay.fin (List.getD
 (SSta.bays s) (Int.toNat n) bay0), SBay.zr (List.getD (SSta.bays s) (Int.toNat n) bay0), SBay.zx (List.getD (SSta.bays s) (Int.toNat n) bay0), linksD (SBay.links (List.getD
 (SSta.bays s) (Int.toNat n) bay0)), SBay.closed (List.getD (SSta.bays s) (Int.toNat n) bay0), SBay.ct (List.getD (SSta.bays s) (Int.toNat n) bay0), SBay.vt (List.getD (SSta.bays s)
 (Int.toNat n) bay0), SBay.sat (List.getD (SSta.bays s) (Int.toNat n) bay0), SBay.travel (List.getD (SSta.bays s) (Int.toNat n) bay0), ()) then (bif !rg (SBay.name (List.getD
 (SSta.bays s) (Int.toNat n) bay0), SBay.kind (List.getD (SSta.bays s) (Int.toNat n) bay0), SBay.off (List.getD (SSta.bays s) (Int.toNat n) bay0), SBay.fin (List.getD (SSta.bays s)
 (Int.toNat n) bay0), SBay.zr (List.getD (SSta.bays s) (Int.toNat n) bay0), SBay.zx (List.getD (SSta.bays s) (Int.toNat n) bay0), linksD (SBay.links (List.getD (SSta.bays s)
 (Int.toNat n) bay0)), SBay.closed (List.getD (SSta.bays s) (Int.toNat n) bay0), SBay.ct (List.getD (SSta.bays s) (Int.toNat n) bay0), SBay.vt (List.getD (SSta.bays s) (Int.toNat n)
 bay0), SBay.sat (List.getD (SSta.bays s) (Int.toNat n) bay0), SBay.travel (List.getD (SSta.bays s) (Int.toNat n) bay0), ()) then some (T.leaf (AV.c (C.d (D.v (Value.int IntKind.i64
 (2 : Int)))), [])) else L24_8 rg okr ok lk s n g g ((0 : Int))) else none))) else (bif SBay.kind (List.getD (SSta.bays s) (Int.toNat n) bay0) == (2 : Int) then (bif decide (SBay.off
 (List.getD (SSta.bays s) (Int.toNat n) bay0) < (0 : Int)) then some (T.leaf (AV.c (C.d (D.v (Value.int IntKind.i64 (9 : Int)))), [])) else (bif decide (SBay.off (List.getD
 (SSta.bays s) (Int.toNat n) bay0) ≥ (↑(List.length (SSta.srcs s)) : Int)) then some (T.leaf (AV.c (C.d (D.v (Value.int IntKind.i64 (9 : Int)))), [])) else (bif okr (SBay.name
 (List.getD (SSta.bays s) (Int.toNat n) bay0), SBay.kind (List.getD (SSta.bays s) (Int.toNat n) bay0), SBay.off (List.getD (SSta.bays s) (Int.toNat n) bay0), SBay.fin (List.getD
 (SSta.bays s) (Int.toNat n) bay0), SBay.zr (List.getD (SSta.bays s) (Int.toNat n) bay0), SBay.zx (List.getD (SSta.bays s) (Int.toNat n) bay0), linksD (SBay.links (List.getD
 (SSta.bays s) (Int.toNat n) bay0)), SBay.closed (List.getD (SSta.bays s) (Int.toNat n) bay0), SBay.ct (List.getD (SSta.bays s) (Int.toNat n) bay0), SBay.vt (List.getD (SSta.bays s)
 (Int.toNat n) bay0), SBay.sat (List.getD (SSta.bays s) (Int.toNat n) bay0), SBay.travel (List.getD (SSta.bays s) (Int.toNat n) bay0), ()) then (bif !rg (SBay.name (List.getD
 (SSta.bays s) (Int.toNat n) bay0), SBay.kind (List.getD (SSta.bays s) (Int.toNat n) bay0), SBay.off (List.getD (SSta.bays s) (Int.toNat n) bay0), SBay.fin (List.getD (SSta.bays s)
 (Int.toNat n) bay0), SBay.zr (List.getD (SSta.bays s) (Int.toNat n) bay0), SBay.zx (List.getD (SSta.bays s) (Int.toNat n) bay0), linksD (SBay.links (List.getD (SSta.bays s)
 (Int.toNat n) bay0)), SBay.closed (List.getD (SSta.bays s) (Int.toNat n) bay0), SBay.ct (List.getD (SSta.bays s) (Int.toNat n) bay0), SBay.vt (List.getD (SSta.bays s) (Int.toNat n)
 bay0), SBay.sat (List.getD (SSta.bays s) (Int.toNat n) bay0), SBay.travel (List.getD (SSta.bays s) (Int.toNat n) bay0), ()) then some (T.leaf (AV.c (C.d (D.v (Value.int IntKind.i64
 (2 : Int)))), [])) else L24_8 rg okr ok lk s n g g ((0 : Int))) else none))) else (bif SBay.kind (List.getD (SSta.bays s) (Int.toNat n) bay0) == (3 : Int) then (bif SBay.off
 (List.getD (SSta.bays s) (Int.toNat n) bay0) != (0 : Int) then some (T.leaf (AV.c (C.d (D.v (Value.int IntKind.i64 (9 : Int)))), [])) else (bif okr (SBay.name (List.getD (SSta.bays
 s) (Int.toNat n) bay0), SBay.kind (List.getD (SSta.bays s) (Int.toNat n) bay0), SBay.off (List.getD (SSta.bays s) (Int.toNat n) bay0), SBay.fin (List.getD (SSta.bays s) (Int.toNat
 n) bay0), SBay.zr (List.getD (SSta.bays s) (Int.toNat n) bay0), SBay.zx (List.getD (SSta.bays s) (Int.toNat n) bay0), linksD (SBay.links (List.getD (SSta.bays s) (Int.toNat n)
 bay0)), SBay.closed (List.getD (SSta.bays s) (Int.toNat n) bay0), SBay.ct (List.getD (SSta.bays s) (Int.toNat n) bay0), SBay.vt (List.getD (SSta.bays s) (Int.toNat n) bay0),
 SBay.sat (List.getD (SSta.bays s) (Int.toNat n) bay0), SBay.travel (List.getD (SSta.bays s) (Int.toNat n) bay0), ()) then (bif !rg (SBay.name (List.getD (SSta.bays s) (Int.toNat n)
 bay0), SBay.kind (List.getD (SSta.bays s) (Int.toNat n) bay0), SBay.off (List.getD (SSta.bays s) (Int.toNat n) bay0), SBay.fin (List.getD (SSta.bays s) (Int.toNat n) bay0), SBay.zr
 (List.getD (SSta.bays s) (Int.toNat n) bay0), SBay.zx (List.getD (SSta.bays s) (Int.toNat n) bay0), linksD (SBay.links (List.getD (SSta.bays s) (Int.toNat n) bay0)), SBay.closed
 (List.getD (SSta.bays s) (Int.toNat n) bay0), SBay.ct (List.getD (SSta.bays s) (Int.toNat n) bay0), SBay.vt (List.getD (SSta.bays s) (Int.toNat n) bay0), SBay.sat (List.getD
 (SSta.bays s) (Int.toNat n) bay0), SBay.travel (List.getD (SSta.bays s) (Int.toNat n) bay0), ()) then some (T.leaf (AV.c (C.d (D.v (Value.int IntKind.i64 (2 : Int)))), [])) else
 L24_8 rg okr ok lk s n g g ((0 : Int))) else none)) else some (T.leaf (AV.c (C.d (D.v (Value.int IntKind.i64 (10 : Int)))), []))))) else none) := by kernel_rfl
set_option maxRecDepth 100000 in
theorem st24_8 (rg okr : RBay → Bool) (ok : RSta → RBay → Bool) (lk : RSta → RBay → Int) (s : SSta) (n : Int) (g m : Nat) (i7 : Int) : L24_8 rg okr ok lk s n g (m + 1) i7 =
 (bif decide (i7 < n) then (bif SBay.kind (List.getD (SSta.bays s) (Int.toNat n) bay0) != (3 : Int) then (bif decide ((0 : Int) ≤ i7) && decide (i7 < (↑(List.length (SSta.bays s)) :
 Int)) then (bif SBay.kind (List.getD (SSta.bays s) (Int.toNat i7) bay0) == SBay.kind (List.getD (SSta.bays s) (Int.toNat n) bay0) then (bif decide ((0 : Int) ≤ i7) && decide (i7 <
 (↑(List.length (SSta.bays s)) : Int)) then (bif SBay.off (List.getD (SSta.bays s) (Int.toNat i7) bay0) == SBay.off (List.getD (SSta.bays s) (Int.toNat n) bay0) then (bif decide ((0
 : Int) ≤ i7) && decide (i7 < (↑(List.length (SSta.bays s)) : Int)) then (bif SBay.fin (List.getD (SSta.bays s) (Int.toNat i7) bay0) == SBay.fin (List.getD (SSta.bays s) (Int.toNat
 n) bay0) then some (T.leaf (AV.c (C.d (D.v (Value.int IntKind.i64 (12 : Int)))), [])) else L24_8 rg okr ok lk s n g m (IntKind.wrap IntKind.i64 (i7 + (1 : Int)))) else none) else
 L24_8 rg okr ok lk s n g m (IntKind.wrap IntKind.i64 (i7 + (1 : Int)))) else none) else L24_8 rg okr ok lk s n g m (IntKind.wrap IntKind.i64 (i7 + (1 : Int)))) else none) else (bif
 ok (SSta.name s, D.sl (1 : Nat) (List.length (SSta.buses s)) fun i => busC (List.getD (SSta.buses s) i e0), D.sl (5 : Nat) (List.length (SSta.lines s)) fun i => lineC (List.getD
 (SSta.lines s) i line0), D.sl (6 : Nat) (List.length (SSta.srcs s)) fun i => srcC' (List.getD (SSta.srcs s) i src0), D.sl (12 : Nat) (List.length (SSta.bays s)) fun i => bayC
 (List.getD (SSta.bays s) i bay0), ()) (SBay.name (List.getD (SSta.bays s) (Int.toNat n) bay0), SBay.kind (List.getD (SSta.bays s) (Int.toNat n) bay0), SBay.off (List.getD (SSta.bays
 s) (Int.toNat n) bay0), SBay.fin (List.getD (SSta.bays s) (Int.toNat n) bay0), SBay.zr (List.getD (SSta.bays s) (Int.toNat n) bay0), SBay.zx (List.getD (SSta.bays s) (Int.toNat n)
 bay0), D.sl (2 : Nat) (List.length (SBay.links (List.getD (SSta.bays s) (Int.toNat n) bay0))) fun i => linkC (List.getD (SBay.links (List.getD (SSta.bays s) (Int.toNat n) bay0)) i
 link0), SBay.closed (List.getD (SSta.bays s) (Int.toNat n) bay0), SBay.ct (List.getD (SSta.bays s) (Int.toNat n) bay0), SBay.vt (List.getD (SSta.bays s) (Int.toNat n) bay0),
 SBay.sat (List.getD (SSta.bays s) (Int.toNat n) bay0), SBay.travel (List.getD (SSta.bays s) (Int.toNat n) bay0), ()) then some (T.leaf (AV.c (C.d (D.v (Value.int IntKind.i64 (lk
 (SSta.name s, D.sl (1 : Nat) (List.length (SSta.buses s)) fun i => busC (List.getD (SSta.buses s) i e0), D.sl (5 : Nat) (List.length (SSta.lines s)) fun i => lineC (List.getD
 (SSta.lines s) i line0), D.sl (6 : Nat) (List.length (SSta.srcs s)) fun i => srcC' (List.getD (SSta.srcs s) i src0), D.sl (12 : Nat) (List.length (SSta.bays s)) fun i => bayC
 (List.getD (SSta.bays s) i bay0), ()) (SBay.name (List.getD (SSta.bays s) (Int.toNat n) bay0), SBay.kind (List.getD (SSta.bays s) (Int.toNat n) bay0), SBay.off (List.getD (SSta.bays
 s) (Int.toNat n) bay0), SBay.fin (List.getD (SSta.bays s) (Int.toNat n) bay0), SBay.zr (List.getD (SSta.bays s) (Int.toNat n) bay0), SBay.zx (List.getD (SSta.bays s) (Int.toNat n)
 bay0), D.sl (2 : Nat) (List.length (SBay.links (List.getD (SSta.bays s) (Int.toNat n) bay0))) fun i => linkC (List.getD (SBay.links (List.getD (SSta.bays s) (Int.toNat n) bay0)) i
 link0), SBay.closed (List.getD (SSta.bays s) (Int.toNat n) bay0), SBay.ct (List.getD (SSta.bays s) (Int.toNat n) bay0), SBay.vt (List.getD (SSta.bays s) (Int.toNat n) bay0),
 SBay.sat (List.getD (SSta.bays s) (Int.toNat n) bay0), SBay.travel (List.getD (SSta.bays s) (Int.toNat n) bay0), ()))))), [])) else none)) else (bif ok (SSta.name s, D.sl (1 : Nat)
 (List.length (SSta.buses s)) fun i => busC (List.getD (SSta.buses s) i e0), D.sl (5 : Nat) (List.length (SSta.lines s)) fun i => lineC (List.getD (SSta.lines s) i line0), D.sl (6 :
 Nat) (List.length (SSta.srcs s)) fun i => srcC' (List.getD (SSta.srcs s) i src0), D.sl (12 : Nat) (List.length (SSta.bays s)) fun i => bayC (List.getD (SSta.bays s) i bay0), ())
 (SBay.name (List.getD (SSta.bays s) (Int.toNat n) bay0), SBay.kind (List.getD (SSta.bays s) (Int.toNat n) bay0), SBay.off (List.getD (SSta.bays s) (Int.toNat n) bay0), SBay.fin
 (List.getD (SSta.bays s) (Int.toNat n) bay0), SBay.zr (List.getD (SSta.bays s) (Int.toNat n) bay0), SBay.zx (List.getD (SSta.bays s) (Int.toNat n) bay0), D.sl (2 : Nat) (List.length
 (SBay.links (List.getD (SSta.bays s) (Int.toNat n) bay0))) fun i => linkC (List.getD (SBay.links (List.getD (SSta.bays s) (Int.toNat n) bay0)) i link0), SBay.closed (List.getD
 (SSta.bays s) (Int.toNat n) bay0), SBay.ct (List.getD (SSta.bays s) (Int.toNat n) bay0), SBay.vt (List.getD (SSta.bays s) (Int.toNat n) bay0), SBay.sat (List.getD (SSta.bays s)
 (Int.toNat n) bay0), SBay.travel (List.getD (SSta.bays s) (Int.toNat n) bay0), ()) then some (T.leaf (AV.c (C.d (D.v (Value.int IntKind.i64 (lk (SSta.name s, D.sl (1 : Nat)
 (List.length (SSta.buses s)) fun i => busC (List.getD (SSta.buses s) i e0), D.sl (5 : Nat) (List.length (SSta.lines s)) fun i => lineC (List.getD (SSta.lines s) i line0), D.sl (6 :
 Nat) (List.length (SSta.srcs s)) fun i => srcC' (List.getD (SSta.srcs s) i src0), D.sl (12 : Nat) (List.length (SSta.bays s)) fun i => bayC (List.getD (SSta.bays s) i bay0), ())
 (SBay.name (List.getD (SSta.bays s) (Int.toNat n) bay0), SBay.kind (List.getD (SSta.bays s) (Int.toNat n) bay0), SBay.off (List.getD (SSta.bays s) (Int.toNat n) bay0), SBay.fin
 (List.getD (SSta.bays s) (Int.toNat n) bay0), SBay.zr (List.getD (SSta.bays s) (Int.toNat n) bay0), SBay.zx (List.getD (SSta.bays s) (Int.toNat n) bay0), D.sl (2 : Nat) (List.length
 (SBay.links (List.getD (SSta.bays s) (Int.toNat n) bay0))) fun i => linkC (List.getD (SBay.links (List.getD (SSta.bays s) (Int.toNat n) bay0)) i link0), SBay.closed (List.getD
 (SSta.bays s) (Int.toNat n) bay0), SBay.ct (List.getD (SSta.bays s) (Int.toNat n) bay0), SBay.vt (List.getD (SSta.bays s) (Int.toNat n) bay0), SBay.sat (List.getD (SSta.bays s)
 (Int.toNat n) bay0), SBay.travel (List.getD (SSta.bays s) (Int.toNat n) bay0), ()))))), [])) else none)) := by kernel_rfl
noncomputable def o20 (nk : ByteArray → Bool) (ok : D → ByteArray → Bool) (ix : D → ByteArray → Int) : Orc := Orc.cons 19 (ansP decS fun s => vB (nk s)) (Orc.cons 44 (ansD dDS (fun a => ok a.1.1 a.1.2.1) (fun a => vI (ix a.1.1 a.1.2.1)) fun _ => []) Orc.nil)
noncomputable def ann20 : Ann := annOf []
theorem b20 : Tryz.f20.body = some (bodyOf Tryz.f20) := by kernel_rfl
set_option maxRecDepth 100000 in
theorem ev20 (nk : ByteArray → Bool) (ok : D → ByteArray → Bool) (ix : D → ByteArray → Int) (l : List ByteArray) (s : ByteArray) (g : Nat) : callC Tryz.prog (o20 nk ok ix) ann20 g Tryz.f20 (bodyOf Tryz.f20) [.c (.d (busesD l)), vS s] [] =
 (bif !nk s then some (T.leaf (AV.c (C.d (D.v (Value.int IntKind.i64 (7 : Int)))), [])) else (bif ok (busesD l) s then (bif decide (ix (busesD l) s ≥ (0 : Int)) then some (T.leaf
 (AV.c (C.d (D.v (Value.int IntKind.i64 (8 : Int)))), [])) else some (T.leaf (AV.c (C.d (D.v (Value.int IntKind.i64 (0 : Int)))), []))) else none)) := by kernel_rfl
structure K8 where
  nk : ByteArray → Bool
  okn : (RSta × Int × Int × Int × Int × Unit) → Bool
  nm : (RSta × Int × Int × Int × Int × Unit) → D
  okd : D → ByteArray → Bool
  nd : D → ByteArray → Int
  okb : RSta → Int → Bool
  be : RSta → Int → Int
noncomputable def o8 (Z : K8) : Orc := Orc.cons 19 (ansP decS fun s => vB (Z.nk s)) (Orc.cons 21 (ansD dSI4 (fun a => Z.okn a.1) (fun a => .c (.d (Z.nm a.1))) fun _ => []) (Orc.cons 20 (ansD dDS (fun a => Z.okd a.1.1 a.1.2.1) (fun a => vI (Z.nd a.1.1 a.1.2.1)) fun _ => [])
  (Orc.cons 23 (inl Tryz.prog oOh na 1 Tryz.f23) (Orc.cons 24 (ansD dSI (fun a => Z.okb a.1.1 a.1.2.1) (fun a => vI (Z.be a.1.1 a.1.2.1)) fun _ => []) oOh))))
noncomputable def ann8 : Ann := annOf [(7, ⟨[1, 3, 4, 5, 6, 7], []⟩), (13, ⟨[1, 3, 4, 5, 6, 9], []⟩), (21, ⟨[1, 4, 3, 5, 6, 11], []⟩), (29, ⟨[1, 5, 4, 3, 6, 13], []⟩)]
noncomputable def L8_7 (Z : K8) (s : SSta) (g m : Nat) (i7 : Int) := LK Tryz.prog (o8 Z) ann8 (List.length (α := Nat × Blk) []) g Tryz.f9 7 m ⟨frm [(1, AV.c (C.ptr 0 0)), (3, AV.c (C.d (D.v (Value.int IntKind.i64 (↑(List.length (SSta.buses s)) : Int))))), (4, AV.c (C.d (D.v (Value.int IntKind.i64 (↑(List.length (SSta.lines s)) : Int))))), (5, AV.c (C.d (D.v (Value.int IntKind.i64 (↑(List.length (SSta.srcs s)) : Int))))), (6, AV.c (C.d (D.v (Value.int IntKind.i64 (↑(List.length (SSta.bays s)) : Int))))), (7, AV.c (C.d (D.v (Value.int IntKind.i64 i7))))] 0 Tryz.f9.ntmps, [(0, Blk.cells [C.d (D.v (Value.string (SSta.name s))), C.d (D.sl 1 (List.length (SSta.buses s)) fun i => busC (List.getD (SSta.buses s) i e0)), C.d (D.sl 5 (List.length (SSta.lines s)) fun i => lineC (List.getD (SSta.lines s) i line0)), C.d (D.sl 6 (List.length (SSta.srcs s)) fun i => srcC' (List.getD (SSta.srcs s) i src0)), C.d (D.sl 12 (List.length (SSta.bays s)) fun i => bayC (List.getD (SSta.bays s) i bay0))] 27)], 1⟩
noncomputable def L8_13 (Z : K8) (s : SSta) (g m : Nat) (i9 : Int) := LK Tryz.prog (o8 Z) ann8 (List.length (α := Nat × Blk) []) g Tryz.f9 13 m ⟨frm [(1, AV.c (C.ptr 0 0)), (3, AV.c (C.d (D.v (Value.int IntKind.i64 (↑(List.length (SSta.buses s)) : Int))))), (4, AV.c (C.d (D.v (Value.int IntKind.i64 (↑(List.length (SSta.lines s)) : Int))))), (5, AV.c (C.d (D.v (Value.int IntKind.i64 (↑(List.length (SSta.srcs s)) : Int))))), (6, AV.c (C.d (D.v (Value.int IntKind.i64 (↑(List.length (SSta.bays s)) : Int))))), (9, AV.c (C.d (D.v (Value.int IntKind.i64 i9))))] 0 Tryz.f9.ntmps, [(0, Blk.cells [C.d (D.v (Value.string (SSta.name s))), C.d (D.sl 1 (List.length (SSta.buses s)) fun i => busC (List.getD (SSta.buses s) i e0)), C.d (D.sl 5 (List.length (SSta.lines s)) fun i => lineC (List.getD (SSta.lines s) i line0)), C.d (D.sl 6 (List.length (SSta.srcs s)) fun i => srcC' (List.getD (SSta.srcs s) i src0)), C.d (D.sl 12 (List.length (SSta.bays s)) fun i => bayC (List.getD (SSta.bays s) i bay0))] 27)], 1⟩
noncomputable def L8_21 (Z : K8) (s : SSta) (g m : Nat) (i11 : Int) := LK Tryz.prog (o8 Z) ann8 (List.length (α := Nat × Blk) []) g Tryz.f9 21 m ⟨frm [(1, AV.c (C.ptr 0 0)), (3, AV.c (C.d (D.v (Value.int IntKind.i64 (↑(List.length (SSta.buses s)) : Int))))), (4, AV.c (C.d (D.v (Value.int IntKind.i64 (↑(List.length (SSta.lines s)) : Int))))), (5, AV.c (C.d (D.v (Value.int IntKind.i64 (↑(List.length (SSta.srcs s)) : Int))))), (6, AV.c (C.d (D.v (Value.int IntKind.i64 (↑(List.length (SSta.bays s)) : Int))))), (11, AV.c (C.d (D.v (Value.int IntKind.i64 i11))))] 0 Tryz.f9.ntmps, [(0, Blk.cells [C.d (D.v (Value.string (SSta.name s))), C.d (D.sl 1 (List.length (SSta.buses s)) fun i => busC (List.getD (SSta.buses s) i e0)), C.d (D.sl 5 (List.length (SSta.lines s)) fun i => lineC (List.getD (SSta.lines s) i line0)), C.d (D.sl 6 (List.length (SSta.srcs s)) fun i => srcC' (List.getD (SSta.srcs s) i src0)), C.d (D.sl 12 (List.length (SSta.bays s)) fun i => bayC (List.getD (SSta.bays s) i bay0))] 27)], 1⟩
noncomputable def L8_29 (Z : K8) (s : SSta) (g m : Nat) (i13 : Int) := LK Tryz.prog (o8 Z) ann8 (List.length (α := Nat × Blk) []) g Tryz.f9 29 m ⟨frm [(1, AV.c (C.ptr 0 0)), (3, AV.c (C.d (D.v (Value.int IntKind.i64 (↑(List.length (SSta.buses s)) : Int))))), (4, AV.c (C.d (D.v (Value.int IntKind.i64 (↑(List.length (SSta.lines s)) : Int))))), (5, AV.c (C.d (D.v (Value.int IntKind.i64 (↑(List.length (SSta.srcs s)) : Int))))), (6, AV.c (C.d (D.v (Value.int IntKind.i64 (↑(List.length (SSta.bays s)) : Int))))), (13, AV.c (C.d (D.v (Value.int IntKind.i64 i13))))] 0 Tryz.f9.ntmps, [(0, Blk.cells [C.d (D.v (Value.string (SSta.name s))), C.d (D.sl 1 (List.length (SSta.buses s)) fun i => busC (List.getD (SSta.buses s) i e0)), C.d (D.sl 5 (List.length (SSta.lines s)) fun i => lineC (List.getD (SSta.lines s) i line0)), C.d (D.sl 6 (List.length (SSta.srcs s)) fun i => srcC' (List.getD (SSta.srcs s) i src0)), C.d (D.sl 12 (List.length (SSta.bays s)) fun i => bayC (List.getD (SSta.bays s) i bay0))] 27)], 1⟩
theorem b8 : Tryz.f9.body = some (bodyOf Tryz.f9) := by kernel_rfl
set_option maxRecDepth 100000 in
theorem ev8 (Z : K8) (s : SSta) (g : Nat) : callC Tryz.prog (o8 Z) ann8 g Tryz.f9 (bodyOf Tryz.f9) [aSta s] [] =
 (bif !K8.nk Z (SSta.name s) then some (T.leaf (AV.c (C.d (D.v (Value.int IntKind.i64 (7 : Int)))), [])) else (bif decide ((↑(List.length (SSta.buses s)) : Int) < (1 : Int)) then
 some (T.leaf (AV.c (C.d (D.v (Value.int IntKind.i64 (3 : Int)))), [])) else (bif decide ((↑(List.length (SSta.buses s)) : Int) > (4 : Int)) then some (T.leaf (AV.c (C.d (D.v
 (Value.int IntKind.i64 (3 : Int)))), [])) else (bif decide ((↑(List.length (SSta.lines s)) : Int) > (6 : Int)) then some (T.leaf (AV.c (C.d (D.v (Value.int IntKind.i64 (3 : Int)))),
 [])) else (bif decide ((↑(List.length (SSta.srcs s)) : Int) > (4 : Int)) then some (T.leaf (AV.c (C.d (D.v (Value.int IntKind.i64 (3 : Int)))), [])) else (bif decide ((↑(List.length
 (SSta.bays s)) : Int) > (16 : Int)) then some (T.leaf (AV.c (C.d (D.v (Value.int IntKind.i64 (3 : Int)))), [])) else L8_7 Z s g g ((0 : Int)))))))) := by kernel_rfl
set_option maxRecDepth 100000 in
theorem st8_7 (Z : K8) (s : SSta) (g m : Nat) (i7 : Int) : L8_7 Z s g (m + 1) i7 =
 (bif decide (i7 < (↑(List.length (SSta.buses s)) : Int)) then (bif K8.okn Z ((SSta.name s, D.sl (1 : Nat) (List.length (SSta.buses s)) fun i => busC (List.getD (SSta.buses s) i e0),
 D.sl (5 : Nat) (List.length (SSta.lines s)) fun i => lineC (List.getD (SSta.lines s) i line0), D.sl (6 : Nat) (List.length (SSta.srcs s)) fun i => srcC' (List.getD (SSta.srcs s) i
 src0), D.sl (12 : Nat) (List.length (SSta.bays s)) fun i => bayC (List.getD (SSta.bays s) i bay0), ()), i7, (0 : Int), (0 : Int), (0 : Int), ()) then (bif decide ((0 : Int) ≤ i7) &&
 decide (i7 < (↑(List.length (SSta.buses s)) : Int)) then (bif K8.okd Z (K8.nm Z ((SSta.name s, D.sl (1 : Nat) (List.length (SSta.buses s)) fun i => busC (List.getD (SSta.buses s) i
 e0), D.sl (5 : Nat) (List.length (SSta.lines s)) fun i => lineC (List.getD (SSta.lines s) i line0), D.sl (6 : Nat) (List.length (SSta.srcs s)) fun i => srcC' (List.getD (SSta.srcs
 s) i src0), D.sl (12 : Nat) (List.length (SSta.bays s)) fun i => bayC (List.getD (SSta.bays s) i bay0), ()), i7, (0 : Int), (0 : Int), (0 : Int), ())) (List.getD (SSta.buses s)
 (Int.toNat i7) e0) then (bif K8.nd Z (K8.nm Z ((SSta.name s, D.sl (1 : Nat) (List.length (SSta.buses s)) fun i => busC (List.getD (SSta.buses s) i e0), D.sl (5 : Nat) (List.length
 (SSta.lines s)) fun i => lineC (List.getD (SSta.lines s) i line0), D.sl (6 : Nat) (List.length (SSta.srcs s)) fun i => srcC' (List.getD (SSta.srcs s) i src0), D.sl (12 : Nat)
 (List.length (SSta.bays s)) fun i => bayC (List.getD (SSta.bays s) i bay0), ()), i7, (0 : Int), (0 : Int), (0 : Int), ())) (List.getD (SSta.buses s) (Int.toNat i7) e0) != (0 : Int)
 then some (T.leaf (AV.c (C.d (D.v (Value.int IntKind.i64 (K8.nd Z (K8.nm Z ((SSta.name s, D.sl (1 : Nat) (List.length (SSta.buses s)) fun i => busC (List.getD (SSta.buses s) i e0),
 D.sl (5 : Nat) (List.length (SSta.lines s)) fun i => lineC (List.getD (SSta.lines s) i line0), D.sl (6 : Nat) (List.length (SSta.srcs s)) fun i => srcC' (List.getD (SSta.srcs s) i
 src0), D.sl (12 : Nat) (List.length (SSta.bays s)) fun i => bayC (List.getD (SSta.bays s) i bay0), ()), i7, (0 : Int), (0 : Int), (0 : Int), ())) (List.getD (SSta.buses s)
 (Int.toNat i7) e0))))), [])) else L8_7 Z s g m (IntKind.wrap IntKind.i64 (i7 + (1 : Int)))) else none) else none) else none) else L8_13 Z s g g ((0 : Int))) := by kernel_rfl
set_option maxRecDepth 100000 in
theorem st8_13 (Z : K8) (s : SSta) (g m : Nat) (i9 : Int) : L8_13 Z s g (m + 1) i9 =
 (bif decide (i9 < (↑(List.length (SSta.lines s)) : Int)) then (bif K8.okn Z ((SSta.name s, D.sl (1 : Nat) (List.length (SSta.buses s)) fun i => busC (List.getD (SSta.buses s) i e0),
 D.sl (5 : Nat) (List.length (SSta.lines s)) fun i => lineC (List.getD (SSta.lines s) i line0), D.sl (6 : Nat) (List.length (SSta.srcs s)) fun i => srcC' (List.getD (SSta.srcs s) i
 src0), D.sl (12 : Nat) (List.length (SSta.bays s)) fun i => bayC (List.getD (SSta.bays s) i bay0), ()), (↑(List.length (SSta.buses s)) : Int), i9, (0 : Int), (0 : Int), ()) then
 (bif decide ((0 : Int) ≤ i9) && decide (i9 < (↑(List.length (SSta.lines s)) : Int)) then (bif K8.okd Z (K8.nm Z ((SSta.name s, D.sl (1 : Nat) (List.length (SSta.buses s)) fun i =>
 busC (List.getD (SSta.buses s) i e0), D.sl (5 : Nat) (List.length (SSta.lines s)) fun i => lineC (List.getD (SSta.lines s) i line0), D.sl (6 : Nat) (List.length (SSta.srcs s)) fun i
 => srcC' (List.getD (SSta.srcs s) i src0), D.sl (12 : Nat) (List.length (SSta.bays s)) fun i => bayC (List.getD (SSta.bays s) i bay0), ()), (↑(List.length (SSta.buses s)) : Int),
 i9, (0 : Int), (0 : Int), ())) (SLine.name (List.getD (SSta.lines s) (Int.toNat i9) line0)) then (bif K8.nd Z (K8.nm Z ((SSta.name s, D.sl (1 : Nat) (List.length (SSta.buses s)) fun
 i => busC (List.getD (SSta.buses s) i e0), D.sl (5 : Nat) (List.length (SSta.lines s)) fun i => lineC (List.getD (SSta.lines s) i line0), D.sl (6 : Nat) (List.length (SSta.srcs s))
 fun i => srcC' (List.getD (SSta.srcs s) i src0), D.sl (12 : Nat) (List.length (SSta.bays s)) fun i => bayC (List.getD (SSta.bays s) i bay0), ()), (↑(List.length (SSta.buses s)) :
 Int), i9, (0 : Int), (0 : Int), ())) (SLine.name (List.getD (SSta.lines s) (Int.toNat i9) line0)) == (0 : Int) then (bif decide ((0 : Int) ≤ i9) && decide (i9 < (↑(List.length
 (SSta.lines s)) : Int)) then (bif decide (SLine.r1 (List.getD (SSta.lines s) (Int.toNat i9) line0) ≥ (0 : Int)) then (bif decide (SLine.r1 (List.getD (SSta.lines s) (Int.toNat i9)
 line0) ≤ (1000 : Int)) then (bif decide (SLine.x1 (List.getD (SSta.lines s) (Int.toNat i9) line0) ≥ (1 : Int)) then (bif !decide (SLine.x1 (List.getD (SSta.lines s) (Int.toNat i9)
 line0) ≤ (1000 : Int)) then some (T.leaf (AV.c (C.d (D.v (Value.int IntKind.i64 (2 : Int)))), [])) else (bif decide ((0 : Int) ≤ i9) && decide (i9 < (↑(List.length (SSta.lines s)) :
 Int)) then (bif decide (SLine.r0 (List.getD (SSta.lines s) (Int.toNat i9) line0) ≥ (0 : Int)) then (bif decide (SLine.r0 (List.getD (SSta.lines s) (Int.toNat i9) line0) ≤ (1000 :
 Int)) then (bif decide (SLine.x0 (List.getD (SSta.lines s) (Int.toNat i9) line0) ≥ (1 : Int)) then (bif !decide (SLine.x0 (List.getD (SSta.lines s) (Int.toNat i9) line0) ≤ (1000 :
 Int)) then some (T.leaf (AV.c (C.d (D.v (Value.int IntKind.i64 (2 : Int)))), [])) else (bif K8.nd Z (K8.nm Z ((SSta.name s, D.sl (1 : Nat) (List.length (SSta.buses s)) fun i => busC
 (List.getD (SSta.buses s) i e0), D.sl (5 : Nat) (List.length (SSta.lines s)) fun i => lineC (List.getD (SSta.lines s) i line0), D.sl (6 : Nat) (List.length (SSta.srcs s)) fun i =>
 srcC' (List.getD (SSta.srcs s) i src0), D.sl (12 : Nat) (List.length (SSta.bays s)) fun i => bayC (List.getD (SSta.bays s) i bay0), ()), (↑(List.length (SSta.buses s)) : Int), i9,
 (0 : Int), (0 : Int), ())) (SLine.name (List.getD (SSta.lines s) (Int.toNat i9) line0)) != (0 : Int) then some (T.leaf (AV.c (C.d (D.v (Value.int IntKind.i64 (K8.nd Z (K8.nm Z
 ((SSta.name s, D.sl (1 : Nat) (List.length (SSta.buses s)) fun i => busC (List.getD (SSta.buses s) i e0), D.sl (5 : Nat) (List.length (SSta.lines s)) fun i => lineC (List.getD
 (SSta.lines s) i line0), D.sl (6 : Nat) (List.length (SSta.srcs s)) fun i => srcC' (List.getD (SSta.srcs s) i src0), D.sl (12 : Nat) (List.length (SSta.bays s)) fun i => bayC
 (List.getD (SSta.bays s) i bay0), ()), (↑(List.length (SSta.buses s)) : Int), i9, (0 : Int), (0 : Int), ())) (SLine.name (List.getD (SSta.lines s) (Int.toNat i9) line0)))))), []))
 else L8_13 Z s g m (IntKind.wrap IntKind.i64 (i9 + (1 : Int))))) else some (T.leaf (AV.c (C.d (D.v (Value.int IntKind.i64 (2 : Int)))), []))) else some (T.leaf (AV.c (C.d (D.v
 (Value.int IntKind.i64 (2 : Int)))), []))) else some (T.leaf (AV.c (C.d (D.v (Value.int IntKind.i64 (2 : Int)))), []))) else none)) else some (T.leaf (AV.c (C.d (D.v (Value.int
 IntKind.i64 (2 : Int)))), []))) else some (T.leaf (AV.c (C.d (D.v (Value.int IntKind.i64 (2 : Int)))), []))) else some (T.leaf (AV.c (C.d (D.v (Value.int IntKind.i64 (2 : Int)))),
 []))) else none) else (bif K8.nd Z (K8.nm Z ((SSta.name s, D.sl (1 : Nat) (List.length (SSta.buses s)) fun i => busC (List.getD (SSta.buses s) i e0), D.sl (5 : Nat) (List.length
 (SSta.lines s)) fun i => lineC (List.getD (SSta.lines s) i line0), D.sl (6 : Nat) (List.length (SSta.srcs s)) fun i => srcC' (List.getD (SSta.srcs s) i src0), D.sl (12 : Nat)
 (List.length (SSta.bays s)) fun i => bayC (List.getD (SSta.bays s) i bay0), ()), (↑(List.length (SSta.buses s)) : Int), i9, (0 : Int), (0 : Int), ())) (SLine.name (List.getD
 (SSta.lines s) (Int.toNat i9) line0)) != (0 : Int) then some (T.leaf (AV.c (C.d (D.v (Value.int IntKind.i64 (K8.nd Z (K8.nm Z ((SSta.name s, D.sl (1 : Nat) (List.length (SSta.buses
 s)) fun i => busC (List.getD (SSta.buses s) i e0), D.sl (5 : Nat) (List.length (SSta.lines s)) fun i => lineC (List.getD (SSta.lines s) i line0), D.sl (6 : Nat) (List.length
 (SSta.srcs s)) fun i => srcC' (List.getD (SSta.srcs s) i src0), D.sl (12 : Nat) (List.length (SSta.bays s)) fun i => bayC (List.getD (SSta.bays s) i bay0), ()), (↑(List.length
 (SSta.buses s)) : Int), i9, (0 : Int), (0 : Int), ())) (SLine.name (List.getD (SSta.lines s) (Int.toNat i9) line0)))))), [])) else L8_13 Z s g m (IntKind.wrap IntKind.i64 (i9 + (1 :
 Int))))) else none) else none) else none) else L8_21 Z s g g ((0 : Int))) := by kernel_rfl
set_option maxRecDepth 100000 in
theorem st8_21 (Z : K8) (s : SSta) (g m : Nat) (i11 : Int) : L8_21 Z s g (m + 1) i11 =
 (bif decide (i11 < (↑(List.length (SSta.srcs s)) : Int)) then (bif K8.okn Z ((SSta.name s, D.sl (1 : Nat) (List.length (SSta.buses s)) fun i => busC (List.getD (SSta.buses s) i e0),
 D.sl (5 : Nat) (List.length (SSta.lines s)) fun i => lineC (List.getD (SSta.lines s) i line0), D.sl (6 : Nat) (List.length (SSta.srcs s)) fun i => srcC' (List.getD (SSta.srcs s) i
 src0), D.sl (12 : Nat) (List.length (SSta.bays s)) fun i => bayC (List.getD (SSta.bays s) i bay0), ()), (↑(List.length (SSta.buses s)) : Int), (↑(List.length (SSta.lines s)) : Int),
 i11, (0 : Int), ()) then (bif decide ((0 : Int) ≤ i11) && decide (i11 < (↑(List.length (SSta.srcs s)) : Int)) then (bif K8.okd Z (K8.nm Z ((SSta.name s, D.sl (1 : Nat) (List.length
 (SSta.buses s)) fun i => busC (List.getD (SSta.buses s) i e0), D.sl (5 : Nat) (List.length (SSta.lines s)) fun i => lineC (List.getD (SSta.lines s) i line0), D.sl (6 : Nat)
 (List.length (SSta.srcs s)) fun i => srcC' (List.getD (SSta.srcs s) i src0), D.sl (12 : Nat) (List.length (SSta.bays s)) fun i => bayC (List.getD (SSta.bays s) i bay0), ()),
 (↑(List.length (SSta.buses s)) : Int), (↑(List.length (SSta.lines s)) : Int), i11, (0 : Int), ())) (SSrc.name (List.getD (SSta.srcs s) (Int.toNat i11) src0)) then (bif K8.nd Z
 (K8.nm Z ((SSta.name s, D.sl (1 : Nat) (List.length (SSta.buses s)) fun i => busC (List.getD (SSta.buses s) i e0), D.sl (5 : Nat) (List.length (SSta.lines s)) fun i => lineC
 (List.getD (SSta.lines s) i line0), D.sl (6 : Nat) (List.length (SSta.srcs s)) fun i => srcC' (List.getD (SSta.srcs s) i src0), D.sl (12 : Nat) (List.length (SSta.bays s)) fun i =>
 bayC (List.getD (SSta.bays s) i bay0), ()), (↑(List.length (SSta.buses s)) : Int), (↑(List.length (SSta.lines s)) : Int), i11, (0 : Int), ())) (SSrc.name (List.getD (SSta.srcs s)
 (Int.toNat i11) src0)) == (0 : Int) then (bif decide ((0 : Int) ≤ i11) && decide (i11 < (↑(List.length (SSta.srcs s)) : Int)) then (bif decide (SSrc.emf (List.getD (SSta.srcs s)
 (Int.toNat i11) src0) ≥ (1 : Int)) then (bif decide (SSrc.emf (List.getD (SSta.srcs s) (Int.toNat i11) src0) ≤ (1000000 : Int)) then (bif decide (SSrc.r1 (List.getD (SSta.srcs s)
 (Int.toNat i11) src0) ≥ (0 : Int)) then (bif decide (SSrc.r1 (List.getD (SSta.srcs s) (Int.toNat i11) src0) ≤ (1000 : Int)) then (bif decide (SSrc.x1 (List.getD (SSta.srcs s)
 (Int.toNat i11) src0) ≥ (1 : Int)) then (bif decide (SSrc.x1 (List.getD (SSta.srcs s) (Int.toNat i11) src0) ≤ (1000 : Int)) then (bif decide (SSrc.r0 (List.getD (SSta.srcs s)
 (Int.toNat i11) src0) ≥ (0 : Int)) then (bif decide (SSrc.r0 (List.getD (SSta.srcs s) (Int.toNat i11) src0) ≤ (1000 : Int)) then (bif decide (SSrc.x0 (List.getD (SSta.srcs s)
 (Int.toNat i11) src0) ≥ (1 : Int)) then (bif !decide (SSrc.x0 (List.getD (SSta.srcs s) (Int.toNat i11) src0) ≤ (1000 : Int)) then some (T.leaf (AV.c (C.d (D.v (Value.int IntKind.i64
 (2 : Int)))), [])) else (bif K8.nd Z (K8.nm Z ((SSta.name s, D.sl (1 : Nat) (List.length (SSta.buses s)) fun i => busC (List.getD (SSta.buses s) i e0), D.sl (5 : Nat) (List.length
 (SSta.lines s)) fun i => lineC (List.getD (SSta.lines s) i line0), D.sl (6 : Nat) (List.length (SSta.srcs s)) fun i => srcC' (List.getD (SSta.srcs s) i src0), D.sl (12 : Nat)
 (List.length (SSta.bays s)) fun i => bayC (List.getD (SSta.bays s) i bay0), ()), (↑(List.length (SSta.buses s)) : Int), (↑(List.length (SSta.lines s)) : Int), i11, (0 : Int), ()))
 (SSrc.name (List.getD (SSta.srcs s) (Int.toNat i11) src0)) != (0 : Int) then some (T.leaf (AV.c (C.d (D.v (Value.int IntKind.i64 (K8.nd Z (K8.nm Z ((SSta.name s, D.sl (1 : Nat)
 (List.length (SSta.buses s)) fun i => busC (List.getD (SSta.buses s) i e0), D.sl (5 : Nat) (List.length (SSta.lines s)) fun i => lineC (List.getD (SSta.lines s) i line0), D.sl (6 :
 Nat) (List.length (SSta.srcs s)) fun i => srcC' (List.getD (SSta.srcs s) i src0), D.sl (12 : Nat) (List.length (SSta.bays s)) fun i => bayC (List.getD (SSta.bays s) i bay0), ()),
 (↑(List.length (SSta.buses s)) : Int), (↑(List.length (SSta.lines s)) : Int), i11, (0 : Int), ())) (SSrc.name (List.getD (SSta.srcs s) (Int.toNat i11) src0)))))), [])) else L8_21 Z
 s g m (IntKind.wrap IntKind.i64 (i11 + (1 : Int))))) else some (T.leaf (AV.c (C.d (D.v (Value.int IntKind.i64 (2 : Int)))), []))) else some (T.leaf (AV.c (C.d (D.v (Value.int
 IntKind.i64 (2 : Int)))), []))) else some (T.leaf (AV.c (C.d (D.v (Value.int IntKind.i64 (2 : Int)))), []))) else some (T.leaf (AV.c (C.d (D.v (Value.int IntKind.i64 (2 : Int)))),
 []))) else some (T.leaf (AV.c (C.d (D.v (Value.int IntKind.i64 (2 : Int)))), []))) else some (T.leaf (AV.c (C.d (D.v (Value.int IntKind.i64 (2 : Int)))), []))) else some (T.leaf
 (AV.c (C.d (D.v (Value.int IntKind.i64 (2 : Int)))), []))) else some (T.leaf (AV.c (C.d (D.v (Value.int IntKind.i64 (2 : Int)))), []))) else some (T.leaf (AV.c (C.d (D.v (Value.int
 IntKind.i64 (2 : Int)))), []))) else none) else (bif K8.nd Z (K8.nm Z ((SSta.name s, D.sl (1 : Nat) (List.length (SSta.buses s)) fun i => busC (List.getD (SSta.buses s) i e0), D.sl
 (5 : Nat) (List.length (SSta.lines s)) fun i => lineC (List.getD (SSta.lines s) i line0), D.sl (6 : Nat) (List.length (SSta.srcs s)) fun i => srcC' (List.getD (SSta.srcs s) i src0),
 D.sl (12 : Nat) (List.length (SSta.bays s)) fun i => bayC (List.getD (SSta.bays s) i bay0), ()), (↑(List.length (SSta.buses s)) : Int), (↑(List.length (SSta.lines s)) : Int), i11,
 (0 : Int), ())) (SSrc.name (List.getD (SSta.srcs s) (Int.toNat i11) src0)) != (0 : Int) then some (T.leaf (AV.c (C.d (D.v (Value.int IntKind.i64 (K8.nd Z (K8.nm Z ((SSta.name s,
 D.sl (1 : Nat) (List.length (SSta.buses s)) fun i => busC (List.getD (SSta.buses s) i e0), D.sl (5 : Nat) (List.length (SSta.lines s)) fun i => lineC (List.getD (SSta.lines s) i
 line0), D.sl (6 : Nat) (List.length (SSta.srcs s)) fun i => srcC' (List.getD (SSta.srcs s) i src0), D.sl (12 : Nat) (List.length (SSta.bays s)) fun i => bayC (List.getD (SSta.bays
 s) i bay0), ()), (↑(List.length (SSta.buses s)) : Int), (↑(List.length (SSta.lines s)) : Int), i11, (0 : Int), ())) (SSrc.name (List.getD (SSta.srcs s) (Int.toNat i11) src0)))))),
 [])) else L8_21 Z s g m (IntKind.wrap IntKind.i64 (i11 + (1 : Int))))) else none) else none) else none) else L8_29 Z s g g ((0 : Int))) := by kernel_rfl
set_option maxRecDepth 100000 in
theorem st8_29 (Z : K8) (s : SSta) (g m : Nat) (i13 : Int) : L8_29 Z s g (m + 1) i13 =
 (bif decide (i13 < (↑(List.length (SSta.bays s)) : Int)) then (bif K8.okn Z ((SSta.name s, D.sl (1 : Nat) (List.length (SSta.buses s)) fun i => busC (List.getD (SSta.buses s) i e0),
 D.sl (5 : Nat) (List.length (SSta.lines s)) fun i => lineC (List.getD (SSta.lines s) i line0), D.sl (6 : Nat) (List.length (SSta.srcs s)) fun i => srcC' (List.getD (SSta.srcs s) i
 src0), D.sl (12 : Nat) (List.length (SSta.bays s)) fun i => bayC (List.getD (SSta.bays s) i bay0), ()), (↑(List.length (SSta.buses s)) : Int), (↑(List.length (SSta.lines s)) : Int),
 (↑(List.length (SSta.srcs s)) : Int), i13, ()) then (bif decide ((0 : Int) ≤ i13) && decide (i13 < (↑(List.length (SSta.bays s)) : Int)) then (bif K8.okd Z (K8.nm Z ((SSta.name s,
 D.sl (1 : Nat) (List.length (SSta.buses s)) fun i => busC (List.getD (SSta.buses s) i e0), D.sl (5 : Nat) (List.length (SSta.lines s)) fun i => lineC (List.getD (SSta.lines s) i
 line0), D.sl (6 : Nat) (List.length (SSta.srcs s)) fun i => srcC' (List.getD (SSta.srcs s) i src0), D.sl (12 : Nat) (List.length (SSta.bays s)) fun i => bayC (List.getD (SSta.bays
 s) i bay0), ()), (↑(List.length (SSta.buses s)) : Int), (↑(List.length (SSta.lines s)) : Int), (↑(List.length (SSta.srcs s)) : Int), i13, ())) (SBay.name (List.getD (SSta.bays s)
 (Int.toNat i13) bay0)) then (bif K8.nd Z (K8.nm Z ((SSta.name s, D.sl (1 : Nat) (List.length (SSta.buses s)) fun i => busC (List.getD (SSta.buses s) i e0), D.sl (5 : Nat)
 (List.length (SSta.lines s)) fun i => lineC (List.getD (SSta.lines s) i line0), D.sl (6 : Nat) (List.length (SSta.srcs s)) fun i => srcC' (List.getD (SSta.srcs s) i src0), D.sl (12
 : Nat) (List.length (SSta.bays s)) fun i => bayC (List.getD (SSta.bays s) i bay0), ()), (↑(List.length (SSta.buses s)) : Int), (↑(List.length (SSta.lines s)) : Int), (↑(List.length
 (SSta.srcs s)) : Int), i13, ())) (SBay.name (List.getD (SSta.bays s) (Int.toNat i13) bay0)) == (0 : Int) then (bif K8.okb Z (SSta.name s, D.sl (1 : Nat) (List.length (SSta.buses s))
 fun i => busC (List.getD (SSta.buses s) i e0), D.sl (5 : Nat) (List.length (SSta.lines s)) fun i => lineC (List.getD (SSta.lines s) i line0), D.sl (6 : Nat) (List.length (SSta.srcs
 s)) fun i => srcC' (List.getD (SSta.srcs s) i src0), D.sl (12 : Nat) (List.length (SSta.bays s)) fun i => bayC (List.getD (SSta.bays s) i bay0), ()) i13 then (bif K8.be Z (SSta.name
 s, D.sl (1 : Nat) (List.length (SSta.buses s)) fun i => busC (List.getD (SSta.buses s) i e0), D.sl (5 : Nat) (List.length (SSta.lines s)) fun i => lineC (List.getD (SSta.lines s) i
 line0), D.sl (6 : Nat) (List.length (SSta.srcs s)) fun i => srcC' (List.getD (SSta.srcs s) i src0), D.sl (12 : Nat) (List.length (SSta.bays s)) fun i => bayC (List.getD (SSta.bays
 s) i bay0), ()) i13 != (0 : Int) then some (T.leaf (AV.c (C.d (D.v (Value.int IntKind.i64 (K8.be Z (SSta.name s, D.sl (1 : Nat) (List.length (SSta.buses s)) fun i => busC (List.getD
 (SSta.buses s) i e0), D.sl (5 : Nat) (List.length (SSta.lines s)) fun i => lineC (List.getD (SSta.lines s) i line0), D.sl (6 : Nat) (List.length (SSta.srcs s)) fun i => srcC'
 (List.getD (SSta.srcs s) i src0), D.sl (12 : Nat) (List.length (SSta.bays s)) fun i => bayC (List.getD (SSta.bays s) i bay0), ()) i13)))), [])) else L8_29 Z s g m (IntKind.wrap
 IntKind.i64 (i13 + (1 : Int)))) else none) else (bif K8.nd Z (K8.nm Z ((SSta.name s, D.sl (1 : Nat) (List.length (SSta.buses s)) fun i => busC (List.getD (SSta.buses s) i e0), D.sl
 (5 : Nat) (List.length (SSta.lines s)) fun i => lineC (List.getD (SSta.lines s) i line0), D.sl (6 : Nat) (List.length (SSta.srcs s)) fun i => srcC' (List.getD (SSta.srcs s) i src0),
 D.sl (12 : Nat) (List.length (SSta.bays s)) fun i => bayC (List.getD (SSta.bays s) i bay0), ()), (↑(List.length (SSta.buses s)) : Int), (↑(List.length (SSta.lines s)) : Int),
 (↑(List.length (SSta.srcs s)) : Int), i13, ())) (SBay.name (List.getD (SSta.bays s) (Int.toNat i13) bay0)) != (0 : Int) then some (T.leaf (AV.c (C.d (D.v (Value.int IntKind.i64
 (K8.nd Z (K8.nm Z ((SSta.name s, D.sl (1 : Nat) (List.length (SSta.buses s)) fun i => busC (List.getD (SSta.buses s) i e0), D.sl (5 : Nat) (List.length (SSta.lines s)) fun i =>
 lineC (List.getD (SSta.lines s) i line0), D.sl (6 : Nat) (List.length (SSta.srcs s)) fun i => srcC' (List.getD (SSta.srcs s) i src0), D.sl (12 : Nat) (List.length (SSta.bays s)) fun
 i => bayC (List.getD (SSta.bays s) i bay0), ()), (↑(List.length (SSta.buses s)) : Int), (↑(List.length (SSta.lines s)) : Int), (↑(List.length (SSta.srcs s)) : Int), i13, ()))
 (SBay.name (List.getD (SSta.bays s) (Int.toNat i13) bay0)))))), [])) else L8_29 Z s g m (IntKind.wrap IntKind.i64 (i13 + (1 : Int))))) else none) else none) else none) else some
 (T.leaf (AV.c (C.d (D.v (Value.int IntKind.i64 (0 : Int)))), []))) := by kernel_rfl
end Go.Proofs.YtngoglhlhlfknaaGreat.st
