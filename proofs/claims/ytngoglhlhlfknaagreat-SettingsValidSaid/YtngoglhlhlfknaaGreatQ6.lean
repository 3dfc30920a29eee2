/-
  An evaluator of Go code on abstract values, proved sound, and what it computes of the functions that the statement reaches (part 6). No condition.
-/
import Derived.Test.YtngoglhlhlfknaaGreatQ5
import Derived.Test.YtngoglhlhlfknaaGreatProg
import Derived.KernelRfl
set_option maxRecDepth 100000
namespace Go.Proofs.YtngoglhlhlfknaaGreat.st
open Go.RowKit Go.Eb
noncomputable def oBe : Orc := Orc.cons 45 (inl Tryz.prog Orc.nil na 1 Tryz.f45) Orc.nil
noncomputable def oOh : Orc := Orc.cons 22 (inl Tryz.prog oBe na 1 Tryz.f22) oBe
noncomputable def ann49 : Ann := annOf []
theorem b49 : Tryz.f47.body = some (bodyOf Tryz.f47) := by kernel_rfl
theorem ev49 (x : SBay) (g : Nat) : callC Tryz.prog oOh ann49 g Tryz.f47 (bodyOf Tryz.f47) [aBay x] [] =
 (bif SBay.kind x == (1 : Int) then (bif decide (SBay.fin x ≥ (0 : Int)) then (bif !decide (SBay.fin x ≤ (1 : Int)) then some (T.leaf (AV.c (.d (.v (.bool false))), [])) else
 (bif !SBay.kind x == (1 : Int) then (bif SBay.fin x != (0 : Int) then some (T.leaf (AV.c (.d (.v (.bool false))), [])) else (bif SBay.kind x == (3 : Int) then (bif decide
 (SBay.zr x ≥ (0 : Int)) then (bif decide (SBay.zr x ≤ (1000 : Int)) then (bif decide (SBay.zx x ≥ (1 : Int)) then (bif !decide (SBay.zx x ≤ (1000 : Int)) then some (T.leaf (AV.c
 (C.d (.v (.bool false))), [])) else (bif !SBay.kind x == (3 : Int) then (bif !(SBay.zr x == (0 : Int) && (SBay.zx x == (0 : Int) && true)) then some (T.leaf (AV.c (C.d (D.v
 (Value.bool false))), [])) else (bif decide (SBay.ct x ≥ (1 : Int)) then (bif !decide (SBay.ct x ≤ (100 : Int)) then some (T.leaf (AV.c (.d (.v (.bool false))), [])) else
 (bif SBay.kind x == (3 : Int) then (bif SBay.vt x != (0 : Int) then some (T.leaf (AV.c (.d (.v (.bool false))), [])) else (bif !SBay.kind x == (3 : Int) then (bif decide
 (SBay.vt x ≥ (1 : Int)) then (bif !decide (SBay.vt x ≤ (10000 : Int)) then some (T.leaf (AV.c (.d (.v (.bool false))), [])) else (bif decide (SBay.sat x ≥ (0 : Int)) then
 (bif decide (SBay.sat x ≤ (16383 : Int)) then (bif decide (SBay.travel x ≥ (1 : Int)) then some (T.leaf (AV.c (.d (.v (.bool (decide (SBay.travel x ≤ (6 : Int)))))), []))
 else some (T.leaf (AV.c (.d (.v (.bool false))), []))) else some (T.leaf (AV.c (.d (.v (.bool false))), []))) else some (T.leaf (AV.c (.d (.v (.bool false))),
 [])))) else some (T.leaf (AV.c (.d (.v (.bool false))), []))) else (bif decide (SBay.sat x ≥ (0 : Int)) then (bif decide (SBay.sat x ≤ (16383 : Int)) then (bif decide
 (SBay.travel x ≥ (1 : Int)) then some (T.leaf (AV.c (.d (.v (.bool (decide (SBay.travel x ≤ (6 : Int)))))), [])) else some (T.leaf (AV.c (.d (.v (.bool false))), [])))
 else some (T.leaf (AV.c (.d (.v (.bool false))), []))) else some (T.leaf (AV.c (.d (.v (.bool false))), []))))) else (bif !SBay.kind x == (3 : Int) then (bif decide
 (SBay.vt x ≥ (1 : Int)) then (bif !decide (SBay.vt x ≤ (10000 : Int)) then some (T.leaf (AV.c (.d (.v (.bool false))), [])) else (bif decide (SBay.sat x ≥ (0 : Int)) then
 (bif decide (SBay.sat x ≤ (16383 : Int)) then (bif decide (SBay.travel x ≥ (1 : Int)) then some (T.leaf (AV.c (.d (.v (.bool (decide (SBay.travel x ≤ (6 : Int)))))), []))
 else some (T.leaf (AV.c (.d (.v (.bool false))), []))) else some (T.leaf (AV.c (.d (.v (.bool false))), []))) else some (T.leaf (AV.c (.d (.v (.bool false))),
 [])))) else some (T.leaf (AV.c (.d (.v (.bool false))), []))) else (bif decide (SBay.sat x ≥ (0 : Int)) then (bif decide (SBay.sat x ≤ (16383 : Int)) then (bif decide
 (SBay.travel x ≥ (1 : Int)) then some (T.leaf (AV.c (.d (.v (.bool (decide (SBay.travel x ≤ (6 : Int)))))), [])) else some (T.leaf (AV.c (.d (.v (.bool false))), [])))
 else some (T.leaf (AV.c (.d (.v (.bool false))), []))) else some (T.leaf (AV.c (.d (.v (.bool false))), [])))))) else some (T.leaf (AV.c (C.d (D.v (Value.bool
 false))), [])))) else (bif decide (SBay.ct x ≥ (1 : Int)) then (bif !decide (SBay.ct x ≤ (100 : Int)) then some (T.leaf (AV.c (.d (.v (.bool false))), [])) else (bif
 SBay.kind x == (3 : Int) then (bif SBay.vt x != (0 : Int) then some (T.leaf (AV.c (.d (.v (.bool false))), [])) else (bif !SBay.kind x == (3 : Int) then (bif decide (SBay.vt
 x ≥ (1 : Int)) then (bif !decide (SBay.vt x ≤ (10000 : Int)) then some (T.leaf (AV.c (.d (.v (.bool false))), [])) else (bif decide (SBay.sat x ≥ (0 : Int)) then (bif decide
 (SBay.sat x ≤ (16383 : Int)) then (bif decide (SBay.travel x ≥ (1 : Int)) then some (T.leaf (AV.c (.d (.v (.bool (decide (SBay.travel x ≤ (6 : Int)))))), [])) else some
 (T.leaf (AV.c (.d (.v (.bool false))), []))) else some (T.leaf (AV.c (.d (.v (.bool false))), []))) else some (T.leaf (AV.c (.d (.v (.bool false))), [])))) else
 some (T.leaf (AV.c (.d (.v (.bool false))), []))) else (bif decide (SBay.sat x ≥ (0 : Int)) then (bif decide (SBay.sat x ≤ (16383 : Int)) then (bif decide (SBay.travel x ≥ (1
 : Int)) then some (T.leaf (AV.c (.d (.v (.bool (decide (SBay.travel x ≤ (6 : Int)))))), [])) else some (T.leaf (AV.c (.d (.v (.bool false))), []))) else some (T.leaf
 (AV.c (.d (.v (.bool false))), []))) else some (T.leaf (AV.c (.d (.v (.bool false))), []))))) else (bif !SBay.kind x == (3 : Int) then (bif decide (SBay.vt x ≥ (1 :
 Int)) then (bif !decide (SBay.vt x ≤ (10000 : Int)) then some (T.leaf (AV.c (.d (.v (.bool false))), [])) else (bif decide (SBay.sat x ≥ (0 : Int)) then (bif decide (SBay.sat
 x ≤ (16383 : Int)) then (bif decide (SBay.travel x ≥ (1 : Int)) then some (T.leaf (AV.c (.d (.v (.bool (decide (SBay.travel x ≤ (6 : Int)))))), [])) else some (T.leaf (AV.c
 (C.d (.v (.bool false))), []))) else some (T.leaf (AV.c (.d (.v (.bool false))), []))) else some (T.leaf (AV.c (.d (.v (.bool false))), [])))) else some (T.leaf
 (AV.c (.d (.v (.bool false))), []))) else (bif decide (SBay.sat x ≥ (0 : Int)) then (bif decide (SBay.sat x ≤ (16383 : Int)) then (bif decide (SBay.travel x ≥ (1 : Int)) then
 some (T.leaf (AV.c (.d (.v (.bool (decide (SBay.travel x ≤ (6 : Int)))))), [])) else some (T.leaf (AV.c (.d (.v (.bool false))), []))) else some (T.leaf (AV.c (C.d
 (D.v (.bool false))), []))) else some (T.leaf (AV.c (.d (.v (.bool false))), [])))))) else some (T.leaf (AV.c (.d (.v (.bool false))), []))))) else some (T.leaf
 (AV.c (.d (.v (.bool false))), []))) else some (T.leaf (AV.c (.d (.v (.bool false))), []))) else some (T.leaf (AV.c (.d (.v (.bool false))), []))) else (bif
 !SBay.kind x == (3 : Int) then (bif !(SBay.zr x == (0 : Int) && (SBay.zx x == (0 : Int) && true)) then some (T.leaf (AV.c (.d (.v (.bool false))), [])) else (bif decide
 (SBay.ct x ≥ (1 : Int)) then (bif !decide (SBay.ct x ≤ (100 : Int)) then some (T.leaf (AV.c (.d (.v (.bool false))), [])) else (bif SBay.kind x == (3 : Int) then (bif SBay.vt
 x != (0 : Int) then some (T.leaf (AV.c (.d (.v (.bool false))), [])) else (bif !SBay.kind x == (3 : Int) then (bif decide (SBay.vt x ≥ (1 : Int)) then (bif !decide (SBay.vt x
 ≤ (10000 : Int)) then some (T.leaf (AV.c (.d (.v (.bool false))), [])) else (bif decide (SBay.sat x ≥ (0 : Int)) then (bif decide (SBay.sat x ≤ (16383 : Int)) then (bif
 decide (SBay.travel x ≥ (1 : Int)) then some (T.leaf (AV.c (.d (.v (.bool (decide (SBay.travel x ≤ (6 : Int)))))), [])) else some (T.leaf (AV.c (C.d (D.v (Value.bool
 false))), []))) else some (T.leaf (AV.c (.d (.v (.bool false))), []))) else some (T.leaf (AV.c (.d (.v (.bool false))), [])))) else some (T.leaf (AV.c (C.d (D.v
 (Value.bool false))), []))) else (bif decide (SBay.sat x ≥ (0 : Int)) then (bif decide (SBay.sat x ≤ (16383 : Int)) then (bif decide (SBay.travel x ≥ (1 : Int)) then some (T.leaf
 (AV.c (.d (.v (.bool (decide (SBay.travel x ≤ (6 : Int)))))), [])) else some (T.leaf (AV.c (.d (.v (.bool false))), []))) else some (T.leaf (AV.c (C.d (D.v (Value.bool
 false))), []))) else some (T.leaf (AV.c (.d (.v (.bool false))), []))))) else (bif !SBay.kind x == (3 : Int) then (bif decide (SBay.vt x ≥ (1 : Int)) then (bif !decide
 (SBay.vt x ≤ (10000 : Int)) then some (T.leaf (AV.c (.d (.v (.bool false))), [])) else (bif decide (SBay.sat x ≥ (0 : Int)) then (bif decide (SBay.sat x ≤ (16383 : Int)) then
 (bif decide (SBay.travel x ≥ (1 : Int)) then some (T.leaf (AV.c (.d (.v (.bool (decide (SBay.travel x ≤ (6 : Int)))))), [])) else some (T.leaf (AV.c (C.d (D.v (Value.bool
 false))), []))) else some (T.leaf (AV.c (.d (.v (.bool false))), []))) else some (T.leaf (AV.c (.d (.v (.bool false))), [])))) else some (T.leaf (AV.c (C.d (D.v
 (Value.bool false))), []))) else (bif decide (SBay.sat x ≥ (0 : Int)) then (bif decide (SBay.sat x ≤ (16383 : Int)) then (bif decide (SBay.travel x ≥ (1 : Int)) then some (T.leaf
 (AV.c (.d (.v (.bool (decide (SBay.travel x ≤ (6 : Int)))))), [])) else some (T.leaf (AV.c (.d (.v (.bool false))), []))) else some (T.leaf (AV.c (C.d (D.v (Value.bool
 false))), []))) else some (T.leaf (AV.c (.d (.v (.bool false))), [])))))) else some (T.leaf (AV.c (.d (.v (.bool false))), [])))) else (bif decide (SBay.ct x ≥ (1 :
 Int)) then (bif !decide (SBay.ct x ≤ (100 : Int)) then some (T.leaf (AV.c (.d (.v (.bool false))), [])) else (bif SBay.kind x == (3 : Int) then (bif SBay.vt x != (0 : Int)
 then some (T.leaf (AV.c (.d (.v (.bool false))), [])) else (bif !SBay.kind x == (3 : Int) then (bif decide (SBay.vt x ≥ (1 : Int)) then (bif !decide (SBay.vt x ≤ (10000 :
 Int)) then some (T.leaf (AV.c (.d (.v (.bool false))), [])) else (bif decide (SBay.sat x ≥ (0 : Int)) then (bif decide (SBay.sat x ≤ (16383 : Int)) then (bif decide
 (SBay.travel x ≥ (1 : Int)) then some (T.leaf (AV.c (.d (.v (.bool (decide (SBay.travel x ≤ (6 : Int)))))), [])) else some (T.leaf (AV.c (.d (.v (.bool false))), [])))
 else some (T.leaf (AV.c (.d (.v (.bool false))), []))) else some (T.leaf (AV.c (.d (.v (.bool false))), [])))) else some (T.leaf (AV.c (.d (.v (.bool false))),
 []))) else (bif decide (SBay.sat x ≥ (0 : Int)) then (bif decide (SBay.sat x ≤ (16383 : Int)) then (bif decide (SBay.travel x ≥ (1 : Int)) then some (T.leaf (AV.c (C.d (D.v
 (Value.bool (decide (SBay.travel x ≤ (6 : Int)))))), [])) else some (T.leaf (AV.c (.d (.v (.bool false))), []))) else some (T.leaf (AV.c (.d (.v (.bool false))), [])))
 else some (T.leaf (AV.c (.d (.v (.bool false))), []))))) else (bif !SBay.kind x == (3 : Int) then (bif decide (SBay.vt x ≥ (1 : Int)) then (bif !decide (SBay.vt x ≤ (10000 :
 Int)) then some (T.leaf (AV.c (.d (.v (.bool false))), [])) else (bif decide (SBay.sat x ≥ (0 : Int)) then (bif decide (SBay.sat x ≤ (16383 : Int)) then (bif decide
 (SBay.travel x ≥ (1 : Int)) then some (T.leaf (AV.c (.d (.v (.bool (decide (SBay.travel x ≤ (6 : Int)))))), [])) else some (T.leaf (AV.c (.d (.v (.bool false))), [])))
 else some (T.leaf (AV.c (.d (.v (.bool false))), []))) else some (T.leaf (AV.c (.d (.v (.bool false))), [])))) else some (T.leaf (AV.c (.d (.v (.bool false))),
 []))) else (bif decide (SBay.sat x ≥ (0 : Int)) then (bif decide (SBay.sat x ≤ (16383 : Int)) then (bif decide (SBay.travel x ≥ (1 : Int)) then some (T.leaf (AV.c (C.d (D.v
 (Value.bool (decide (SBay.travel x ≤ (6 : Int)))))), [])) else some (T.leaf (AV.c (.d (.v (.bool false))), []))) else some (T.leaf (AV.c (.d (.v (.bool false))), [])))
 else some (T.leaf (AV.c (.d (.v (.bool false))), [])))))) else some (T.leaf (AV.c (.d (.v (.bool false))), [])))))) else (bif SBay.kind x == (3 : Int) then (bif decide
 (SBay.zr x ≥ (0 : Int)) then (bif decide (SBay.zr x ≤ (1000 : Int)) then (bif decide (SBay.zx x ≥ (1 : Int)) then (bif !decide (SBay.zx x ≤ (1000 : Int)) then some (T.leaf (AV.c
 (C.d (.v (.bool false))), [])) else (bif !SBay.kind x == (3 : Int) then (bif !(SBay.zr x == (0 : Int) && (SBay.zx x == (0 : Int) && true)) then some (T.leaf (AV.c (C.d (D.v
 (Value.bool false))), [])) else (bif decide (SBay.ct x ≥ (1 : Int)) then (bif !decide (SBay.ct x ≤ (100 : Int)) then some (T.leaf (AV.c (.d (.v (.bool false))), [])) else
 (bif SBay.kind x == (3 : Int) then (bif SBay.vt x != (0 : Int) then some (T.leaf (AV.c (.d (.v (.bool false))), [])) else (bif !SBay.kind x == (3 : Int) then (bif decide
 (SBay.vt x ≥ (1 : Int)) then (bif !decide (SBay.vt x ≤ (10000 : Int)) then some (T.leaf (AV.c (.d (.v (.bool false))), [])) else (bif decide (SBay.sat x ≥ (0 : Int)) then
 (bif decide (SBay.sat x ≤ (16383 : Int)) then (bif decide (SBay.travel x ≥ (1 : Int)) then some (T.leaf (AV.c (.d (.v (.bool (decide (SBay.travel x ≤ (6 : Int)))))), []))
 else some (T.leaf (AV.c (.d (.v (.bool false))), []))) else some (T.leaf (AV.c (.d (.v (.bool false))), []))) else some (T.leaf (AV.c (.d (.v (.bool false))),
 [])))) else some (T.leaf (AV.c (.d (.v (.bool false))), []))) else (bif decide (SBay.sat x ≥ (0 : Int)) then (bif decide (SBay.sat x ≤ (16383 : Int)) then (bif decide
 (SBay.travel x ≥ (1 : Int)) then some (T.leaf (AV.c (.d (.v (.bool (decide (SBay.travel x ≤ (6 : Int)))))), [])) else some (T.leaf (AV.c (.d (.v (.bool false))), [])))
 else some (T.leaf (AV.c (.d (.v (.bool false))), []))) else some (T.leaf (AV.c (.d (.v (.bool false))), []))))) else (bif !SBay.kind x == (3 : Int) then (bif decide
 (SBay.vt x ≥ (1 : Int)) then (bif !decide (SBay.vt x ≤ (10000 : Int)) then some (T.leaf (AV.c (.d (.v (.bool false))), [])) else (bif decide (SBay.sat x ≥ (0 : Int)) then
 (bif decide (SBay.sat x ≤ (16383 : Int)) then (bif decide (SBay.travel x ≥ (1 : Int)) then some (T.leaf (AV.c (.d (.v (.bool (decide (SBay.travel x ≤ (6 : Int)))))), []))
 else some (T.leaf (AV.c (.d (.v (.bool false))), []))) else some (T.leaf (AV.c (.d (.v (.bool false))), []))) else some (T.leaf (AV.c (.d (.v (.bool false))),
 [])))) else some (T.leaf (AV.c (.d (.v (.bool false))), []))) else (bif decide (SBay.sat x ≥ (0 : Int)) then (bif decide (SBay.sat x ≤ (16383 : Int)) then (bif decide
 (SBay.travel x ≥ (1 : Int)) then some (T.leaf (AV.c (.d (.v (.bool (decide (SBay.travel x ≤ (6 : Int)))))), [])) else some (T.leaf (AV.c (.d (.v (.bool false))), [])))
 else some (T.leaf (AV.c (.d (.v (.bool false))), []))) else some (T.leaf (AV.c (.d (.v (.bool false))), [])))))) else some (T.leaf (AV.c (C.d (D.v (Value.bool
 false))), [])))) else (bif decide (SBay.ct x ≥ (1 : Int)) then (bif !decide (SBay.ct x ≤ (100 : Int)) then some (T.leaf (AV.c (.d (.v (.bool false))), [])) else (bif
 SBay.kind x == (3 : Int) then (bif SBay.vt x != (0 : Int) then some (T.leaf (AV.c (.d (.v (.bool false))), [])) else (bif !SBay.kind x == (3 : Int) then (bif decide (SBay.vt
 x ≥ (1 : Int)) then (bif !decide (SBay.vt x ≤ (10000 : Int)) then some (T.leaf (AV.c (.d (.v (.bool false))), [])) else (bif decide (SBay.sat x ≥ (0 : Int)) then (bif decide
 (SBay.sat x ≤ (16383 : Int)) then (bif decide (SBay.travel x ≥ (1 : Int)) then some (T.leaf (AV.c (.d (.v (.bool (decide (SBay.travel x ≤ (6 : Int)))))), [])) else some
 (T.leaf (AV.c (.d (.v (.bool false))), []))) else some (T.leaf (AV.c (.d (.v (.bool false))), []))) else some (T.leaf (AV.c (.d (.v (.bool false))), [])))) else
 some (T.leaf (AV.c (.d (.v (.bool false))), []))) else (bif decide (SBay.sat x ≥ (0 : Int)) then (bif decide (SBay.sat x ≤ (16383 : Int)) then (bif decide (SBay.travel x ≥ (1
 : Int)) then some (T.leaf (AV.c (.d (.v (.bool (decide (SBay.travel x ≤ (6 : Int)))))), [])) else some (T.leaf (AV.c (.d (.v (.bool false))), []))) else some (T.leaf
 (AV.c (.d (.v (.bool false))), []))) else some (T.leaf (AV.c (.d (.v (.bool false))), []))))) else (bif !SBay.kind x == (3 : Int) then (bif decide (SBay.vt x ≥ (1 :
 Int)) then (bif !decide (SBay.vt x ≤ (10000 : Int)) then some (T.leaf (AV.c (.d (.v (.bool false))), [])) else (bif decide (SBay.sat x ≥ (0 : Int)) then (bif decide (SBay.sat
 x ≤ (16383 : Int)) then (bif decide (SBay.travel x ≥ (1 : Int)) then some (T.leaf (AV.c (.d (.v (.bool (decide (SBay.travel x ≤ (6 : Int)))))), [])) else some (T.leaf (AV.c
 (C.d (.v (.bool false))), []))) else some (T.leaf (AV.c (.d (.v (.bool false))), []))) else some (T.leaf (AV.c (.d (.v (.bool false))), [])))) else some (T.leaf
 (AV.c (.d (.v (.bool false))), []))) else (bif decide (SBay.sat x ≥ (0 : Int)) then (bif decide (SBay.sat x ≤ (16383 : Int)) then (bif decide (SBay.travel x ≥ (1 : Int)) then
 some (T.leaf (AV.c (.d (.v (.bool (decide (SBay.travel x ≤ (6 : Int)))))), [])) else some (T.leaf (AV.c (.d (.v (.bool false))), []))) else some (T.leaf (AV.c (C.d
 (D.v (.bool false))), []))) else some (T.leaf (AV.c (.d (.v (.bool false))), [])))))) else some (T.leaf (AV.c (.d (.v (.bool false))), []))))) else some (T.leaf
 (AV.c (.d (.v (.bool false))), []))) else some (T.leaf (AV.c (.d (.v (.bool false))), []))) else some (T.leaf (AV.c (.d (.v (.bool false))), []))) else (bif
 !SBay.kind x == (3 : Int) then (bif !(SBay.zr x == (0 : Int) && (SBay.zx x == (0 : Int) && true)) then some (T.leaf (AV.c (.d (.v (.bool false))), [])) else (bif decide
 (SBay.ct x ≥ (1 : Int)) then (bif !decide (SBay.ct x ≤ (100 : Int)) then some (T.leaf (AV.c (.d (.v (.bool false))), [])) else (bif SBay.kind x == (3 : Int) then (bif SBay.vt
 x != (0 : Int) then some (T.leaf (AV.c (.d (.v (.bool false))), [])) else (bif !SBay.kind x == (3 : Int) then (bif decide (SBay.vt x ≥ (1 : Int)) then (bif !decide (SBay.vt x
 ≤ (10000 : Int)) then some (T.leaf (AV.c (.d (.v (.bool false))), [])) else (bif decide (SBay.sat x ≥ (0 : Int)) then (bif decide (SBay.sat x ≤ (16383 : Int)) then (bif
 decide (SBay.travel x ≥ (1 : Int)) then some (T.leaf (AV.c (.d (.v (.bool (decide (SBay.travel x ≤ (6 : Int)))))), [])) else some (T.leaf (AV.c (C.d (D.v (Value.bool
 false))), []))) else some (T.leaf (AV.c (.d (.v (.bool false))), []))) else some (T.leaf (AV.c (.d (.v (.bool false))), [])))) else some (T.leaf (AV.c (C.d (D.v
 (Value.bool false))), []))) else (bif decide (SBay.sat x ≥ (0 : Int)) then (bif decide (SBay.sat x ≤ (16383 : Int)) then (bif decide (SBay.travel x ≥ (1 : Int)) then some (T.leaf
 (AV.c (.d (.v (.bool (decide (SBay.travel x ≤ (6 : Int)))))), [])) else some (T.leaf (AV.c (.d (.v (.bool false))), []))) else some (T.leaf (AV.c (C.d (D.v (Value.bool
 false))), []))) else some (T.leaf (AV.c (.d (.v (.bool false))), []))))) else (bif !SBay.kind x == (3 : Int) then (bif decide (SBay.vt x ≥ (1 : Int)) then (bif !decide
 (SBay.vt x ≤ (10000 : Int)) then some (T.leaf (AV.c (.d (.v (.bool false))), [])) else (bif decide (SBay.sat x ≥ (0 : Int)) then (bif decide (SBay.sat x ≤ (16383 : Int)) then
 (bif decide (SBay.travel x ≥ (1 : Int)) then some (T.leaf (AV.c (.d (.v (.bool (decide (SBay.travel x ≤ (6 : Int)))))), [])) else some (T.leaf (AV.c (C.d (D.v (Value.bool
 false))), []))) else some (T.leaf (AV.c (.d (.v (.bool false))), []))) else some (T.leaf (AV.c (.d (.v (.bool false))), [])))) else some (T.leaf (AV.c (C.d (D.v
 (Value.bool false))), []))) else (bif decide (SBay.sat x ≥ (0 : Int)) then (bif decide (SBay.sat x ≤ (16383 : Int)) then (bif decide (SBay.travel x ≥ (1 : Int)) then some (T.leaf
 (AV.c (.d (.v (.bool (decide (SBay.travel x ≤ (6 : Int)))))), [])) else some (T.leaf (AV.c (.d (.v (.bool false))), []))) else some (T.leaf (AV.c (C.d (D.v (Value.bool
 false))), []))) else some (T.leaf (AV.c (.d (.v (.bool false))), [])))))) else some (T.leaf (AV.c (.d (.v (.bool false))), [])))) else (bif decide (SBay.ct x ≥ (1 :
 Int)) then (bif !decide (SBay.ct x ≤ (100 : Int)) then some (T.leaf (AV.c (.d (.v (.bool false))), [])) else (bif SBay.kind x == (3 : Int) then (bif SBay.vt x != (0 : Int)
 then some (T.leaf (AV.c (.d (.v (.bool false))), [])) else (bif !SBay.kind x == (3 : Int) then (bif decide (SBay.vt x ≥ (1 : Int)) then (bif !decide (SBay.vt x ≤ (10000 :
 Int)) then some (T.leaf (AV.c (.d (.v (.bool false))), [])) else (bif decide (SBay.sat x ≥ (0 : Int)) then (bif decide (SBay.sat x ≤ (16383 : Int)) then (bif decide
 (SBay.travel x ≥ (1 : Int)) then some (T.leaf (AV.c (.d (.v (.bool (decide (SBay.travel x ≤ (6 : Int)))))), [])) else some (T.leaf (AV.c (.d (.v (.bool false))), [])))
 else some (T.leaf (AV.c (.d (.v (.bool false))), []))) else some (T.leaf (AV.c (.d (.v (.bool false))), [])))) else some (T.leaf (AV.c (.d (.v (.bool false))),
 []))) else (bif decide (SBay.sat x ≥ (0 : Int)) then (bif decide (SBay.sat x ≤ (16383 : Int)) then (bif decide (SBay.travel x ≥ (1 : Int)) then some (T.leaf (AV.c (C.d (D.v
 (Value.bool (decide (SBay.travel x ≤ (6 : Int)))))), [])) else some (T.leaf (AV.c (.d (.v (.bool false))), []))) else some (T.leaf (AV.c (.d (.v (.bool false))), [])))
 else some (T.leaf (AV.c (.d (.v (.bool false))), []))))) else (bif !SBay.kind x == (3 : Int) then (bif decide (SBay.vt x ≥ (1 : Int)) then (bif !decide (SBay.vt x ≤ (10000 :
 Int)) then some (T.leaf (AV.c (.d (.v (.bool false))), [])) else (bif decide (SBay.sat x ≥ (0 : Int)) then (bif decide (SBay.sat x ≤ (16383 : Int)) then (bif decide
 (SBay.travel x ≥ (1 : Int)) then some (T.leaf (AV.c (.d (.v (.bool (decide (SBay.travel x ≤ (6 : Int)))))), [])) else some (T.leaf (AV.c (.d (.v (.bool false))), [])))
 else some (T.leaf (AV.c (.d (.v (.bool false))), []))) else some (T.leaf (AV.c (.d (.v (.bool false))), [])))) else some (T.leaf (AV.c (.d (.v (.bool false))),
 []))) else (bif decide (SBay.sat x ≥ (0 : Int)) then (bif decide (SBay.sat x ≤ (16383 : Int)) then (bif decide (SBay.travel x ≥ (1 : Int)) then some (T.leaf (AV.c (C.d (D.v
 (Value.bool (decide (SBay.travel x ≤ (6 : Int)))))), [])) else some (T.leaf (AV.c (.d (.v (.bool false))), []))) else some (T.leaf (AV.c (.d (.v (.bool false))), [])))
 else some (T.leaf (AV.c (.d (.v (.bool false))), [])))))) else some (T.leaf (AV.c (.d (.v (.bool false))), []))))))) else some (T.leaf (AV.c (C.d (D.v (Value.bool
 false))), []))) else (bif !SBay.kind x == (1 : Int) then (bif SBay.fin x != (0 : Int) then some (T.leaf (AV.c (.d (.v (.bool false))), [])) else (bif SBay.kind x == (3 : Int)
 then (bif decide (SBay.zr x ≥ (0 : Int)) then (bif decide (SBay.zr x ≤ (1000 : Int)) then (bif decide (SBay.zx x ≥ (1 : Int)) then (bif !decide (SBay.zx x ≤ (1000 : Int)) then some
 (T.leaf (AV.c (.d (.v (.bool false))), [])) else (bif !SBay.kind x == (3 : Int) then (bif !(SBay.zr x == (0 : Int) && (SBay.zx x == (0 : Int) && true)) then some (T.leaf
 (AV.c (.d (.v (.bool false))), [])) else (bif decide (SBay.ct x ≥ (1 : Int)) then (bif !decide (SBay.ct x ≤ (100 : Int)) then some (T.leaf (AV.c (C.d (D.v (Value.bool
 false))), [])) else (bif SBay.kind x == (3 : Int) then (bif SBay.vt x != (0 : Int) then some (T.leaf (AV.c (.d (.v (.bool false))), [])) else (bif !SBay.kind x == (3 : Int)
 then (bif decide (SBay.vt x ≥ (1 : Int)) then (bif !decide (SBay.vt x ≤ (10000 : Int)) then some (T.leaf (AV.c (.d (.v (.bool false))), [])) else (bif decide (SBay.sat x ≥ (0
 : Int)) then (bif decide (SBay.sat x ≤ (16383 : Int)) then (bif decide (SBay.travel x ≥ (1 : Int)) then some (T.leaf (AV.c (.d (.v (.bool (decide (SBay.travel x ≤ (6 :
 Int)))))), [])) else some (T.leaf (AV.c (.d (.v (.bool false))), []))) else some (T.leaf (AV.c (.d (.v (.bool false))), []))) else some (T.leaf (AV.c (C.d (D.v
 (Value.bool false))), [])))) else some (T.leaf (AV.c (.d (.v (.bool false))), []))) else (bif decide (SBay.sat x ≥ (0 : Int)) then (bif decide (SBay.sat x ≤ (16383 : Int))
 then (bif decide (SBay.travel x ≥ (1 : Int)) then some (T.leaf (AV.c (.d (.v (.bool (decide (SBay.travel x ≤ (6 : Int)))))), [])) else some (T.leaf (AV.c (C.d (D.v
 (Value.bool false))), []))) else some (T.leaf (AV.c (.d (.v (.bool false))), []))) else some (T.leaf (AV.c (.d (.v (.bool false))), []))))) else (bif !SBay.kind x ==
 (3 : Int) then (bif decide (SBay.vt x ≥ (1 : Int)) then (bif !decide (SBay.vt x ≤ (10000 : Int)) then some (T.leaf (AV.c (.d (.v (.bool false))), [])) else (bif decide
 (SBay.sat x ≥ (0 : Int)) then (bif decide (SBay.sat x ≤ (16383 : Int)) then (bif decide (SBay.travel x ≥ (1 : Int)) then some (T.leaf (AV.c (.d (.v (.bool (decide
 (SBay.travel x ≤ (6 : Int)))))), [])) else some (T.leaf (AV.c (.d (.v (.bool false))), []))) else some (T.leaf (AV.c (.d (.v (.bool false))), []))) else some (T.leaf
 (AV.c (.d (.v (.bool false))), [])))) else some (T.leaf (AV.c (.d (.v (.bool false))), []))) else (bif decide (SBay.sat x ≥ (0 : Int)) then (bif decide (SBay.sat x ≤
 (16383 : Int)) then (bif decide (SBay.travel x ≥ (1 : Int)) then some (T.leaf (AV.c (.d (.v (.bool (decide (SBay.travel x ≤ (6 : Int)))))), [])) else some (T.leaf (AV.c (C.d
 (D.v (.bool false))), []))) else some (T.leaf (AV.c (.d (.v (.bool false))), []))) else some (T.leaf (AV.c (.d (.v (.bool false))), [])))))) else some (T.leaf
 (AV.c (.d (.v (.bool false))), [])))) else (bif decide (SBay.ct x ≥ (1 : Int)) then (bif !decide (SBay.ct x ≤ (100 : Int)) then some (T.leaf (AV.c (C.d (D.v (Value.bool
 false))), [])) else (bif SBay.kind x == (3 : Int) then (bif SBay.vt x != (0 : Int) then some (T.leaf (AV.c (.d (.v (.bool false))), [])) else (bif !SBay.kind x == (3 : Int)
 then (bif decide (SBay.vt x ≥ (1 : Int)) then (bif !decide (SBay.vt x ≤ (10000 : Int)) then some (T.leaf (AV.c (.d (.v (.bool false))), [])) else (bif decide (SBay.sat x ≥ (0
 : Int)) then (bif decide (SBay.sat x ≤ (16383 : Int)) then (bif decide (SBay.travel x ≥ (1 : Int)) then some (T.leaf (AV.c (.d (.v (.bool (decide (SBay.travel x ≤ (6 :
 Int)))))), [])) else some (T.leaf (AV.c (.d (.v (.bool false))), []))) else some (T.leaf (AV.c (.d (.v (.bool false))), []))) else some (T.leaf (AV.c (C.d (D.v
 (Value.bool false))), [])))) else some (T.leaf (AV.c (.d (.v (.bool false))), []))) else (bif decide (SBay.sat x ≥ (0 : Int)) then (bif decide (SBay.sat x ≤ (16383 : Int))
 then (bif decide (SBay.travel x ≥ (1 : Int)) then some (T.leaf (AV.c (.d (.v (.bool (decide (SBay.travel x ≤ (6 : Int)))))), [])) else some (T.leaf (AV.c (C.d (D.v
 (Value.bool false))), []))) else some (T.leaf (AV.c (.d (.v (.bool false))), []))) else some (T.leaf (AV.c (.d (.v (.bool false))), []))))) else (bif !SBay.kind x ==
 (3 : Int) then (bif decide (SBay.vt x ≥ (1 : Int)) then (bif !decide (SBay.vt x ≤ (10000 : Int)) then some (T.leaf (AV.c (.d (.v (.bool false))), [])) else (bif decide
 (SBay.sat x ≥ (0 : Int)) then (bif decide (SBay.sat x ≤ (16383 : Int)) then (bif decide (SBay.travel x ≥ (1 : Int)) then some (T.leaf (AV.c (.d (.v (.bool (decide
 (SBay.travel x ≤ (6 : Int)))))), [])) else some (T.leaf (AV.c (.d (.v (.bool false))), []))) else some (T.leaf (AV.c (.d (.v (.bool false))), []))) else some (T.leaf
 (AV.c (.d (.v (.bool false))), [])))) else some (T.leaf (AV.c (.d (.v (.bool false))), []))) else (bif decide (SBay.sat x ≥ (0 : Int)) then (bif decide (SBay.sat x ≤
 (16383 : Int)) then (bif decide (SBay.travel x ≥ (1 : Int)) then some (T.leaf (AV.c (.d (.v (.bool (decide (SBay.travel x ≤ (6 : Int)))))), [])) else some (T.leaf (AV.c (C.d
 (D.v (.bool false))), []))) else some (T.leaf (AV.c (.d (.v (.bool false))), []))) else some (T.leaf (AV.c (.d (.v (.bool false))), [])))))) else some (T.leaf
 (AV.c (.d (.v (.bool false))), []))))) else some (T.leaf (AV.c (.d (.v (.bool false))), []))) else some (T.leaf (AV.c (.d (.v (.bool false))), []))) else some
 (T.leaf (AV.c (.d (.v (.bool false))), []))) else (bif !SBay.kind x == (3 : Int) then (bif !(SBay.zr x == (0 : Int) && (SBay.zx x == (0 : Int) && true)) then some (T.leaf
 (AV.c (.d (.v (.bool false))), [])) else (bif decide (SBay.ct x ≥ (1 : Int)) then (bif !decide (SBay.ct x ≤ (100 : Int)) then some (T.leaf (AV.c (C.d (D.v (Value.bool
 false))), [])) else (bif SBay.kind x == (3 : Int) then (bif SBay.vt x != (0 : Int) then some (T.leaf (AV.c (.d (.v (.bool false))), [])) else (bif !SBay.kind x == (3 : Int)
 then (bif decide (SBay.vt x ≥ (1 : Int)) then (bif !decide (SBay.vt x ≤ (10000 : Int)) then some (T.leaf (AV.c (.d (.v (.bool false))), [])) else (bif decide (SBay.sat x ≥ (0
 : Int)) then (bif decide (SBay.sat x ≤ (16383 : Int)) then (bif decide (SBay.travel x ≥ (1 : Int)) then some (T.leaf (AV.c (.d (.v (.bool (decide (SBay.travel x ≤ (6 :
 Int)))))), [])) else some (T.leaf (AV.c (.d (.v (.bool false))), []))) else some (T.leaf (AV.c (.d (.v (.bool false))), []))) else some (T.leaf (AV.c (C.d (D.v
 (Value.bool false))), [])))) else some (T.leaf (AV.c (.d (.v (.bool false))), []))) else (bif decide (SBay.sat x ≥ (0 : Int)) then (bif decide (SBay.sat x ≤ (16383 : Int))
 then (bif decide (SBay.travel x ≥ (1 : Int)) then some (T.leaf (AV.c (.d (.v (.bool (decide (SBay.travel x ≤ (6 : Int)))))), [])) else some (T.leaf (AV.c (C.d (D.v
 (Value.bool false))), []))) else some (T.leaf (AV.c (.d (.v (.bool false))), []))) else some (T.leaf (AV.c (.d (.v (.bool false))), []))))) else (bif !SBay.kind x ==
 (3 : Int) then (bif decide (SBay.vt x ≥ (1 : Int)) then (bif !decide (SBay.vt x ≤ (10000 : Int)) then some (T.leaf (AV.c (.d (.v (.bool false))), [])) else (bif decide
 (SBay.sat x ≥ (0 : Int)) then (bif decide (SBay.sat x ≤ (16383 : Int)) then (bif decide (SBay.travel x ≥ (1 : Int)) then some (T.leaf (AV.c (.d (.v (.bool (decide
 (SBay.travel x ≤ (6 : Int)))))), [])) else some (T.leaf (AV.c (.d (.v (.bool false))), []))) else some (T.leaf (AV.c (.d (.v (.bool false))), []))) else some (T.leaf
 (AV.c (.d (.v (.bool false))), [])))) else some (T.leaf (AV.c (.d (.v (.bool false))), []))) else (bif decide (SBay.sat x ≥ (0 : Int)) then (bif decide (SBay.sat x ≤
 (16383 : Int)) then (bif decide (SBay.travel x ≥ (1 : Int)) then some (T.leaf (AV.c (.d (.v (.bool (decide (SBay.travel x ≤ (6 : Int)))))), [])) else some (T.leaf (AV.c (C.d
 (D.v (.bool false))), []))) else some (T.leaf (AV.c (.d (.v (.bool false))), []))) else some (T.leaf (AV.c (.d (.v (.bool false))), [])))))) else some (T.leaf
 (AV.c (.d (.v (.bool false))), [])))) else (bif decide (SBay.ct x ≥ (1 : Int)) then (bif !decide (SBay.ct x ≤ (100 : Int)) then some (T.leaf (AV.c (C.d (D.v (Value.bool
 false))), [])) else (bif SBay.kind x == (3 : Int) then (bif SBay.vt x != (0 : Int) then some (T.leaf (AV.c (.d (.v (.bool false))), [])) else (bif !SBay.kind x == (3 : Int)
 then (bif decide (SBay.vt x ≥ (1 : Int)) then (bif !decide (SBay.vt x ≤ (10000 : Int)) then some (T.leaf (AV.c (.d (.v (.bool false))), [])) else (bif decide (SBay.sat x ≥ (0
 : Int)) then (bif decide (SBay.sat x ≤ (16383 : Int)) then (bif decide (SBay.travel x ≥ (1 : Int)) then some (T.leaf (AV.c (.d (.v (.bool (decide (SBay.travel x ≤ (6 :
 Int)))))), [])) else some (T.leaf (AV.c (.d (.v (.bool false))), []))) else some (T.leaf (AV.c (.d (.v (.bool false))), []))) else some (T.leaf (AV.c (C.d (D.v
 (Value.bool false))), [])))) else some (T.leaf (AV.c (.d (.v (.bool false))), []))) else (bif decide (SBay.sat x ≥ (0 : Int)) then (bif decide (SBay.sat x ≤ (16383 : Int))
 then (bif decide (SBay.travel x ≥ (1 : Int)) then some (T.leaf (AV.c (.d (.v (.bool (decide (SBay.travel x ≤ (6 : Int)))))), [])) else some (T.leaf (AV.c (C.d (D.v
 (Value.bool false))), []))) else some (T.leaf (AV.c (.d (.v (.bool false))), []))) else some (T.leaf (AV.c (.d (.v (.bool false))), []))))) else (bif !SBay.kind x ==
 (3 : Int) then (bif decide (SBay.vt x ≥ (1 : Int)) then (bif !decide (SBay.vt x ≤ (10000 : Int)) then some (T.leaf (AV.c (.d (.v (.bool false))), [])) else (bif decide
 (SBay.sat x ≥ (0 : Int)) then (bif decide (SBay.sat x ≤ (16383 : Int)) then (bif decide (SBay.travel x ≥ (1 : Int)) then some (T.leaf (AV.c (.d (.v (.bool (decide
 (SBay.travel x ≤ (6 : Int)))))), [])) else some (T.leaf (AV.c (.d (.v (.bool false))), []))) else some (T.leaf (AV.c (.d (.v (.bool false))), []))) else some (T.leaf
 (AV.c (.d (.v (.bool false))), [])))) else some (T.leaf (AV.c (.d (.v (.bool false))), []))) else (bif decide (SBay.sat x ≥ (0 : Int)) then (bif decide (SBay.sat x ≤
 (16383 : Int)) then (bif decide (SBay.travel x ≥ (1 : Int)) then some (T.leaf (AV.c (.d (.v (.bool (decide (SBay.travel x ≤ (6 : Int)))))), [])) else some (T.leaf (AV.c (C.d
 (D.v (.bool false))), []))) else some (T.leaf (AV.c (.d (.v (.bool false))), []))) else some (T.leaf (AV.c (.d (.v (.bool false))), [])))))) else some (T.leaf
 (AV.c (.d (.v (.bool false))), [])))))) else (bif SBay.kind x == (3 : Int) then (bif decide (SBay.zr x ≥ (0 : Int)) then (bif decide (SBay.zr x ≤ (1000 : Int)) then (bif
 decide (SBay.zx x ≥ (1 : Int)) then (bif !decide (SBay.zx x ≤ (1000 : Int)) then some (T.leaf (AV.c (.d (.v (.bool false))), [])) else (bif !SBay.kind x == (3 : Int) then
 (bif !(SBay.zr x == (0 : Int) && (SBay.zx x == (0 : Int) && true)) then some (T.leaf (AV.c (.d (.v (.bool false))), [])) else (bif decide (SBay.ct x ≥ (1 : Int)) then (bif
 !decide (SBay.ct x ≤ (100 : Int)) then some (T.leaf (AV.c (.d (.v (.bool false))), [])) else (bif SBay.kind x == (3 : Int) then (bif SBay.vt x != (0 : Int) then some (T.leaf
 (AV.c (.d (.v (.bool false))), [])) else (bif !SBay.kind x == (3 : Int) then (bif decide (SBay.vt x ≥ (1 : Int)) then (bif !decide (SBay.vt x ≤ (10000 : Int)) then some
 (T.leaf (AV.c (.d (.v (.bool false))), [])) else (bif decide (SBay.sat x ≥ (0 : Int)) then (bif decide (SBay.sat x ≤ (16383 : Int)) then (bif decide (SBay.travel x ≥ (1 :
 Int)) then some (T.leaf (AV.c (.d (.v (.bool (decide (SBay.travel x ≤ (6 : Int)))))), [])) else some (T.leaf (AV.c (.d (.v (.bool false))), []))) else some (T.leaf
 (AV.c (.d (.v (.bool false))), []))) else some (T.leaf (AV.c (.d (.v (.bool false))), [])))) else some (T.leaf (AV.c (.d (.v (.bool false))), []))) else (bif
 decide (SBay.sat x ≥ (0 : Int)) then (bif decide (SBay.sat x ≤ (16383 : Int)) then (bif decide (SBay.travel x ≥ (1 : Int)) then some (T.leaf (AV.c (.d (.v (.bool (decide
 (SBay.travel x ≤ (6 : Int)))))), [])) else some (T.leaf (AV.c (.d (.v (.bool false))), []))) else some (T.leaf (AV.c (.d (.v (.bool false))), []))) else some (T.leaf
 (AV.c (.d (.v (.bool false))), []))))) else (bif !SBay.kind x == (3 : Int) then (bif decide (SBay.vt x ≥ (1 : Int)) then (bif !decide (SBay.vt x ≤ (10000 : Int)) then some
 (T.leaf (AV.c (.d (.v (.bool false))), [])) else (bif decide (SBay.sat x ≥ (0 : Int)) then (bif decide (SBay.sat x ≤ (16383 : Int)) then (bif decide (SBay.travel x ≥ (1 :
 Int)) then some (T.leaf (AV.c (.d (.v (.bool (decide (SBay.travel x ≤ (6 : Int)))))), [])) else some (T.leaf (AV.c (.d (.v (.bool false))), []))) else some (T.leaf
 (AV.c (.d (.v (.bool false))), []))) else some (T.leaf (AV.c (.d (.v (.bool false))), [])))) else some (T.leaf (AV.c (.d (.v (.bool false))), []))) else (bif
 decide (SBay.sat x ≥ (0 : Int)) then (bif decide (SBay.sat x ≤ (16383 : Int)) then (bif decide (SBay.travel x ≥ (1 : Int)) then some (T.leaf (AV.c (.d (.v (.bool (decide
 (SBay.travel x ≤ (6 : Int)))))), [])) else some (T.leaf (AV.c (.d (.v (.bool false))), []))) else some (T.leaf (AV.c (.d (.v (.bool false))), []))) else some (T.leaf
 (AV.c (.d (.v (.bool false))), [])))))) else some (T.leaf (AV.c (.d (.v (.bool false))), [])))) else (bif decide (SBay.ct x ≥ (1 : Int)) then (bif !decide (SBay.ct x ≤
 (100 : Int)) then some (T.leaf (AV.c (.d (.v (.bool false))), [])) else (bif SBay.kind x == (3 : Int) then (bif SBay.vt x != (0 : Int) then some (T.leaf (AV.c (C.d (D.v
 (Value.bool false))), [])) else (bif !SBay.kind x == (3 : Int) then (bif decide (SBay.vt x ≥ (1 : Int)) then (bif !decide (SBay.vt x ≤ (10000 : Int)) then some (T.leaf (AV.c (C.d
 (D.v (.bool false))), [])) else (bif decide (SBay.sat x ≥ (0 : Int)) then (bif decide (SBay.sat x ≤ (16383 : Int)) then (bif decide (SBay.travel x ≥ (1 : Int)) then some
 (T.leaf (AV.c (.d (.v (.bool (decide (SBay.travel x ≤ (6 : Int)))))), [])) else some (T.leaf (AV.c (.d (.v (.bool false))), []))) else some (T.leaf (AV.c (C.d (D.v
 (Value.bool false))), []))) else some (T.leaf (AV.c (.d (.v (.bool false))), [])))) else some (T.leaf (AV.c (.d (.v (.bool false))), []))) else (bif decide (SBay.sat x
 ≥ (0 : Int)) then (bif decide (SBay.sat x ≤ (16383 : Int)) then (bif decide (SBay.travel x ≥ (1 : Int)) then some (T.leaf (AV.c (.d (.v (.bool (decide (SBay.travel x ≤ (6 :
 Int)))))), [])) else some (T.leaf (AV.c (.d (.v (.bool false))), []))) else some (T.leaf (AV.c (.d (.v (.bool false))), []))) else some (T.leaf (AV.c (C.d (D.v
 (Value.bool false))), []))))) else (bif !SBay.kind x == (3 : Int) then (bif decide (SBay.vt x ≥ (1 : Int)) then (bif !decide (SBay.vt x ≤ (10000 : Int)) then some (T.leaf (AV.c (C.d
 (D.v (.bool false))), [])) else (bif decide (SBay.sat x ≥ (0 : Int)) then (bif decide (SBay.sat x ≤ (16383 : Int)) then (bif decide (SBay.travel x ≥ (1 : Int)) then some
 (T.leaf (AV.c (.d (.v (.bool (decide (SBay.travel x ≤ (6 : Int)))))), [])) else some (T.leaf (AV.c (.d (.v (.bool false))), []))) else some (T.leaf (AV.c (C.d (D.v
 (Value.bool false))), []))) else some (T.leaf (AV.c (.d (.v (.bool false))), [])))) else some (T.leaf (AV.c (.d (.v (.bool false))), []))) else (bif decide (SBay.sat x
 ≥ (0 : Int)) then (bif decide (SBay.sat x ≤ (16383 : Int)) then (bif decide (SBay.travel x ≥ (1 : Int)) then some (T.leaf (AV.c (.d (.v (.bool (decide (SBay.travel x ≤ (6 :
 Int)))))), [])) else some (T.leaf (AV.c (.d (.v (.bool false))), []))) else some (T.leaf (AV.c (.d (.v (.bool false))), []))) else some (T.leaf (AV.c (C.d (D.v
 (Value.bool false))), [])))))) else some (T.leaf (AV.c (.d (.v (.bool false))), []))))) else some (T.leaf (AV.c (.d (.v (.bool false))), []))) else some (T.leaf (AV.c
 (C.d (.v (.bool false))), []))) else some (T.leaf (AV.c (.d (.v (.bool false))), []))) else (bif !SBay.kind x == (3 : Int) then (bif !(SBay.zr x == (0 : Int) &&
 (SBay.zx x == (0 : Int) && true)) then some (T.leaf (AV.c (.d (.v (.bool false))), [])) else (bif decide (SBay.ct x ≥ (1 : Int)) then (bif !decide (SBay.ct x ≤ (100 : Int))
 then some (T.leaf (AV.c (.d (.v (.bool false))), [])) else (bif SBay.kind x == (3 : Int) then (bif SBay.vt x != (0 : Int) then some (T.leaf (AV.c (C.d (D.v (Value.bool
 false))), [])) else (bif !SBay.kind x == (3 : Int) then (bif decide (SBay.vt x ≥ (1 : Int)) then (bif !decide (SBay.vt x ≤ (10000 : Int)) then some (T.leaf (AV.c (C.d (D.v
 (Value.bool false))), [])) else (bif decide (SBay.sat x ≥ (0 : Int)) then (bif decide (SBay.sat x ≤ (16383 : Int)) then (bif decide (SBay.travel x ≥ (1 : Int)) then some (T.leaf
 (AV.c (.d (.v (.bool (decide (SBay.travel x ≤ (6 : Int)))))), [])) else some (T.leaf (AV.c (.d (.v (.bool false))), []))) else some (T.leaf (AV.c (C.d (D.v (Value.bool
 false))), []))) else some (T.leaf (AV.c (.d (.v (.bool false))), [])))) else some (T.leaf (AV.c (.d (.v (.bool false))), []))) else (bif decide (SBay.sat x ≥ (0 :
 Int)) then (bif decide (SBay.sat x ≤ (16383 : Int)) then (bif decide (SBay.travel x ≥ (1 : Int)) then some (T.leaf (AV.c (.d (.v (.bool (decide (SBay.travel x ≤ (6 :
 Int)))))), [])) else some (T.leaf (AV.c (.d (.v (.bool false))), []))) else some (T.leaf (AV.c (.d (.v (.bool false))), []))) else some (T.leaf (AV.c (C.d (D.v
 (Value.bool false))), []))))) else (bif !SBay.kind x == (3 : Int) then (bif decide (SBay.vt x ≥ (1 : Int)) then (bif !decide (SBay.vt x ≤ (10000 : Int)) then some (T.leaf (AV.c (C.d
 (D.v (.bool false))), [])) else (bif decide (SBay.sat x ≥ (0 : Int)) then (bif decide (SBay.sat x ≤ (16383 : Int)) then (bif decide (SBay.travel x ≥ (1 : Int)) then some
 (T.leaf (AV.c (.d (.v (.bool (decide (SBay.travel x ≤ (6 : Int)))))), [])) else some (T.leaf (AV.c (.d (.v (.bool false))), []))) else some (T.leaf (AV.c (C.d (D.v
 (Value.bool false))), []))) else some (T.leaf (AV.c (.d (.v (.bool false))), [])))) else some (T.leaf (AV.c (.d (.v (.bool false))), []))) else (bif decide (SBay.sat x
 ≥ (0 : Int)) then (bif decide (SBay.sat x ≤ (16383 : Int)) then (bif decide (SBay.travel x ≥ (1 : Int)) then some (T.leaf (AV.c (.d (.v (.bool (decide (SBay.travel x ≤ (6 :
 Int)))))), [])) else some (T.leaf (AV.c (.d (.v (.bool false))), []))) else some (T.leaf (AV.c (.d (.v (.bool false))), []))) else some (T.leaf (AV.c (C.d (D.v
 (Value.bool false))), [])))))) else some (T.leaf (AV.c (.d (.v (.bool false))), [])))) else (bif decide (SBay.ct x ≥ (1 : Int)) then (bif !decide (SBay.ct x ≤ (100 : Int))
 then some (T.leaf (AV.c (.d (.v (.bool false))), [])) else (bif SBay.kind x == (3 : Int) then (bif SBay.vt x != (0 : Int) then some (T.leaf (AV.c (C.d (D.v (Value.bool
 false))), [])) else (bif !SBay.kind x == (3 : Int) then (bif decide (SBay.vt x ≥ (1 : Int)) then (bif !decide (SBay.vt x ≤ (10000 : Int)) then some (T.leaf (AV.c (C.d (D.v
 (Value.bool false))), [])) else (bif decide (SBay.sat x ≥ (0 : Int)) then (bif decide (SBay.sat x ≤ (16383 : Int)) then (bif decide (SBay.travel x ≥ (1 : Int)) then some (T.leaf
 (AV.c (.d (.v (.bool (decide (SBay.travel x ≤ (6 : Int)))))), [])) else some (T.leaf (AV.c (.d (.v (.bool false))), []))) else some (T.leaf (AV.c (C.d (D.v (Value.bool
 false))), []))) else some (T.leaf (AV.c (.d (.v (.bool false))), [])))) else some (T.leaf (AV.c (.d (.v (.bool false))), []))) else (bif decide (SBay.sat x ≥ (0 :
 Int)) then (bif decide (SBay.sat x ≤ (16383 : Int)) then (bif decide (SBay.travel x ≥ (1 : Int)) then some (T.leaf (AV.c (.d (.v (.bool (decide (SBay.travel x ≤ (6 :
 Int)))))), [])) else some (T.leaf (AV.c (.d (.v (.bool false))), []))) else some (T.leaf (AV.c (.d (.v (.bool false))), []))) else some (T.leaf (AV.c (C.d (D.v
 (Value.bool false))), []))))) else (bif !SBay.kind x == (3 : Int) then (bif decide (SBay.vt x ≥ (1 : Int)) then (bif !decide (SBay.vt x ≤ (10000 : Int)) then some (T.leaf (AV.c (C.d
 (D.v (.bool false))), [])) else (bif decide (SBay.sat x ≥ (0 : Int)) then (bif decide (SBay.sat x ≤ (16383 : Int)) then (bif decide (SBay.travel x ≥ (1 : Int)) then some
 (T.leaf (AV.c (.d (.v (.bool (decide (SBay.travel x ≤ (6 : Int)))))), [])) else some (T.leaf (AV.c (.d (.v (.bool false))), []))) else some (T.leaf (AV.c (C.d (D.v
 (Value.bool false))), []))) else some (T.leaf (AV.c (.d (.v (.bool false))), [])))) else some (T.leaf (AV.c (.d (.v (.bool false))), []))) else (bif decide (SBay.sat x
 ≥ (0 : Int)) then (bif decide (SBay.sat x ≤ (16383 : Int)) then (bif decide (SBay.travel x ≥ (1 : Int)) then some (T.leaf (AV.c (.d (.v (.bool (decide (SBay.travel x ≤ (6 :
 Int)))))), [])) else some (T.leaf (AV.c (.d (.v (.bool false))), []))) else some (T.leaf (AV.c (.d (.v (.bool false))), []))) else some (T.leaf (AV.c (C.d (D.v
 (Value.bool false))), [])))))) else some (T.leaf (AV.c (.d (.v (.bool false))), []))))))) := by kernel_rfl
noncomputable def ann50 : Ann := annOf [(5, ⟨[3, 2, 5, 6], []⟩)]
noncomputable def L50_5 (s : SSta) (x : SBay) (g m : Nat) (i6 : Int) := LK Tryz.prog Orc.nil ann50 0 g Tryz.f48 5 m ⟨frm [(2, .c (.ptr 0 0)), (3, .c (.ptr 1 0)), (5, .c (.d (.v (.int .i64 (↑(List.length (SBay.links x)) : Int))))), (6, .c (.d (.v (.int .i64 i6))))] 0 Tryz.f48.ntmps, [(0, Blk.cells [.d (.v (.string (SSta.name s))), C.d (D.sl 1 (List.length (SSta.buses s)) fun i => busC (List.getD (SSta.buses s) i e0)), C.d (D.sl 5 (List.length (SSta.lines s)) fun i => lineC (List.getD (SSta.lines s) i line0)), C.d (D.sl 6 (List.length (SSta.srcs s)) fun i => srcC' (List.getD (SSta.srcs s) i src0)), C.d (D.sl 12 (List.length (SSta.bays s)) fun i => bayC (List.getD (SSta.bays s) i bay0))] 27), (1, Blk.cells [.d (.v (.string (SBay.name x))), .d (.v (.int .i64 (SBay.kind x))), .d (.v (.int .i64 (SBay.off x))), .d (.v (.int .i64 (SBay.fin x))), .d (.v (.int .i64 (SBay.zr x))), .d (.v (.int .i64 (SBay.zx x))), C.d (D.sl 2 (List.length (SBay.links x)) fun i => linkC (List.getD (SBay.links x) i link0)), .d (.v (.bool (SBay.closed x))), .d (.v (.int .i64 (SBay.ct x))), .d (.v (.int .i64 (SBay.vt x))), .d (.v (.int .i64 (SBay.sat x))), .d (.v (.int .i64 (SBay.travel x)))] 66)], 2⟩
theorem b50 : Tryz.f48.body = some (bodyOf Tryz.f48) := by kernel_rfl
theorem ev50 (s : SSta) (x : SBay) (g : Nat) : callC Tryz.prog Orc.nil ann50 g Tryz.f48 (bodyOf Tryz.f48) [aSta s, aBay x] [] =
 (bif decide ((↑(List.length (SBay.links x)) : Int) < (1 : Int)) then some (T.leaf (AV.c (.d (.v (.int .i64 (3 : Int)))), [])) else (bif decide ((↑(List.length
 (SBay.links x)) : Int) > (2 : Int)) then some (T.leaf (AV.c (.d (.v (.int .i64 (3 : Int)))), [])) else (bif SBay.kind x == (3 : Int) then (bif (↑(List.length
 (SBay.links x)) : Int) != (2 : Int) then some (T.leaf (AV.c (.d (.v (.int .i64 (3 : Int)))), [])) else L50_5 s x g g ((0 : Int))) else L50_5 s x g g ((0 : Int))))) := by kernel_rfl
theorem st50_5 (s : SSta) (x : SBay) (g m : Nat) (i6 : Int) : L50_5 s x g (m + 1) i6 =
 (bif decide (i6 < (↑(List.length (SBay.links x)) : Int)) then (bif decide ((0 : Int) ≤ i6) && decide (i6 < (↑(List.length (SBay.links x)) : Int)) then (bif decide (SLink.bus
 (List.getD (SBay.links x) (Int.toNat i6) link0) < (0 : Int)) then some (T.leaf (AV.c (.d (.v (.int .i64 (9 : Int)))), [])) else (bif decide (SLink.bus (List.getD
 (SBay.links x) (Int.toNat i6) link0) ≥ (↑(List.length (SSta.buses s)) : Int)) then some (T.leaf (AV.c (.d (.v (.int .i64 (9 : Int)))), [])) else (bif SLink.pos
 (List.getD (SBay.links x) (Int.toNat i6) link0) != (1 : Int) then (bif SLink.pos (List.getD (SBay.links x) (Int.toNat i6) link0) != (0 : Int) then some (T.leaf (AV.c (C.d (D.v
 (Value.int IntKind.i64 (16 : Int)))), [])) else (bif SBay.kind x == (3 : Int) then some (T.leaf (AV.c (.d (.v (.int .i64 (16 : Int)))), [])) else (bif decide (i6 > (0
 : Int)) then (bif decide ((0 : Int) ≤ IntKind.wrap .i64 (i6 - (1 : Int))) && decide (IntKind.wrap .i64 (i6 - (1 : Int)) < (↑(List.length (SBay.links x)) : Int)) then
 (bif SLink.bus (List.getD (SBay.links x) (Int.toNat i6) link0) == SLink.bus (List.getD (SBay.links x) (Int.toNat (IntKind.wrap .i64 (i6 - (1 : Int)))) link0) then some
 (T.leaf (AV.c (.d (.v (.int .i64 (12 : Int)))), [])) else L50_5 s x g m (IntKind.wrap .i64 (i6 + (1 : Int)))) else none) else L50_5 s x g m (IntKind.wrap
 IntKind.i64 (i6 + (1 : Int)))))) else (bif decide (i6 > (0 : Int)) then (bif decide ((0 : Int) ≤ IntKind.wrap .i64 (i6 - (1 : Int))) && decide (IntKind.wrap .i64 (i6 -
 (1 : Int)) < (↑(List.length (SBay.links x)) : Int)) then (bif SLink.bus (List.getD (SBay.links x) (Int.toNat i6) link0) == SLink.bus (List.getD (SBay.links x) (Int.toNat
 (IntKind.wrap .i64 (i6 - (1 : Int)))) link0) then some (T.leaf (AV.c (.d (.v (.int .i64 (12 : Int)))), [])) else L50_5 s x g m (IntKind.wrap .i64 (i6 +
 (1 : Int)))) else none) else L50_5 s x g m (IntKind.wrap .i64 (i6 + (1 : Int))))))) else none) else some (T.leaf (AV.c (.d (.v (.int .i64 (0 : Int)))), []))) := by kernel_rfl
def dSB : Dec (List AV × Hp) ((RSta × RBay × Unit) × Unit) := .pair (.cons (.agg staD) (.cons (.agg bayD) .nil)) .nil
def dSI : Dec (List AV × Hp) ((RSta × Int × Unit) × Unit) := .pair (.cons (.agg staD) (.cons (.c .i64) .nil)) .nil
def dSI4 : Dec (List AV × Hp) ((RSta × Int × Int × Int × Int × Unit) × Unit) := .pair (.cons (.agg staD) (.cons (.c .i64) (.cons (.c .i64) (.cons (.c .i64) (.cons (.c .i64) .nil))))) .nil
def dDS : Dec (List AV × Hp) ((D × ByteArray × Unit) × Unit) := .pair (.cons (.c .data) (.cons (.c .str) .nil)) .nil
noncomputable def o24 (rg okr : RBay → Bool) (ok : RSta → RBay → Bool) (lk : RSta → RBay → Int) : Orc := Orc.cons 46 (inl Tryz.prog Orc.nil na 1 Tryz.f46) (Orc.cons 47 (ansD d54 (fun a => okr a.1.1) (fun a => vB (rg a.1.1)) fun _ => [])
  (Orc.cons 48 (ansD dSB (fun a => ok a.1.1 a.1.2.1) (fun a => vI (lk a.1.1 a.1.2.1)) fun _ => []) Orc.nil))
noncomputable def ann24 : Ann := annOf [(8, ⟨[5, 2, 1, 7], []⟩)]
noncomputable def L24_8 (rg okr : RBay → Bool) (ok : RSta → RBay → Bool) (lk : RSta → RBay → Int) (s : SSta) (n : Int) (g m : Nat) (i7 : Int) := LK Tryz.prog (o24 rg okr ok lk) ann24 0 g Tryz.f24 8 m ⟨frm [(1, .c (.d (.v (.int .i64 n)))), (2, .c (.ptr 0 0)), (5, .c (.ptr 1 0)), (7, .c (.d (.v (.int .i64 i7))))] 0 Tryz.f24.ntmps, [(0, Blk.cells [.d (.v (.string (SSta.name s))), C.d (D.sl 1 (List.length (SSta.buses s)) fun i => busC (List.getD (SSta.buses s) i e0)), C.d (D.sl 5 (List.length (SSta.lines s)) fun i => lineC (List.getD (SSta.lines s) i line0)), C.d (D.sl 6 (List.length (SSta.srcs s)) fun i => srcC' (List.getD (SSta.srcs s) i src0)), C.d (D.sl 12 (List.length (SSta.bays s)) fun i => bayC (List.getD (SSta.bays s) i bay0))] 27), (1, Blk.cells [.d (.v (.string (SBay.name (List.getD (SSta.bays s) (Int.toNat n) bay0)))), .d (.v (.int .i64 (SBay.kind (List.getD (SSta.bays s) (Int.toNat n) bay0)))), .d (.v (.int .i64 (SBay.off (List.getD (SSta.bays s) (Int.toNat n) bay0)))), .d (.v (.int .i64 (SBay.fin (List.getD (SSta.bays s) (Int.toNat n) bay0)))), .d (.v (.int .i64 (SBay.zr (List.getD (SSta.bays s) (Int.toNat n) bay0)))), .d (.v (.int .i64 (SBay.zx (List.getD (SSta.bays s) (Int.toNat n) bay0)))), C.d (D.sl 2 (List.length (SBay.links (List.getD (SSta.bays s) (Int.toNat n) bay0))) fun i => linkC (List.getD (SBay.links (List.getD (SSta.bays s) (Int.toNat n) bay0)) i link0)), .d (.v (.bool (SBay.closed (List.getD (SSta.bays s) (Int.toNat n) bay0)))), .d (.v (.int .i64 (SBay.ct (List.getD (SSta.bays s) (Int.toNat n) bay0)))), .d (.v (.int .i64 (SBay.vt (List.getD (SSta.bays s) (Int.toNat n) bay0)))), .d (.v (.int .i64 (SBay.sat (List.getD (SSta.bays s) (Int.toNat n) bay0)))), .d (.v (.int .i64 (SBay.travel (List.getD (SSta.bays s) (Int.toNat n) bay0))))] 66)], 2⟩
theorem b24 : Tryz.f24.body = some (bodyOf Tryz.f24) := by kernel_rfl
theorem ev24 (rg okr : RBay → Bool) (ok : RSta → RBay → Bool) (lk : RSta → RBay → Int) (s : SSta) (n : Int) (g : Nat) : callC Tryz.prog (o24 rg okr ok lk) ann24 g Tryz.f24 (bodyOf Tryz.f24) [aSta s, vI n] [] =
 (bif decide ((0 : Int) ≤ n) && decide (n < (↑(List.length (SSta.bays s)) : Int)) then (bif SBay.kind (List.getD (SSta.bays s) (Int.toNat n) bay0) == (1 : Int) then (bif decide
 (SBay.off (List.getD (SSta.bays s) (Int.toNat n) bay0) < (0 : Int)) then some (T.leaf (AV.c (.d (.v (.int .i64 (9 : Int)))), [])) else (bif decide (SBay.off (List.getD
 (SSta.bays s) (Int.toNat n) bay0) ≥ (↑(List.length (SSta.lines s)) : Int)) then some (T.leaf (AV.c (.d (.v (.int .i64 (9 : Int)))), [])) else (bif okr (SBay.name
 (List.getD (SSta.bays s) (Int.toNat n) bay0), SBay.kind (List.getD (SSta.bays s) (Int.toNat n) bay0), SBay.off (List.getD (SSta.bays s) (Int.toNat n) bay0), SBay.fin (List.getD
 (SSta.bays s) (Int.toNat n) bay0), SBay.zr (List.getD (SSta.bays s) (Int.toNat n) bay0), SBay.zx (List.getD (SSta.bays s) (Int.toNat n) bay0), linksD (SBay.links (List.getD
 (SSta.bays s) (Int.toNat n) bay0)), SBay.closed (List.getD (SSta.bays s) (Int.toNat n) bay0), SBay.ct (List.getD (SSta.bays s) (Int.toNat n) bay0), SBay.vt (List.getD (SSta.bays s)
 (Int.toNat n) bay0), SBay.sat (List.getD (SSta.bays s) (Int.toNat n) bay0), SBay.travel (List.getD (SSta.bays s) (Int.toNat n) bay0), ()) then (bif !rg (SBay.name (List.getD
 (SSta.bays s) (Int.toNat n) bay0), SBay.kind (List.getD (SSta.bays s) (Int.toNat n) bay0), SBay.off (List.getD (SSta.bays s) (Int.toNat n) bay0), SBay.fin (List.getD (SSta.bays s)
 (Int.toNat n) bay0), SBay.zr (List.getD (SSta.bays s) (Int.toNat n) bay0), SBay.zx (List.getD (SSta.bays s) (Int.toNat n) bay0), linksD (SBay.links (List.getD (SSta.bays s)
 (Int.toNat n) bay0)), SBay.closed (List.getD (SSta.bays s) (Int.toNat n) bay0), SBay.ct (List.getD (SSta.bays s) (Int.toNat n) bay0), SBay.vt (List.getD (SSta.bays s) (Int.toNat n)
 bay0), SBay.sat (List.getD (SSta.bays s) (Int.toNat n) bay0), SBay.travel (List.getD (SSta.bays s) (Int.toNat n) bay0), ()) then some (T.leaf (AV.c (C.d (D.v (Value.int IntKind.i64
 (2 : Int)))), [])) else L24_8 rg okr ok lk s n g g ((0 : Int))) else none))) else (bif SBay.kind (List.getD (SSta.bays s) (Int.toNat n) bay0) == (2 : Int) then (bif decide (SBay.off
 (List.getD (SSta.bays s) (Int.toNat n) bay0) < (0 : Int)) then some (T.leaf (AV.c (.d (.v (.int .i64 (9 : Int)))), [])) else (bif decide (SBay.off (List.getD
 (SSta.bays s) (Int.toNat n) bay0) ≥ (↑(List.length (SSta.srcs s)) : Int)) then some (T.leaf (AV.c (.d (.v (.int .i64 (9 : Int)))), [])) else (bif okr (SBay.name
 (List.getD (SSta.bays s) (Int.toNat n) bay0), SBay.kind (List.getD (SSta.bays s) (Int.toNat n) bay0), SBay.off (List.getD (SSta.bays s) (Int.toNat n) bay0), SBay.fin (List.getD
 (SSta.bays s) (Int.toNat n) bay0), SBay.zr (List.getD (SSta.bays s) (Int.toNat n) bay0), SBay.zx (List.getD (SSta.bays s) (Int.toNat n) bay0), linksD (SBay.links (List.getD
 (SSta.bays s) (Int.toNat n) bay0)), SBay.closed (List.getD (SSta.bays s) (Int.toNat n) bay0), SBay.ct (List.getD (SSta.bays s) (Int.toNat n) bay0), SBay.vt (List.getD (SSta.bays s)
 (Int.toNat n) bay0), SBay.sat (List.getD (SSta.bays s) (Int.toNat n) bay0), SBay.travel (List.getD (SSta.bays s) (Int.toNat n) bay0), ()) then (bif !rg (SBay.name (List.getD
 (SSta.bays s) (Int.toNat n) bay0), SBay.kind (List.getD (SSta.bays s) (Int.toNat n) bay0), SBay.off (List.getD (SSta.bays s) (Int.toNat n) bay0), SBay.fin (List.getD (SSta.bays s)
 (Int.toNat n) bay0), SBay.zr (List.getD (SSta.bays s) (Int.toNat n) bay0), SBay.zx (List.getD (SSta.bays s) (Int.toNat n) bay0), linksD (SBay.links (List.getD (SSta.bays s)
 (Int.toNat n) bay0)), SBay.closed (List.getD (SSta.bays s) (Int.toNat n) bay0), SBay.ct (List.getD (SSta.bays s) (Int.toNat n) bay0), SBay.vt (List.getD (SSta.bays s) (Int.toNat n)
 bay0), SBay.sat (List.getD (SSta.bays s) (Int.toNat n) bay0), SBay.travel (List.getD (SSta.bays s) (Int.toNat n) bay0), ()) then some (T.leaf (AV.c (C.d (D.v (Value.int IntKind.i64
 (2 : Int)))), [])) else L24_8 rg okr ok lk s n g g ((0 : Int))) else none))) else (bif SBay.kind (List.getD (SSta.bays s) (Int.toNat n) bay0) == (3 : Int) then (bif SBay.off
 (List.getD (SSta.bays s) (Int.toNat n) bay0) != (0 : Int) then some (T.leaf (AV.c (.d (.v (.int .i64 (9 : Int)))), [])) else (bif okr (SBay.name (List.getD (SSta.bays
 s) (Int.toNat n) bay0), SBay.kind (List.getD (SSta.bays s) (Int.toNat n) bay0), SBay.off (List.getD (SSta.bays s) (Int.toNat n) bay0), SBay.fin (List.getD (SSta.bays s) (Int.toNat
 n) bay0), SBay.zr (List.getD (SSta.bays s) (Int.toNat n) bay0), SBay.zx (List.getD (SSta.bays s) (Int.toNat n) bay0), linksD (SBay.links (List.getD (SSta.bays s) (Int.toNat n)
 bay0)), SBay.closed (List.getD (SSta.bays s) (Int.toNat n) bay0), SBay.ct (List.getD (SSta.bays s) (Int.toNat n) bay0), SBay.vt (List.getD (SSta.bays s) (Int.toNat n) bay0),
 SBay.sat (List.getD (SSta.bays s) (Int.toNat n) bay0), SBay.travel (List.getD (SSta.bays s) (Int.toNat n) bay0), ()) then (bif !rg (SBay.name (List.getD (SSta.bays s) (Int.toNat n)
 bay0), SBay.kind (List.getD (SSta.bays s) (Int.toNat n) bay0), SBay.off (List.getD (SSta.bays s) (Int.toNat n) bay0), SBay.fin (List.getD (SSta.bays s) (Int.toNat n) bay0), SBay.zr
 (List.getD (SSta.bays s) (Int.toNat n) bay0), SBay.zx (List.getD (SSta.bays s) (Int.toNat n) bay0), linksD (SBay.links (List.getD (SSta.bays s) (Int.toNat n) bay0)), SBay.closed
 (List.getD (SSta.bays s) (Int.toNat n) bay0), SBay.ct (List.getD (SSta.bays s) (Int.toNat n) bay0), SBay.vt (List.getD (SSta.bays s) (Int.toNat n) bay0), SBay.sat (List.getD
 (SSta.bays s) (Int.toNat n) bay0), SBay.travel (List.getD (SSta.bays s) (Int.toNat n) bay0), ()) then some (T.leaf (AV.c (.d (.v (.int .i64 (2 : Int)))), [])) else
 L24_8 rg okr ok lk s n g g ((0 : Int))) else none)) else some (T.leaf (AV.c (.d (.v (.int .i64 (10 : Int)))), []))))) else none) := by kernel_rfl
theorem st24_8 (rg okr : RBay → Bool) (ok : RSta → RBay → Bool) (lk : RSta → RBay → Int) (s : SSta) (n : Int) (g m : Nat) (i7 : Int) : L24_8 rg okr ok lk s n g (m + 1) i7 =
 (bif decide (i7 < n) then (bif SBay.kind (List.getD (SSta.bays s) (Int.toNat n) bay0) != (3 : Int) then (bif decide ((0 : Int) ≤ i7) && decide (i7 < (↑(List.length (SSta.bays s)) :
 Int)) then (bif SBay.kind (List.getD (SSta.bays s) (Int.toNat i7) bay0) == SBay.kind (List.getD (SSta.bays s) (Int.toNat n) bay0) then (bif decide ((0 : Int) ≤ i7) && decide (i7 <
 (↑(List.length (SSta.bays s)) : Int)) then (bif SBay.off (List.getD (SSta.bays s) (Int.toNat i7) bay0) == SBay.off (List.getD (SSta.bays s) (Int.toNat n) bay0) then (bif decide ((0
 : Int) ≤ i7) && decide (i7 < (↑(List.length (SSta.bays s)) : Int)) then (bif SBay.fin (List.getD (SSta.bays s) (Int.toNat i7) bay0) == SBay.fin (List.getD (SSta.bays s) (Int.toNat
 n) bay0) then some (T.leaf (AV.c (.d (.v (.int .i64 (12 : Int)))), [])) else L24_8 rg okr ok lk s n g m (IntKind.wrap .i64 (i7 + (1 : Int)))) else none) else
 L24_8 rg okr ok lk s n g m (IntKind.wrap .i64 (i7 + (1 : Int)))) else none) else L24_8 rg okr ok lk s n g m (IntKind.wrap .i64 (i7 + (1 : Int)))) else none) else (bif
 ok (SSta.name s, D.sl 1 (List.length (SSta.buses s)) fun i => busC (List.getD (SSta.buses s) i e0), D.sl 5 (List.length (SSta.lines s)) fun i => lineC (List.getD
 (SSta.lines s) i line0), D.sl 6 (List.length (SSta.srcs s)) fun i => srcC' (List.getD (SSta.srcs s) i src0), D.sl 12 (List.length (SSta.bays s)) fun i => bayC
 (List.getD (SSta.bays s) i bay0), ()) (SBay.name (List.getD (SSta.bays s) (Int.toNat n) bay0), SBay.kind (List.getD (SSta.bays s) (Int.toNat n) bay0), SBay.off (List.getD (SSta.bays
 s) (Int.toNat n) bay0), SBay.fin (List.getD (SSta.bays s) (Int.toNat n) bay0), SBay.zr (List.getD (SSta.bays s) (Int.toNat n) bay0), SBay.zx (List.getD (SSta.bays s) (Int.toNat n)
 bay0), D.sl 2 (List.length (SBay.links (List.getD (SSta.bays s) (Int.toNat n) bay0))) fun i => linkC (List.getD (SBay.links (List.getD (SSta.bays s) (Int.toNat n) bay0)) i
 link0), SBay.closed (List.getD (SSta.bays s) (Int.toNat n) bay0), SBay.ct (List.getD (SSta.bays s) (Int.toNat n) bay0), SBay.vt (List.getD (SSta.bays s) (Int.toNat n) bay0),
 SBay.sat (List.getD (SSta.bays s) (Int.toNat n) bay0), SBay.travel (List.getD (SSta.bays s) (Int.toNat n) bay0), ()) then some (T.leaf (AV.c (.d (.v (.int .i64 (lk
 (SSta.name s, D.sl 1 (List.length (SSta.buses s)) fun i => busC (List.getD (SSta.buses s) i e0), D.sl 5 (List.length (SSta.lines s)) fun i => lineC (List.getD
 (SSta.lines s) i line0), D.sl 6 (List.length (SSta.srcs s)) fun i => srcC' (List.getD (SSta.srcs s) i src0), D.sl 12 (List.length (SSta.bays s)) fun i => bayC
 (List.getD (SSta.bays s) i bay0), ()) (SBay.name (List.getD (SSta.bays s) (Int.toNat n) bay0), SBay.kind (List.getD (SSta.bays s) (Int.toNat n) bay0), SBay.off (List.getD (SSta.bays
 s) (Int.toNat n) bay0), SBay.fin (List.getD (SSta.bays s) (Int.toNat n) bay0), SBay.zr (List.getD (SSta.bays s) (Int.toNat n) bay0), SBay.zx (List.getD (SSta.bays s) (Int.toNat n)
 bay0), D.sl 2 (List.length (SBay.links (List.getD (SSta.bays s) (Int.toNat n) bay0))) fun i => linkC (List.getD (SBay.links (List.getD (SSta.bays s) (Int.toNat n) bay0)) i
 link0), SBay.closed (List.getD (SSta.bays s) (Int.toNat n) bay0), SBay.ct (List.getD (SSta.bays s) (Int.toNat n) bay0), SBay.vt (List.getD (SSta.bays s) (Int.toNat n) bay0),
 SBay.sat (List.getD (SSta.bays s) (Int.toNat n) bay0), SBay.travel (List.getD (SSta.bays s) (Int.toNat n) bay0), ()))))), [])) else none)) else (bif ok (SSta.name s, D.sl 1
 (List.length (SSta.buses s)) fun i => busC (List.getD (SSta.buses s) i e0), D.sl 5 (List.length (SSta.lines s)) fun i => lineC (List.getD (SSta.lines s) i line0), D.sl (6 :
 Nat) (List.length (SSta.srcs s)) fun i => srcC' (List.getD (SSta.srcs s) i src0), D.sl 12 (List.length (SSta.bays s)) fun i => bayC (List.getD (SSta.bays s) i bay0), ())
 (SBay.name (List.getD (SSta.bays s) (Int.toNat n) bay0), SBay.kind (List.getD (SSta.bays s) (Int.toNat n) bay0), SBay.off (List.getD (SSta.bays s) (Int.toNat n) bay0), SBay.fin
 (List.getD (SSta.bays s) (Int.toNat n) bay0), SBay.zr (List.getD (SSta.bays s) (Int.toNat n) bay0), SBay.zx (List.getD (SSta.bays s) (Int.toNat n) bay0), D.sl 2 (List.length
 (SBay.links (List.getD (SSta.bays s) (Int.toNat n) bay0))) fun i => linkC (List.getD (SBay.links (List.getD (SSta.bays s) (Int.toNat n) bay0)) i link0), SBay.closed (List.getD
 (SSta.bays s) (Int.toNat n) bay0), SBay.ct (List.getD (SSta.bays s) (Int.toNat n) bay0), SBay.vt (List.getD (SSta.bays s) (Int.toNat n) bay0), SBay.sat (List.getD (SSta.bays s)
 (Int.toNat n) bay0), SBay.travel (List.getD (SSta.bays s) (Int.toNat n) bay0), ()) then some (T.leaf (AV.c (.d (.v (.int .i64 (lk (SSta.name s, D.sl 1
 (List.length (SSta.buses s)) fun i => busC (List.getD (SSta.buses s) i e0), D.sl 5 (List.length (SSta.lines s)) fun i => lineC (List.getD (SSta.lines s) i line0), D.sl (6 :
 Nat) (List.length (SSta.srcs s)) fun i => srcC' (List.getD (SSta.srcs s) i src0), D.sl 12 (List.length (SSta.bays s)) fun i => bayC (List.getD (SSta.bays s) i bay0), ())
 (SBay.name (List.getD (SSta.bays s) (Int.toNat n) bay0), SBay.kind (List.getD (SSta.bays s) (Int.toNat n) bay0), SBay.off (List.getD (SSta.bays s) (Int.toNat n) bay0), SBay.fin
 (List.getD (SSta.bays s) (Int.toNat n) bay0), SBay.zr (List.getD (SSta.bays s) (Int.toNat n) bay0), SBay.zx (List.getD (SSta.bays s) (Int.toNat n) bay0), D.sl 2 (List.length
 (SBay.links (List.getD (SSta.bays s) (Int.toNat n) bay0))) fun i => linkC (List.getD (SBay.links (List.getD (SSta.bays s) (Int.toNat n) bay0)) i link0), SBay.closed (List.getD
 (SSta.bays s) (Int.toNat n) bay0), SBay.ct (List.getD (SSta.bays s) (Int.toNat n) bay0), SBay.vt (List.getD (SSta.bays s) (Int.toNat n) bay0), SBay.sat (List.getD (SSta.bays s)
 (Int.toNat n) bay0), SBay.travel (List.getD (SSta.bays s) (Int.toNat n) bay0), ()))))), [])) else none)) := by kernel_rfl
noncomputable def o20 (nk : ByteArray → Bool) (ok : D → ByteArray → Bool) (ix : D → ByteArray → Int) : Orc := Orc.cons 19 (ansP decS fun s => vB (nk s)) (Orc.cons 44 (ansD dDS (fun a => ok a.1.1 a.1.2.1) (fun a => vI (ix a.1.1 a.1.2.1)) fun _ => []) Orc.nil)
noncomputable def ann20 : Ann := annOf []
theorem b20 : Tryz.f20.body = some (bodyOf Tryz.f20) := by kernel_rfl
theorem ev20 (nk : ByteArray → Bool) (ok : D → ByteArray → Bool) (ix : D → ByteArray → Int) (l : List ByteArray) (s : ByteArray) (g : Nat) : callC Tryz.prog (o20 nk ok ix) ann20 g Tryz.f20 (bodyOf Tryz.f20) [.c (.d (busesD l)), vS s] [] =
 (bif !nk s then some (T.leaf (AV.c (.d (.v (.int .i64 (7 : Int)))), [])) else (bif ok (busesD l) s then (bif decide (ix (busesD l) s ≥ (0 : Int)) then some (T.leaf
 (AV.c (.d (.v (.int .i64 (8 : Int)))), [])) else some (T.leaf (AV.c (.d (.v (.int .i64 (0 : Int)))), []))) else none)) := by kernel_rfl
structure K8 where
  nk : ByteArray → Bool
  okn : (RSta × Int × Int × Int × Int × Unit) → Bool
  nm : (RSta × Int × Int × Int × Int × Unit) → D
  okd : D → ByteArray → Bool
  nd : D → ByteArray → Int
  okb : RSta → Int → Bool
  be : RSta → Int → Int
noncomputable def o8 (Z : K8) : Orc := Orc.cons 19 (ansP decS fun s => vB (Z.nk s)) (Orc.cons 21 (ansD dSI4 (fun a => Z.okn a.1) (fun a => .c (.d (Z.nm a.1))) fun _ => []) (Orc.cons 20 (ansD dDS (fun a => Z.okd a.1.1 a.1.2.1) (fun a => vI (Z.nd a.1.1 a.1.2.1)) fun _ => [])
  (Orc.cons 23 (inl Tryz.prog oOh na 1 Tryz.f23) (Orc.cons 24 (ansD dSI (fun a => Z.okb a.1.1 a.1.2.1) (fun a => vI (Z.be a.1.1 a.1.2.1)) fun _ => []) oOh))))
noncomputable def ann8 : Ann := annOf [(7, ⟨[1, 3, 4, 5, 6, 7], []⟩), (13, ⟨[1, 3, 4, 5, 6, 9], []⟩), (21, ⟨[1, 4, 3, 5, 6, 11], []⟩), (29, ⟨[1, 5, 4, 3, 6, 13], []⟩)]
noncomputable def L8_7 (Z : K8) (s : SSta) (g m : Nat) (i7 : Int) := LK Tryz.prog (o8 Z) ann8 0 g Tryz.f9 7 m ⟨frm [(1, .c (.ptr 0 0)), (3, .c (.d (.v (.int .i64 (↑(List.length (SSta.buses s)) : Int))))), (4, .c (.d (.v (.int .i64 (↑(List.length (SSta.lines s)) : Int))))), (5, .c (.d (.v (.int .i64 (↑(List.length (SSta.srcs s)) : Int))))), (6, .c (.d (.v (.int .i64 (↑(List.length (SSta.bays s)) : Int))))), (7, .c (.d (.v (.int .i64 i7))))] 0 Tryz.f9.ntmps, [(0, Blk.cells [.d (.v (.string (SSta.name s))), C.d (D.sl 1 (List.length (SSta.buses s)) fun i => busC (List.getD (SSta.buses s) i e0)), C.d (D.sl 5 (List.length (SSta.lines s)) fun i => lineC (List.getD (SSta.lines s) i line0)), C.d (D.sl 6 (List.length (SSta.srcs s)) fun i => srcC' (List.getD (SSta.srcs s) i src0)), C.d (D.sl 12 (List.length (SSta.bays s)) fun i => bayC (List.getD (SSta.bays s) i bay0))] 27)], 1⟩
noncomputable def L8_13 (Z : K8) (s : SSta) (g m : Nat) (i9 : Int) := LK Tryz.prog (o8 Z) ann8 0 g Tryz.f9 13 m ⟨frm [(1, .c (.ptr 0 0)), (3, .c (.d (.v (.int .i64 (↑(List.length (SSta.buses s)) : Int))))), (4, .c (.d (.v (.int .i64 (↑(List.length (SSta.lines s)) : Int))))), (5, .c (.d (.v (.int .i64 (↑(List.length (SSta.srcs s)) : Int))))), (6, .c (.d (.v (.int .i64 (↑(List.length (SSta.bays s)) : Int))))), (9, .c (.d (.v (.int .i64 i9))))] 0 Tryz.f9.ntmps, [(0, Blk.cells [.d (.v (.string (SSta.name s))), C.d (D.sl 1 (List.length (SSta.buses s)) fun i => busC (List.getD (SSta.buses s) i e0)), C.d (D.sl 5 (List.length (SSta.lines s)) fun i => lineC (List.getD (SSta.lines s) i line0)), C.d (D.sl 6 (List.length (SSta.srcs s)) fun i => srcC' (List.getD (SSta.srcs s) i src0)), C.d (D.sl 12 (List.length (SSta.bays s)) fun i => bayC (List.getD (SSta.bays s) i bay0))] 27)], 1⟩
noncomputable def L8_21 (Z : K8) (s : SSta) (g m : Nat) (i11 : Int) := LK Tryz.prog (o8 Z) ann8 0 g Tryz.f9 21 m ⟨frm [(1, .c (.ptr 0 0)), (3, .c (.d (.v (.int .i64 (↑(List.length (SSta.buses s)) : Int))))), (4, .c (.d (.v (.int .i64 (↑(List.length (SSta.lines s)) : Int))))), (5, .c (.d (.v (.int .i64 (↑(List.length (SSta.srcs s)) : Int))))), (6, .c (.d (.v (.int .i64 (↑(List.length (SSta.bays s)) : Int))))), (11, .c (.d (.v (.int .i64 i11))))] 0 Tryz.f9.ntmps, [(0, Blk.cells [.d (.v (.string (SSta.name s))), C.d (D.sl 1 (List.length (SSta.buses s)) fun i => busC (List.getD (SSta.buses s) i e0)), C.d (D.sl 5 (List.length (SSta.lines s)) fun i => lineC (List.getD (SSta.lines s) i line0)), C.d (D.sl 6 (List.length (SSta.srcs s)) fun i => srcC' (List.getD (SSta.srcs s) i src0)), C.d (D.sl 12 (List.length (SSta.bays s)) fun i => bayC (List.getD (SSta.bays s) i bay0))] 27)], 1⟩
noncomputable def L8_29 (Z : K8) (s : SSta) (g m : Nat) (i13 : Int) := LK Tryz.prog (o8 Z) ann8 0 g Tryz.f9 29 m ⟨frm [(1, .c (.ptr 0 0)), (3, .c (.d (.v (.int .i64 (↑(List.length (SSta.buses s)) : Int))))), (4, .c (.d (.v (.int .i64 (↑(List.length (SSta.lines s)) : Int))))), (5, .c (.d (.v (.int .i64 (↑(List.length (SSta.srcs s)) : Int))))), (6, .c (.d (.v (.int .i64 (↑(List.length (SSta.bays s)) : Int))))), (13, .c (.d (.v (.int .i64 i13))))] 0 Tryz.f9.ntmps, [(0, Blk.cells [.d (.v (.string (SSta.name s))), C.d (D.sl 1 (List.length (SSta.buses s)) fun i => busC (List.getD (SSta.buses s) i e0)), C.d (D.sl 5 (List.length (SSta.lines s)) fun i => lineC (List.getD (SSta.lines s) i line0)), C.d (D.sl 6 (List.length (SSta.srcs s)) fun i => srcC' (List.getD (SSta.srcs s) i src0)), C.d (D.sl 12 (List.length (SSta.bays s)) fun i => bayC (List.getD (SSta.bays s) i bay0))] 27)], 1⟩
theorem b8 : Tryz.f9.body = some (bodyOf Tryz.f9) := by kernel_rfl
theorem ev8 (Z : K8) (s : SSta) (g : Nat) : callC Tryz.prog (o8 Z) ann8 g Tryz.f9 (bodyOf Tryz.f9) [aSta s] [] =
 (bif !K8.nk Z (SSta.name s) then some (T.leaf (AV.c (.d (.v (.int .i64 (7 : Int)))), [])) else (bif decide ((↑(List.length (SSta.buses s)) : Int) < (1 : Int)) then
 some (T.leaf (AV.c (.d (.v (.int .i64 (3 : Int)))), [])) else (bif decide ((↑(List.length (SSta.buses s)) : Int) > (4 : Int)) then some (T.leaf (AV.c (C.d (D.v
 (Value.int IntKind.i64 (3 : Int)))), [])) else (bif decide ((↑(List.length (SSta.lines s)) : Int) > (6 : Int)) then some (T.leaf (AV.c (.d (.v (.int .i64 (3 : Int)))),
 [])) else (bif decide ((↑(List.length (SSta.srcs s)) : Int) > (4 : Int)) then some (T.leaf (AV.c (.d (.v (.int .i64 (3 : Int)))), [])) else (bif decide ((↑(List.length
 (SSta.bays s)) : Int) > (16 : Int)) then some (T.leaf (AV.c (.d (.v (.int .i64 (3 : Int)))), [])) else L8_7 Z s g g ((0 : Int)))))))) := by kernel_rfl
theorem st8_7 (Z : K8) (s : SSta) (g m : Nat) (i7 : Int) : L8_7 Z s g (m + 1) i7 =
 (bif decide (i7 < (↑(List.length (SSta.buses s)) : Int)) then (bif K8.okn Z ((SSta.name s, D.sl 1 (List.length (SSta.buses s)) fun i => busC (List.getD (SSta.buses s) i e0),
 D.sl 5 (List.length (SSta.lines s)) fun i => lineC (List.getD (SSta.lines s) i line0), D.sl 6 (List.length (SSta.srcs s)) fun i => srcC' (List.getD (SSta.srcs s) i
 src0), D.sl 12 (List.length (SSta.bays s)) fun i => bayC (List.getD (SSta.bays s) i bay0), ()), i7, (0 : Int), (0 : Int), (0 : Int), ()) then (bif decide ((0 : Int) ≤ i7) &&
 decide (i7 < (↑(List.length (SSta.buses s)) : Int)) then (bif K8.okd Z (K8.nm Z ((SSta.name s, D.sl 1 (List.length (SSta.buses s)) fun i => busC (List.getD (SSta.buses s) i
 e0), D.sl 5 (List.length (SSta.lines s)) fun i => lineC (List.getD (SSta.lines s) i line0), D.sl 6 (List.length (SSta.srcs s)) fun i => srcC' (List.getD (SSta.srcs
 s) i src0), D.sl 12 (List.length (SSta.bays s)) fun i => bayC (List.getD (SSta.bays s) i bay0), ()), i7, (0 : Int), (0 : Int), (0 : Int), ())) (List.getD (SSta.buses s)
 (Int.toNat i7) e0) then (bif K8.nd Z (K8.nm Z ((SSta.name s, D.sl 1 (List.length (SSta.buses s)) fun i => busC (List.getD (SSta.buses s) i e0), D.sl 5 (List.length
 (SSta.lines s)) fun i => lineC (List.getD (SSta.lines s) i line0), D.sl 6 (List.length (SSta.srcs s)) fun i => srcC' (List.getD (SSta.srcs s) i src0), D.sl 12
 (List.length (SSta.bays s)) fun i => bayC (List.getD (SSta.bays s) i bay0), ()), i7, (0 : Int), (0 : Int), (0 : Int), ())) (List.getD (SSta.buses s) (Int.toNat i7) e0) != (0 : Int)
 then some (T.leaf (AV.c (.d (.v (.int .i64 (K8.nd Z (K8.nm Z ((SSta.name s, D.sl 1 (List.length (SSta.buses s)) fun i => busC (List.getD (SSta.buses s) i e0),
 D.sl 5 (List.length (SSta.lines s)) fun i => lineC (List.getD (SSta.lines s) i line0), D.sl 6 (List.length (SSta.srcs s)) fun i => srcC' (List.getD (SSta.srcs s) i
 src0), D.sl 12 (List.length (SSta.bays s)) fun i => bayC (List.getD (SSta.bays s) i bay0), ()), i7, (0 : Int), (0 : Int), (0 : Int), ())) (List.getD (SSta.buses s)
 (Int.toNat i7) e0))))), [])) else L8_7 Z s g m (IntKind.wrap .i64 (i7 + (1 : Int)))) else none) else none) else none) else L8_13 Z s g g ((0 : Int))) := by kernel_rfl
theorem st8_13 (Z : K8) (s : SSta) (g m : Nat) (i9 : Int) : L8_13 Z s g (m + 1) i9 =
 (bif decide (i9 < (↑(List.length (SSta.lines s)) : Int)) then (bif K8.okn Z ((SSta.name s, D.sl 1 (List.length (SSta.buses s)) fun i => busC (List.getD (SSta.buses s) i e0),
 D.sl 5 (List.length (SSta.lines s)) fun i => lineC (List.getD (SSta.lines s) i line0), D.sl 6 (List.length (SSta.srcs s)) fun i => srcC' (List.getD (SSta.srcs s) i
 src0), D.sl 12 (List.length (SSta.bays s)) fun i => bayC (List.getD (SSta.bays s) i bay0), ()), (↑(List.length (SSta.buses s)) : Int), i9, (0 : Int), (0 : Int), ()) then
 (bif decide ((0 : Int) ≤ i9) && decide (i9 < (↑(List.length (SSta.lines s)) : Int)) then (bif K8.okd Z (K8.nm Z ((SSta.name s, D.sl 1 (List.length (SSta.buses s)) fun i =>
 busC (List.getD (SSta.buses s) i e0), D.sl 5 (List.length (SSta.lines s)) fun i => lineC (List.getD (SSta.lines s) i line0), D.sl 6 (List.length (SSta.srcs s)) fun i
 => srcC' (List.getD (SSta.srcs s) i src0), D.sl 12 (List.length (SSta.bays s)) fun i => bayC (List.getD (SSta.bays s) i bay0), ()), (↑(List.length (SSta.buses s)) : Int),
 i9, (0 : Int), (0 : Int), ())) (SLine.name (List.getD (SSta.lines s) (Int.toNat i9) line0)) then (bif K8.nd Z (K8.nm Z ((SSta.name s, D.sl 1 (List.length (SSta.buses s)) fun
 i => busC (List.getD (SSta.buses s) i e0), D.sl 5 (List.length (SSta.lines s)) fun i => lineC (List.getD (SSta.lines s) i line0), D.sl 6 (List.length (SSta.srcs s))
 fun i => srcC' (List.getD (SSta.srcs s) i src0), D.sl 12 (List.length (SSta.bays s)) fun i => bayC (List.getD (SSta.bays s) i bay0), ()), (↑(List.length (SSta.buses s)) :
 Int), i9, (0 : Int), (0 : Int), ())) (SLine.name (List.getD (SSta.lines s) (Int.toNat i9) line0)) == (0 : Int) then (bif decide ((0 : Int) ≤ i9) && decide (i9 < (↑(List.length
 (SSta.lines s)) : Int)) then (bif decide (SLine.r1 (List.getD (SSta.lines s) (Int.toNat i9) line0) ≥ (0 : Int)) then (bif decide (SLine.r1 (List.getD (SSta.lines s) (Int.toNat i9)
 line0) ≤ (1000 : Int)) then (bif decide (SLine.x1 (List.getD (SSta.lines s) (Int.toNat i9) line0) ≥ (1 : Int)) then (bif !decide (SLine.x1 (List.getD (SSta.lines s) (Int.toNat i9)
 line0) ≤ (1000 : Int)) then some (T.leaf (AV.c (.d (.v (.int .i64 (2 : Int)))), [])) else (bif decide ((0 : Int) ≤ i9) && decide (i9 < (↑(List.length (SSta.lines s)) :
 Int)) then (bif decide (SLine.r0 (List.getD (SSta.lines s) (Int.toNat i9) line0) ≥ (0 : Int)) then (bif decide (SLine.r0 (List.getD (SSta.lines s) (Int.toNat i9) line0) ≤ (1000 :
 Int)) then (bif decide (SLine.x0 (List.getD (SSta.lines s) (Int.toNat i9) line0) ≥ (1 : Int)) then (bif !decide (SLine.x0 (List.getD (SSta.lines s) (Int.toNat i9) line0) ≤ (1000 :
 Int)) then some (T.leaf (AV.c (.d (.v (.int .i64 (2 : Int)))), [])) else (bif K8.nd Z (K8.nm Z ((SSta.name s, D.sl 1 (List.length (SSta.buses s)) fun i => busC
 (List.getD (SSta.buses s) i e0), D.sl 5 (List.length (SSta.lines s)) fun i => lineC (List.getD (SSta.lines s) i line0), D.sl 6 (List.length (SSta.srcs s)) fun i =>
 srcC' (List.getD (SSta.srcs s) i src0), D.sl 12 (List.length (SSta.bays s)) fun i => bayC (List.getD (SSta.bays s) i bay0), ()), (↑(List.length (SSta.buses s)) : Int), i9,
 (0 : Int), (0 : Int), ())) (SLine.name (List.getD (SSta.lines s) (Int.toNat i9) line0)) != (0 : Int) then some (T.leaf (AV.c (.d (.v (.int .i64 (K8.nd Z (K8.nm Z
 ((SSta.name s, D.sl 1 (List.length (SSta.buses s)) fun i => busC (List.getD (SSta.buses s) i e0), D.sl 5 (List.length (SSta.lines s)) fun i => lineC (List.getD
 (SSta.lines s) i line0), D.sl 6 (List.length (SSta.srcs s)) fun i => srcC' (List.getD (SSta.srcs s) i src0), D.sl 12 (List.length (SSta.bays s)) fun i => bayC
 (List.getD (SSta.bays s) i bay0), ()), (↑(List.length (SSta.buses s)) : Int), i9, (0 : Int), (0 : Int), ())) (SLine.name (List.getD (SSta.lines s) (Int.toNat i9) line0)))))), []))
 else L8_13 Z s g m (IntKind.wrap .i64 (i9 + (1 : Int))))) else some (T.leaf (AV.c (.d (.v (.int .i64 (2 : Int)))), []))) else some (T.leaf (AV.c (C.d (D.v
 (Value.int IntKind.i64 (2 : Int)))), []))) else some (T.leaf (AV.c (.d (.v (.int .i64 (2 : Int)))), []))) else none)) else some (T.leaf (AV.c (C.d (D.v (Value.int
 IntKind.i64 (2 : Int)))), []))) else some (T.leaf (AV.c (.d (.v (.int .i64 (2 : Int)))), []))) else some (T.leaf (AV.c (.d (.v (.int .i64 (2 : Int)))),
 []))) else none) else (bif K8.nd Z (K8.nm Z ((SSta.name s, D.sl 1 (List.length (SSta.buses s)) fun i => busC (List.getD (SSta.buses s) i e0), D.sl 5 (List.length
 (SSta.lines s)) fun i => lineC (List.getD (SSta.lines s) i line0), D.sl 6 (List.length (SSta.srcs s)) fun i => srcC' (List.getD (SSta.srcs s) i src0), D.sl 12
 (List.length (SSta.bays s)) fun i => bayC (List.getD (SSta.bays s) i bay0), ()), (↑(List.length (SSta.buses s)) : Int), i9, (0 : Int), (0 : Int), ())) (SLine.name (List.getD
 (SSta.lines s) (Int.toNat i9) line0)) != (0 : Int) then some (T.leaf (AV.c (.d (.v (.int .i64 (K8.nd Z (K8.nm Z ((SSta.name s, D.sl 1 (List.length (SSta.buses
 s)) fun i => busC (List.getD (SSta.buses s) i e0), D.sl 5 (List.length (SSta.lines s)) fun i => lineC (List.getD (SSta.lines s) i line0), D.sl 6 (List.length
 (SSta.srcs s)) fun i => srcC' (List.getD (SSta.srcs s) i src0), D.sl 12 (List.length (SSta.bays s)) fun i => bayC (List.getD (SSta.bays s) i bay0), ()), (↑(List.length
 (SSta.buses s)) : Int), i9, (0 : Int), (0 : Int), ())) (SLine.name (List.getD (SSta.lines s) (Int.toNat i9) line0)))))), [])) else L8_13 Z s g m (IntKind.wrap .i64 (i9 + (1 :
 Int))))) else none) else none) else none) else L8_21 Z s g g ((0 : Int))) := by kernel_rfl
theorem st8_21 (Z : K8) (s : SSta) (g m : Nat) (i11 : Int) : L8_21 Z s g (m + 1) i11 =
 (bif decide (i11 < (↑(List.length (SSta.srcs s)) : Int)) then (bif K8.okn Z ((SSta.name s, D.sl 1 (List.length (SSta.buses s)) fun i => busC (List.getD (SSta.buses s) i e0),
 D.sl 5 (List.length (SSta.lines s)) fun i => lineC (List.getD (SSta.lines s) i line0), D.sl 6 (List.length (SSta.srcs s)) fun i => srcC' (List.getD (SSta.srcs s) i
 src0), D.sl 12 (List.length (SSta.bays s)) fun i => bayC (List.getD (SSta.bays s) i bay0), ()), (↑(List.length (SSta.buses s)) : Int), (↑(List.length (SSta.lines s)) : Int),
 i11, (0 : Int), ()) then (bif decide ((0 : Int) ≤ i11) && decide (i11 < (↑(List.length (SSta.srcs s)) : Int)) then (bif K8.okd Z (K8.nm Z ((SSta.name s, D.sl 1 (List.length
 (SSta.buses s)) fun i => busC (List.getD (SSta.buses s) i e0), D.sl 5 (List.length (SSta.lines s)) fun i => lineC (List.getD (SSta.lines s) i line0), D.sl 6
 (List.length (SSta.srcs s)) fun i => srcC' (List.getD (SSta.srcs s) i src0), D.sl 12 (List.length (SSta.bays s)) fun i => bayC (List.getD (SSta.bays s) i bay0), ()),
 (↑(List.length (SSta.buses s)) : Int), (↑(List.length (SSta.lines s)) : Int), i11, (0 : Int), ())) (SSrc.name (List.getD (SSta.srcs s) (Int.toNat i11) src0)) then (bif K8.nd Z
 (K8.nm Z ((SSta.name s, D.sl 1 (List.length (SSta.buses s)) fun i => busC (List.getD (SSta.buses s) i e0), D.sl 5 (List.length (SSta.lines s)) fun i => lineC
 (List.getD (SSta.lines s) i line0), D.sl 6 (List.length (SSta.srcs s)) fun i => srcC' (List.getD (SSta.srcs s) i src0), D.sl 12 (List.length (SSta.bays s)) fun i =>
 bayC (List.getD (SSta.bays s) i bay0), ()), (↑(List.length (SSta.buses s)) : Int), (↑(List.length (SSta.lines s)) : Int), i11, (0 : Int), ())) (SSrc.name (List.getD (SSta.srcs s)
 (Int.toNat i11) src0)) == (0 : Int) then (bif decide ((0 : Int) ≤ i11) && decide (i11 < (↑(List.length (SSta.srcs s)) : Int)) then (bif decide (SSrc.emf (List.getD (SSta.srcs s)
 (Int.toNat i11) src0) ≥ (1 : Int)) then (bif decide (SSrc.emf (List.getD (SSta.srcs s) (Int.toNat i11) src0) ≤ (1000000 : Int)) then (bif decide (SSrc.r1 (List.getD (SSta.srcs s)
 (Int.toNat i11) src0) ≥ (0 : Int)) then (bif decide (SSrc.r1 (List.getD (SSta.srcs s) (Int.toNat i11) src0) ≤ (1000 : Int)) then (bif decide (SSrc.x1 (List.getD (SSta.srcs s)
 (Int.toNat i11) src0) ≥ (1 : Int)) then (bif decide (SSrc.x1 (List.getD (SSta.srcs s) (Int.toNat i11) src0) ≤ (1000 : Int)) then (bif decide (SSrc.r0 (List.getD (SSta.srcs s)
 (Int.toNat i11) src0) ≥ (0 : Int)) then (bif decide (SSrc.r0 (List.getD (SSta.srcs s) (Int.toNat i11) src0) ≤ (1000 : Int)) then (bif decide (SSrc.x0 (List.getD (SSta.srcs s)
 (Int.toNat i11) src0) ≥ (1 : Int)) then (bif !decide (SSrc.x0 (List.getD (SSta.srcs s) (Int.toNat i11) src0) ≤ (1000 : Int)) then some (T.leaf (AV.c (C.d (D.v (Value.int IntKind.i64
 (2 : Int)))), [])) else (bif K8.nd Z (K8.nm Z ((SSta.name s, D.sl 1 (List.length (SSta.buses s)) fun i => busC (List.getD (SSta.buses s) i e0), D.sl 5 (List.length
 (SSta.lines s)) fun i => lineC (List.getD (SSta.lines s) i line0), D.sl 6 (List.length (SSta.srcs s)) fun i => srcC' (List.getD (SSta.srcs s) i src0), D.sl 12
 (List.length (SSta.bays s)) fun i => bayC (List.getD (SSta.bays s) i bay0), ()), (↑(List.length (SSta.buses s)) : Int), (↑(List.length (SSta.lines s)) : Int), i11, (0 : Int), ()))
 (SSrc.name (List.getD (SSta.srcs s) (Int.toNat i11) src0)) != (0 : Int) then some (T.leaf (AV.c (.d (.v (.int .i64 (K8.nd Z (K8.nm Z ((SSta.name s, D.sl 1
 (List.length (SSta.buses s)) fun i => busC (List.getD (SSta.buses s) i e0), D.sl 5 (List.length (SSta.lines s)) fun i => lineC (List.getD (SSta.lines s) i line0), D.sl (6 :
 Nat) (List.length (SSta.srcs s)) fun i => srcC' (List.getD (SSta.srcs s) i src0), D.sl 12 (List.length (SSta.bays s)) fun i => bayC (List.getD (SSta.bays s) i bay0), ()),
 (↑(List.length (SSta.buses s)) : Int), (↑(List.length (SSta.lines s)) : Int), i11, (0 : Int), ())) (SSrc.name (List.getD (SSta.srcs s) (Int.toNat i11) src0)))))), [])) else L8_21 Z
 s g m (IntKind.wrap .i64 (i11 + (1 : Int))))) else some (T.leaf (AV.c (.d (.v (.int .i64 (2 : Int)))), []))) else some (T.leaf (AV.c (C.d (D.v (Value.int
 IntKind.i64 (2 : Int)))), []))) else some (T.leaf (AV.c (.d (.v (.int .i64 (2 : Int)))), []))) else some (T.leaf (AV.c (.d (.v (.int .i64 (2 : Int)))),
 []))) else some (T.leaf (AV.c (.d (.v (.int .i64 (2 : Int)))), []))) else some (T.leaf (AV.c (.d (.v (.int .i64 (2 : Int)))), []))) else some (T.leaf
 (AV.c (.d (.v (.int .i64 (2 : Int)))), []))) else some (T.leaf (AV.c (.d (.v (.int .i64 (2 : Int)))), []))) else some (T.leaf (AV.c (C.d (D.v (Value.int
 IntKind.i64 (2 : Int)))), []))) else none) else (bif K8.nd Z (K8.nm Z ((SSta.name s, D.sl 1 (List.length (SSta.buses s)) fun i => busC (List.getD (SSta.buses s) i e0), D.sl
 5 (List.length (SSta.lines s)) fun i => lineC (List.getD (SSta.lines s) i line0), D.sl 6 (List.length (SSta.srcs s)) fun i => srcC' (List.getD (SSta.srcs s) i src0),
 D.sl 12 (List.length (SSta.bays s)) fun i => bayC (List.getD (SSta.bays s) i bay0), ()), (↑(List.length (SSta.buses s)) : Int), (↑(List.length (SSta.lines s)) : Int), i11,
 (0 : Int), ())) (SSrc.name (List.getD (SSta.srcs s) (Int.toNat i11) src0)) != (0 : Int) then some (T.leaf (AV.c (.d (.v (.int .i64 (K8.nd Z (K8.nm Z ((SSta.name s,
 D.sl 1 (List.length (SSta.buses s)) fun i => busC (List.getD (SSta.buses s) i e0), D.sl 5 (List.length (SSta.lines s)) fun i => lineC (List.getD (SSta.lines s) i
 line0), D.sl 6 (List.length (SSta.srcs s)) fun i => srcC' (List.getD (SSta.srcs s) i src0), D.sl 12 (List.length (SSta.bays s)) fun i => bayC (List.getD (SSta.bays
 s) i bay0), ()), (↑(List.length (SSta.buses s)) : Int), (↑(List.length (SSta.lines s)) : Int), i11, (0 : Int), ())) (SSrc.name (List.getD (SSta.srcs s) (Int.toNat i11) src0)))))),
 [])) else L8_21 Z s g m (IntKind.wrap .i64 (i11 + (1 : Int))))) else none) else none) else none) else L8_29 Z s g g ((0 : Int))) := by kernel_rfl
theorem st8_29 (Z : K8) (s : SSta) (g m : Nat) (i13 : Int) : L8_29 Z s g (m + 1) i13 =
 (bif decide (i13 < (↑(List.length (SSta.bays s)) : Int)) then (bif K8.okn Z ((SSta.name s, D.sl 1 (List.length (SSta.buses s)) fun i => busC (List.getD (SSta.buses s) i e0),
 D.sl 5 (List.length (SSta.lines s)) fun i => lineC (List.getD (SSta.lines s) i line0), D.sl 6 (List.length (SSta.srcs s)) fun i => srcC' (List.getD (SSta.srcs s) i
 src0), D.sl 12 (List.length (SSta.bays s)) fun i => bayC (List.getD (SSta.bays s) i bay0), ()), (↑(List.length (SSta.buses s)) : Int), (↑(List.length (SSta.lines s)) : Int),
 (↑(List.length (SSta.srcs s)) : Int), i13, ()) then (bif decide ((0 : Int) ≤ i13) && decide (i13 < (↑(List.length (SSta.bays s)) : Int)) then (bif K8.okd Z (K8.nm Z ((SSta.name s,
 D.sl 1 (List.length (SSta.buses s)) fun i => busC (List.getD (SSta.buses s) i e0), D.sl 5 (List.length (SSta.lines s)) fun i => lineC (List.getD (SSta.lines s) i
 line0), D.sl 6 (List.length (SSta.srcs s)) fun i => srcC' (List.getD (SSta.srcs s) i src0), D.sl 12 (List.length (SSta.bays s)) fun i => bayC (List.getD (SSta.bays
 s) i bay0), ()), (↑(List.length (SSta.buses s)) : Int), (↑(List.length (SSta.lines s)) : Int), (↑(List.length (SSta.srcs s)) : Int), i13, ())) (SBay.name (List.getD (SSta.bays s)
 (Int.toNat i13) bay0)) then (bif K8.nd Z (K8.nm Z ((SSta.name s, D.sl 1 (List.length (SSta.buses s)) fun i => busC (List.getD (SSta.buses s) i e0), D.sl 5
 (List.length (SSta.lines s)) fun i => lineC (List.getD (SSta.lines s) i line0), D.sl 6 (List.length (SSta.srcs s)) fun i => srcC' (List.getD (SSta.srcs s) i src0), D.sl (12
 : Nat) (List.length (SSta.bays s)) fun i => bayC (List.getD (SSta.bays s) i bay0), ()), (↑(List.length (SSta.buses s)) : Int), (↑(List.length (SSta.lines s)) : Int), (↑(List.length
 (SSta.srcs s)) : Int), i13, ())) (SBay.name (List.getD (SSta.bays s) (Int.toNat i13) bay0)) == (0 : Int) then (bif K8.okb Z (SSta.name s, D.sl 1 (List.length (SSta.buses s))
 fun i => busC (List.getD (SSta.buses s) i e0), D.sl 5 (List.length (SSta.lines s)) fun i => lineC (List.getD (SSta.lines s) i line0), D.sl 6 (List.length (SSta.srcs
 s)) fun i => srcC' (List.getD (SSta.srcs s) i src0), D.sl 12 (List.length (SSta.bays s)) fun i => bayC (List.getD (SSta.bays s) i bay0), ()) i13 then (bif K8.be Z (SSta.name
 s, D.sl 1 (List.length (SSta.buses s)) fun i => busC (List.getD (SSta.buses s) i e0), D.sl 5 (List.length (SSta.lines s)) fun i => lineC (List.getD (SSta.lines s) i
 line0), D.sl 6 (List.length (SSta.srcs s)) fun i => srcC' (List.getD (SSta.srcs s) i src0), D.sl 12 (List.length (SSta.bays s)) fun i => bayC (List.getD (SSta.bays
 s) i bay0), ()) i13 != (0 : Int) then some (T.leaf (AV.c (.d (.v (.int .i64 (K8.be Z (SSta.name s, D.sl 1 (List.length (SSta.buses s)) fun i => busC (List.getD
 (SSta.buses s) i e0), D.sl 5 (List.length (SSta.lines s)) fun i => lineC (List.getD (SSta.lines s) i line0), D.sl 6 (List.length (SSta.srcs s)) fun i => srcC'
 (List.getD (SSta.srcs s) i src0), D.sl 12 (List.length (SSta.bays s)) fun i => bayC (List.getD (SSta.bays s) i bay0), ()) i13)))), [])) else L8_29 Z s g m (IntKind.wrap
 IntKind.i64 (i13 + (1 : Int)))) else none) else (bif K8.nd Z (K8.nm Z ((SSta.name s, D.sl 1 (List.length (SSta.buses s)) fun i => busC (List.getD (SSta.buses s) i e0), D.sl
 5 (List.length (SSta.lines s)) fun i => lineC (List.getD (SSta.lines s) i line0), D.sl 6 (List.length (SSta.srcs s)) fun i => srcC' (List.getD (SSta.srcs s) i src0),
 D.sl 12 (List.length (SSta.bays s)) fun i => bayC (List.getD (SSta.bays s) i bay0), ()), (↑(List.length (SSta.buses s)) : Int), (↑(List.length (SSta.lines s)) : Int),
 (↑(List.length (SSta.srcs s)) : Int), i13, ())) (SBay.name (List.getD (SSta.bays s) (Int.toNat i13) bay0)) != (0 : Int) then some (T.leaf (AV.c (C.d (D.v (Value.int IntKind.i64
 (K8.nd Z (K8.nm Z ((SSta.name s, D.sl 1 (List.length (SSta.buses s)) fun i => busC (List.getD (SSta.buses s) i e0), D.sl 5 (List.length (SSta.lines s)) fun i =>
 lineC (List.getD (SSta.lines s) i line0), D.sl 6 (List.length (SSta.srcs s)) fun i => srcC' (List.getD (SSta.srcs s) i src0), D.sl 12 (List.length (SSta.bays s)) fun
 i => bayC (List.getD (SSta.bays s) i bay0), ()), (↑(List.length (SSta.buses s)) : Int), (↑(List.length (SSta.lines s)) : Int), (↑(List.length (SSta.srcs s)) : Int), i13, ()))
 (SBay.name (List.getD (SSta.bays s) (Int.toNat i13) bay0)))))), [])) else L8_29 Z s g m (IntKind.wrap .i64 (i13 + (1 : Int))))) else none) else none) else none) else some
 (T.leaf (AV.c (.d (.v (.int .i64 (0 : Int)))), []))) := by kernel_rfl
end Go.Proofs.YtngoglhlhlfknaaGreat.st
namespace Go.Proofs.YtngoglhlhlfknaaGreat.st
open Go.RowKit Go.Eb
noncomputable def ann21 : Ann := annOf [(3, ⟨[5, 4, 3, 2, 12, 11], []⟩), (7, ⟨[5, 4, 3, 13, 11], []⟩), (11, ⟨[5, 4, 14, 11], []⟩)]
noncomputable def L21_3 (s : SSta) (nb nl ns nq : Int) (g m : Nat) (n1 : Nat) (f1 : Nat → List D) (i12 : Int) := LK Tryz.prog Orc.nil ann21 0 g Tryz.f21 3 m ⟨frm [(2, .c (.d (.v (.int .i64 nl)))), (3, .c (.d (.v (.int .i64 ns)))), (4, .c (.d (.v (.int .i64 nq)))), (5, .c (.ptr 0 0)), (11, .c (.row 1 1 n1)), (12, .c (.d (.v (.int .i64 i12))))] 0 Tryz.f21.ntmps, [(0, Blk.cells [.d (.v (.string (SSta.name s))), C.d (D.sl 1 (List.length (SSta.buses s)) fun i => busC (List.getD (SSta.buses s) i e0)), C.d (D.sl 5 (List.length (SSta.lines s)) fun i => lineC (List.getD (SSta.lines s) i line0)), C.d (D.sl 6 (List.length (SSta.srcs s)) fun i => srcC' (List.getD (SSta.srcs s) i src0)), C.d (D.sl 12 (List.length (SSta.bays s)) fun i => bayC (List.getD (SSta.bays s) i bay0))] 27), (1, Blk.row n1 f1 1 9)], 2⟩
noncomputable def L21_7 (s : SSta) (nb nl ns nq : Int) (g m : Nat) (n1 : Nat) (f1 : Nat → List D) (i13 : Int) := LK Tryz.prog Orc.nil ann21 0 g Tryz.f21 7 m ⟨frm [(3, .c (.d (.v (.int .i64 ns)))), (4, .c (.d (.v (.int .i64 nq)))), (5, .c (.ptr 0 0)), (11, .c (.row 1 1 n1)), (13, .c (.d (.v (.int .i64 i13))))] 0 Tryz.f21.ntmps, [(0, Blk.cells [.d (.v (.string (SSta.name s))), C.d (D.sl 1 (List.length (SSta.buses s)) fun i => busC (List.getD (SSta.buses s) i e0)), C.d (D.sl 5 (List.length (SSta.lines s)) fun i => lineC (List.getD (SSta.lines s) i line0)), C.d (D.sl 6 (List.length (SSta.srcs s)) fun i => srcC' (List.getD (SSta.srcs s) i src0)), C.d (D.sl 12 (List.length (SSta.bays s)) fun i => bayC (List.getD (SSta.bays s) i bay0))] 27), (1, Blk.row n1 f1 1 9)], 2⟩
noncomputable def L21_11 (s : SSta) (nb nl ns nq : Int) (g m : Nat) (n1 : Nat) (f1 : Nat → List D) (i14 : Int) := LK Tryz.prog Orc.nil ann21 0 g Tryz.f21 11 m ⟨frm [(4, .c (.d (.v (.int .i64 nq)))), (5, .c (.ptr 0 0)), (11, .c (.row 1 1 n1)), (14, .c (.d (.v (.int .i64 i14))))] 0 Tryz.f21.ntmps, [(0, Blk.cells [.d (.v (.string (SSta.name s))), C.d (D.sl 1 (List.length (SSta.buses s)) fun i => busC (List.getD (SSta.buses s) i e0)), C.d (D.sl 5 (List.length (SSta.lines s)) fun i => lineC (List.getD (SSta.lines s) i line0)), C.d (D.sl 6 (List.length (SSta.srcs s)) fun i => srcC' (List.getD (SSta.srcs s) i src0)), C.d (D.sl 12 (List.length (SSta.bays s)) fun i => bayC (List.getD (SSta.bays s) i bay0))] 27), (1, Blk.row n1 f1 1 9)], 2⟩
theorem b21 : Tryz.f21.body = some (bodyOf Tryz.f21) := by kernel_rfl
theorem ev21 (s : SSta) (nb nl ns nq : Int) (g : Nat) : callC Tryz.prog Orc.nil ann21 g Tryz.f21 (bodyOf Tryz.f21) [aSta s, vI nb, vI nl, vI ns, vI nq] [] =
 (bif decide ((0 : Int) ≤ (↑(0 : Nat) : Int)) && decide ((↑(0 : Nat) : Int) ≤ nb) && decide (nb ≤ (↑(List.length (SSta.buses s)) : Int)) then (bif decide ((0 + (Int.toNat nb
 - Int.toNat (↑(0 : Nat) : Int))) * 16 ≤ 140737488355328) && decide (0 + (Int.toNat nb - Int.toNat (↑(0 : Nat) : Int)) ≤ 9223372036854775807) then
 L21_3 s nb nl ns nq g g (0 + (Int.toNat nb - Int.toNat (↑(0 : Nat) : Int))) (appF 0 (chunk [] (0 + 1)) fun i => busC (List.getD (SSta.buses s)
 (Int.toNat (↑(0 : Nat) : Int) + i) e0)) ((0 : Int)) else none) else none) := by kernel_rfl
theorem st21_3 (s : SSta) (nb nl ns nq : Int) (g m : Nat) (n1 : Nat) (f1 : Nat → List D) (i12 : Int) : L21_3 s nb nl ns nq g (m + 1) n1 f1 i12 =
 (bif decide (i12 < nl) then (bif decide ((0 : Int) ≤ i12) && decide (i12 < (↑(List.length (SSta.lines s)) : Int)) then (bif decide ((n1 + 1) * 16 ≤ (140737488355328
 : Nat)) && decide (n1 + 1 ≤ 9223372036854775807) then L21_3 s nb nl ns nq g m (n1 + 1) (appF n1 f1 (chunk [dS (SLine.name (List.getD (SSta.lines s)
 (Int.toNat i12) line0))] (0 + 1))) (IntKind.wrap .i64 (i12 + (1 : Int))) else none) else none) else L21_7 s nb nl ns nq g g n1 f1 ((0 : Int))) := by kernel_rfl
theorem st21_7 (s : SSta) (nb nl ns nq : Int) (g m : Nat) (n1 : Nat) (f1 : Nat → List D) (i13 : Int) : L21_7 s nb nl ns nq g (m + 1) n1 f1 i13 =
 (bif decide (i13 < ns) then (bif decide ((0 : Int) ≤ i13) && decide (i13 < (↑(List.length (SSta.srcs s)) : Int)) then (bif decide ((n1 + 1) * 16 ≤ (140737488355328 :
 Nat)) && decide (n1 + 1 ≤ 9223372036854775807) then L21_7 s nb nl ns nq g m (n1 + 1) (appF n1 f1 (chunk [dS (SSrc.name (List.getD (SSta.srcs s) (Int.toNat
 i13) src0))] (0 + 1))) (IntKind.wrap .i64 (i13 + (1 : Int))) else none) else none) else L21_11 s nb nl ns nq g g n1 f1 ((0 : Int))) := by kernel_rfl
theorem st21_11 (s : SSta) (nb nl ns nq : Int) (g m : Nat) (n1 : Nat) (f1 : Nat → List D) (i14 : Int) : L21_11 s nb nl ns nq g (m + 1) n1 f1 i14 =
 (bif decide (i14 < nq) then (bif decide ((0 : Int) ≤ i14) && decide (i14 < (↑(List.length (SSta.bays s)) : Int)) then (bif decide ((n1 + 1) * 16 ≤ (140737488355328 :
 Nat)) && decide (n1 + 1 ≤ 9223372036854775807) then L21_11 s nb nl ns nq g m (n1 + 1) (appF n1 f1 (chunk [dS (SBay.name (List.getD (SSta.bays s) (Int.toNat
 i14) bay0))] (0 + 1))) (IntKind.wrap .i64 (i14 + (1 : Int))) else none) else none) else some (T.leaf (AV.c (C.row (0) (1) n1), [(0,
 Blk.row n1 f1 (1) (9))]))) := by kernel_rfl
end Go.Proofs.YtngoglhlhlfknaaGreat.st
namespace Go.Proofs.YtngoglhlhlfknaaGreat.st
open Go.RowKit Go.Eb
theorem b46 : Tryz.f44.body = some (bodyOf Tryz.f44) := by kernel_rfl
def idxF (s : ByteArray) : Nat → List ByteArray → Int
  | _, [] => -1
  | i, x :: r => bif x.toList == s.toList then (i : Int) else idxF s (i + 1) r
theorem strEq' (a b : ByteArray) : (a.toList == b.toList) = (b.data.toList == a.data.toList) := by
  rw [ByteArray.toList_eq, ByteArray.toList_eq, Bool.beq_comm]
theorem idxF_ge (s : ByteArray) : ∀ (l : List ByteArray) (i : Nat), decide (idxF s i l ≥ 0) = inB l s
  | [], i => rfl
  | x :: r, i => by
    have ih := idxF_ge s r (i + 1)
    unfold inB at ih ⊢
    simp only [idxF, List.any_cons, strEq']
    cases (s.data.toList == x.data.toList) with
    | true => simp only [cond_true, Bool.true_or]; exact decide_eq_true (by omega)
    | false => simp only [cond_false, Bool.false_or]; exact ih
theorem lp46 (l : List ByteArray) (s : ByteArray) (g : Nat) (hl : l.length ≤ 9223372036854775807) : ∀ (m k : Nat), k ≤ l.length → l.length - k < m → L46 l s g m k = some (.leaf (vI (idxF s k (l.drop k)), []))
  | 0, k, _, h => by omega
  | m + 1, k, hk, h => by
    rw [st46]
    by_cases hlt : k < l.length
    · have ih := lp46 l s g hl m (k + 1) (by omega) (by omega)
      rw [drop_at' (d := e0) hlt]
      simp only [lt1 hlt, ge0, tn, Bool.and_self, cond_true, nx hlt hl, ih, idxF]
      cases ((l.getD k e0).toList == s.toList) <;> rfl
    · rw [lt0 hlt, List.drop_of_length_le (by omega)]
      rfl
theorem c46 (l : List ByteArray) (s : ByteArray) (hl : l.length ≤ 9223372036854775807) : CX Tryz.prog 44 [.c (.d (busesD l)), vS s] [] (vI (idxF s 0 l)) [] := by
  obtain ⟨g, hg⟩ : ∃ g, l.length < g := ⟨l.length + 1, by omega⟩
  exact cx_of (Orc.nil_ok _) Tryz.func44 b46 rfl ((ev46 l s g).trans (lp46 l s g hl g 0 (by omega) (by omega)))
noncomputable def okDS (x : D) (_ : ByteArray) : Bool := okE busesD x && decide ((theE busesD x).length ≤ 9223372036854775807)
noncomputable def ixDS (x : D) (s : ByteArray) : Int := idxF s 0 (theE busesD x)
theorem s20 : OrcS Tryz.prog (o20 nameOk okDS ixDS) := by
  refine .cons (.p decS_ok c16) (.cons (.d fun a ha => ?_) .nil)
  unfold okDS at ha
  simp only [Bool.and_eq_true, decide_eq_true_eq] at ha
  exact (c46 (theE busesD a.1.1) a.1.2.1 ha.2).ge (.cons (theE_de ha.1) (.cons (.refl _) .nil)) (.refl _)
theorem c20 (l : List ByteArray) (s : ByteArray) (hl : l.length ≤ 9223372036854775807) : CX Tryz.prog 20 [.c (.d (busesD l)), vS s] [] (vI (namErr l s)) [] := by
  refine cx_of s20.ok Tryz.func20 b20 rfl ((ev20 nameOk okDS ixDS l s 1).trans ?_)
  have e1 : okDS (busesD l) s = true := by unfold okDS; rw [(the_list busC_inj l).1, (the_list busC_inj l).2]; simp [hl]
  have e2 : ixDS (busesD l) s = idxF s 0 l := by unfold ixDS; rw [(the_list busC_inj l).2]
  rw [e1, e2, idxF_ge]
  unfold namErr
  cases nameOk s <;> cases inB l s <;> rfl
theorem app_loop {α : Type} {nm : α → ByteArray} {d0 : α} {l : List α} {q : Nat} {L : Nat → Nat → (Nat → List D) → Int → Option (T (AV × Hp))} {E : Nat → (Nat → List D) → Option (T (AV × Hp))} (hq : q ≤ l.length) (hq2 : q ≤ 900)
    (hst : ∀ (m k n : Nat) (f : Nat → List D), k < q → n ≤ 9000 → L (m + 1) n f k = L m (n + 1) (appF n f (chunk (busC (nm (l.getD k d0))) 1)) ((k + 1 : Nat) : Int)) (hend : ∀ m n f, L (m + 1) n f q = E n f) :
    ∀ (m k n : Nat) (f : Nat → List D) (acc : List ByteArray), RL busC e0 n f acc → k ≤ q → q - k < m → acc.length + (q - k) ≤ 9000 → ∃ n' f', RL busC e0 n' f' (acc ++ ((l.take q).drop k).map nm) ∧ L m n f k = E n' f'
  | 0, k, n, f, acc, _, _, h, _ => by omega
  | m + 1, k, n, f, acc, hr, hk, h, hb => by
    by_cases e : k = q
    · subst e
      rw [hend, List.drop_of_length_le (by simp; omega)]
      exact ⟨n, f, by simpa using hr, rfl⟩
    · have hlt : k < q := by omega
      rw [hst m k n f hlt (by have := hr.len; omega)]
      have ht : k < (l.take q).length := by simp; omega
      have hg : (l.take q).getD k d0 = l.getD k d0 := by simp [List.getD, hlt]
      rw [drop_at' (d := d0) ht, hg]
      obtain ⟨n', f', h1, h2⟩ := app_loop hq hq2 hst hend m (k + 1) (n + 1) (appF n f (chunk (busC (nm (l.getD k d0))) 1)) (acc ++ [nm (l.getD k d0)]) (hr.app' rfl) (by omega) (by omega) (by simp; omega)
      exact ⟨n', f', by simpa using h1, h2⟩
def namesOf (s : SSta) (nb nl ns nq : Nat) : List ByteArray := s.buses.take nb ++ (s.lines.take nl).map SLine.name ++ (s.srcs.take ns).map SSrc.name ++ (s.bays.take nq).map SBay.name
theorem apOk {n : Nat} (h : n ≤ 9000) : (decide ((n + 1) * 16 ≤ 140737488355328) && decide (n + 1 ≤ 9223372036854775807)) = true := by
  rw [decide_eq_true (by omega), decide_eq_true (by omega)]; rfl
theorem c21 (s : SSta) (nb nl ns nq : Nat) (h1 : nb ≤ s.buses.length) (h2 : nl ≤ s.lines.length) (h3 : ns ≤ s.srcs.length) (h4 : nq ≤ s.bays.length) (g1 : nb ≤ 900) (g2 : nl ≤ 900) (g3 : ns ≤ 900) (g4 : nq ≤ 900) :
    CX Tryz.prog 21 [aSta s, vI nb, vI nl, vI ns, vI nq] [] (.c (.d (busesD (namesOf s nb nl ns nq)))) [] := by
  obtain ⟨g, hg⟩ : ∃ g, 900 < g := ⟨901, by omega⟩
  have lt1' : ∀ {k n : Nat}, k < n → decide ((k : Int) < (n : Int)) = true := lt1
  have p4 := fun n f acc (hr : RL busC e0 n f acc) (hb : acc.length ≤ 8000) => app_loop (nm := SBay.name) (d0 := bay0) (l := s.bays) (q := nq) (L := fun m n f i => L21_11 s nb nl ns nq g m n f i) (E := fun n f => some (.leaf (.c (.row 0 1 n), [(0, .row n f 1 9)]))) h4 g4
    (fun m k n f hk hn => by
      rw [st21_11]
      simp only [lt1 hk, lt1 (show k < s.bays.length by omega), ge0, tn, Bool.and_self, cond_true, nx hk (by omega), apOk hn]
      rfl)
    (fun m n f => by rw [st21_11, lt0 (Nat.lt_irrefl _)]; rfl) g 0 n f acc hr (by omega) (by omega) (by omega)
  have p3 := fun n f acc (hr : RL busC e0 n f acc) (hb : acc.length ≤ 7000) => app_loop (nm := SSrc.name) (d0 := src0) (l := s.srcs) (q := ns) (L := fun m n f i => L21_7 s nb nl ns nq g m n f i) (E := fun n f => L21_11 s nb nl ns nq g g n f 0) h3 g3
    (fun m k n f hk hn => by
      rw [st21_7]
      simp only [lt1 hk, lt1 (show k < s.srcs.length by omega), ge0, tn, Bool.and_self, cond_true, nx hk (by omega), apOk hn]
      rfl)
    (fun m n f => by rw [st21_7, lt0 (Nat.lt_irrefl _)]; rfl) g 0 n f acc hr (by omega) (by omega) (by omega)
  have p2 := fun n f acc (hr : RL busC e0 n f acc) (hb : acc.length ≤ 6000) => app_loop (nm := SLine.name) (d0 := line0) (l := s.lines) (q := nl) (L := fun m n f i => L21_3 s nb nl ns nq g m n f i) (E := fun n f => L21_7 s nb nl ns nq g g n f 0) h2 g2
    (fun m k n f hk hn => by
      rw [st21_3]
      simp only [lt1 hk, lt1 (show k < s.lines.length by omega), ge0, tn, Bool.and_self, cond_true, nx hk (by omega), apOk hn]
      rfl)
    (fun m n f => by rw [st21_3, lt0 (Nat.lt_irrefl _)]; rfl) g 0 n f acc hr (by omega) (by omega) (by omega)
  have hr0 : RL busC e0 (0 + (Int.toNat (nb : Int) - Int.toNat ((0 : Nat) : Int))) (appF 0 (chunk [] (0 + 1)) fun i => busC (s.buses.getD (Int.toNat ((0 : Nat) : Int) + i) e0)) (s.buses.take nb) := by
    have : RL busC e0 nb (fun i => busC (s.buses.getD (Int.toNat ((0 : Nat) : Int) + i) e0)) (s.buses.take nb) := .eq (by simp; omega) fun i hi => by
      have e : (s.buses.take nb).getD i e0 = s.buses.getD i e0 := by simp [List.getD, hi]
      rw [e]; simp
    have h := (RL.nil (c := busC) (d0 := e0) (chunk [] (0 + 1))).cat this
    simpa using h
  obtain ⟨n2, f2, r2, q2⟩ := p2 _ _ _ hr0 (by simp; omega)
  obtain ⟨n3, f3, r3, q3⟩ := p3 _ _ _ r2 (by simp; omega)
  obtain ⟨n4, f4, r4, q4⟩ := p4 _ _ _ r3 (by simp; omega)
  have hev := ev21 s nb nl ns nq g
  have e1 : (decide ((0 : Int) ≤ ((0 : Nat) : Int)) && decide (((0 : Nat) : Int) ≤ (nb : Int)) && decide ((nb : Int) ≤ (s.buses.length : Int))) = true := by
    rw [decide_eq_true (by omega), decide_eq_true (by omega), decide_eq_true (by omega)]; rfl
  have e2 : (decide ((0 + (Int.toNat (nb : Int) - Int.toNat ((0 : Nat) : Int))) * 16 ≤ 140737488355328) && decide (0 + (Int.toNat (nb : Int) - Int.toNat ((0 : Nat) : Int)) ≤ 9223372036854775807)) = true := by
    rw [decide_eq_true (by omega), decide_eq_true (by omega)]; rfl
  rw [e1, e2] at hev
  simp only [cond_true] at hev
  have hc := cr_of (Orc.nil_ok Tryz.prog) Tryz.func21 b21 rfl (hev.trans (q2.trans (q3.trans q4)))
  have hd := hc.data (y := .c (.d (.sl 1 n4 f4))) rfl
  refine (CX.of_cr Tryz.func21 b21 hd).le ?_ (.refl _)
  have r4' : RL busC e0 n4 f4 (namesOf s nb nl ns nq) := by unfold namesOf; simpa using r4
  exact r4'.de
end Go.Proofs.YtngoglhlhlfknaaGreat.st
namespace Go.Proofs.YtngoglhlhlfknaaGreat.st
open Go.RowKit Go.Eb
theorem bOr (a b : Bool) : (bif a then lB false else lB b) = lB (!a && b) := by cases a <;> rfl
theorem sBe : OrcS Tryz.prog oBe := .cons (.inl .nil Tryz.func45 (by kernel_rfl)) .nil
theorem sOh : OrcS Tryz.prog oOh := .cons (.inl sBe Tryz.func22 (by kernel_rfl)) sBe
theorem c49 (x : SBay) : CX Tryz.prog 47 [aBay x] [] (vB (rngOk x)) [] := by
  refine cx_of sOh.ok Tryz.func47 b49 rfl ((ev49 x 1).trans ?_)
  unfold rngOk impOk within
  cases h3 : (x.kind == 3) with
  | true =>
    cases h1 : (x.kind == 1) with
    | true => simp at h1 h3; omega
    | false =>
      simp only [cond_true, cond_false, fNot, bAnd, bOr, neN, Bool.and_true]
      refine congrArg lB ?_
      rw [Bool.eq_iff_iff]
      simp only [Bool.and_eq_true, decide_eq_true_eq, beq_iff_eq, Bool.not_eq_true', bne_iff_ne, ne_eq, Bool.not_not, Bool.or_eq_true, Bool.and_eq_false_iff, decide_eq_false_iff_not, beq_eq_false_iff_ne, Bool.not_eq_false', Bool.not_and, Bool.not_or]
      omega
  | false =>
    cases h1 : (x.kind == 1) with
    | true =>
      simp only [cond_true, cond_false, fNot, bAnd, bOr, neN, Bool.and_true]
      refine congrArg lB ?_
      rw [Bool.eq_iff_iff]
      simp only [Bool.and_eq_true, decide_eq_true_eq, beq_iff_eq, Bool.not_eq_true', bne_iff_ne, ne_eq, Bool.not_not, Bool.or_eq_true, Bool.and_eq_false_iff, decide_eq_false_iff_not, beq_eq_false_iff_ne, Bool.not_eq_false', Bool.not_and, Bool.not_or]
      omega
    | false =>
      simp only [cond_true, cond_false, fNot, bAnd, bOr, neN, Bool.and_true]
      refine congrArg lB ?_
      rw [Bool.eq_iff_iff]
      simp only [Bool.and_eq_true, decide_eq_true_eq, beq_iff_eq, Bool.not_eq_true', bne_iff_ne, ne_eq, Bool.not_not, Bool.or_eq_true, Bool.and_eq_false_iff, decide_eq_false_iff_not, beq_eq_false_iff_ne, Bool.not_eq_false', Bool.not_and, Bool.not_or]
      omega
theorem bge (b : Int) (n : Nat) : (decide (b < 0) || decide (b ≥ (n : Int))) = !within b 0 ((n : Int) - 1) := by
  unfold within
  rw [Bool.eq_iff_iff]
  simp only [Bool.or_eq_true, decide_eq_true_eq, Bool.not_eq_true', Bool.and_eq_false_iff, decide_eq_false_iff_not]
  omega
theorem lp50 (s : SSta) (x : SBay) (hl : x.links.length ≤ 9223372036854775807) (g : Nat) : ∀ (m k : Nat), k ≤ x.links.length → x.links.length - k < m → L50_5 s x g m k = lI (linkErr s.buses.length x.kind (prevB x.links k) (x.links.drop k)) []
  | 0, k, _, h => by omega
  | m + 1, k, hk, h => by
    rw [st50_5]
    by_cases hlt : k < x.links.length
    · have ih := lp50 s x hl g m (k + 1) (by omega) (by omega)
      rw [drop_at' (d := link0) hlt]
      simp only [lt1 hlt, ge0, tn, Bool.and_self, cond_true, nx hlt (by omega), ih, linkErr, fOr, bge]
      cases k with
      | zero =>
        simp only [prevB, List.getD_cons_zero]
        generalize within (x.links.getD 0 link0).bus 0 ((s.buses.length : Int) - 1) = b1
        generalize ((x.links.getD 0 link0).pos != 1) = b3
        generalize ((x.links.getD 0 link0).pos != 0) = b4
        generalize (x.kind == 3) = b5
        cases b1 <;> cases b3 <;> cases b4 <;> cases b5 <;> rfl
      | succ k =>
        have e1 : IntKind.wrap IntKind.i64 (((k + 1 : Nat) : Int) - 1) = (k : Int) := by rw [wrap_id (by omega) (by omega)]; omega
        have e2 : decide (((k + 1 : Nat) : Int) > 0) = true := by rw [gt0]; simp
        have e3 : decide ((k : Int) < (x.links.length : Int)) = true := lt1 (by omega)
        have e4 : (some (x.links.getD k link0).bus == some (x.links.getD (k + 1) link0).bus) = ((x.links.getD (k + 1) link0).bus == (x.links.getD k link0).bus) := by
          show ((x.links.getD k link0).bus == (x.links.getD (k + 1) link0).bus) = _
          exact Bool.beq_comm
        simp only [prevB, e1, e2, e3, e4, ge0, tn, Bool.and_self, cond_true]
        generalize within (x.links.getD (k + 1) link0).bus 0 ((s.buses.length : Int) - 1) = b1
        generalize ((x.links.getD (k + 1) link0).pos != 1) = b3
        generalize ((x.links.getD (k + 1) link0).pos != 0) = b4
        generalize (x.kind == 3) = b5
        generalize ((x.links.getD (k + 1) link0).bus == (x.links.getD k link0).bus) = b6
        cases b1 <;> cases b3 <;> cases b4 <;> cases b5 <;> cases b6 <;> rfl
    · rw [lt0 hlt, List.drop_of_length_le (by omega)]
      rfl
theorem c50 (s : SSta) (x : SBay) (hl : x.links.length ≤ 9223372036854775807) : CX Tryz.prog 48 [aSta s, aBay x] [] (vI (linksErr s.buses.length x)) [] := by
  obtain ⟨g, hg⟩ : ∃ g, x.links.length < g := ⟨x.links.length + 1, by omega⟩
  refine cx_of (Orc.nil_ok _) Tryz.func48 b50 rfl ((ev50 s x g).trans ?_)
  have e0 : L50_5 s x g g 0 = lI (linkErr s.buses.length x.kind none x.links) [] := lp50 s x hl g g 0 (by omega) (by omega)
  rw [e0, len_lt1, len_gt2, len_ne2]
  unfold linksErr
  generalize decide (x.links.length < 1) = b1
  generalize decide (2 < x.links.length) = b2
  generalize (x.kind == 3) = b3
  generalize (x.links.length != 2) = b4
  cases b1 <;> cases b2 <;> cases b3 <;> cases b4 <;> rfl
end Go.Proofs.YtngoglhlhlfknaaGreat.st
namespace Go.Proofs.YtngoglhlhlfknaaGreat.st
open Go.RowKit Go.Eb
noncomputable def rsta (x : RSta) : SSta := ⟨x.1, theE busesD x.2.1, theE linesD x.2.2.1, theE srcsD x.2.2.2.1, theE baysD x.2.2.2.2.1⟩
noncomputable def okRS (x : RSta) : Bool := okE busesD x.2.1 && (okE linesD x.2.2.1 && (okE srcsD x.2.2.2.1 && okE baysD x.2.2.2.2.1))
def staR (s : SSta) : RSta := (s.name, busesD s.buses, linesD s.lines, srcsD s.srcs, baysD s.bays, ())
theorem okRS_staR (s : SSta) : okRS (staR s) = true := by
  unfold okRS staR
  rw [(the_list busC_inj s.buses).1, (the_list lineC_inj s.lines).1, (the_list srcC_inj s.srcs).1, (the_list bayC_inj s.bays).1]; rfl
theorem rsta_staR (s : SSta) : rsta (staR s) = s := by
  unfold rsta staR
  simp only [(the_list busC_inj s.buses).2, (the_list lineC_inj s.lines).2, (the_list srcC_inj s.srcs).2, (the_list bayC_inj s.bays).2]
theorem sta_le (x : RSta) (h : okRS x = true) : Ale (.agg (staD.enc x)) (aSta (rsta x)) := by
  unfold okRS at h
  simp only [Bool.and_eq_true] at h
  exact .cons (.refl _) (.cons (theE_de h.1) (.cons (theE_de h.2.1) (.cons (theE_de h.2.2.1) (.cons (theE_de h.2.2.2) .nil))))
noncomputable def ok24 (x : RSta) (b : RBay) : Bool := okRS x && okRB b
noncomputable def lk24 (x : RSta) (b : RBay) : Int := linksErr (rsta x).buses.length (rbay b)
theorem s24 : OrcS Tryz.prog (o24 (fun a => rngOk (rbay a)) okRB ok24 lk24) := by
  refine .cons (.inl .nil Tryz.func46 (by kernel_rfl)) (.cons (.d fun a ha => ?_) (.cons (.d fun a ha => ?_) .nil))
  · exact (c49 (rbay a.1.1)).ge (.cons (bay_le _ ha) .nil) (.refl _)
  · unfold ok24 at ha
    simp only [Bool.and_eq_true] at ha
    exact (c50 (rsta a.1.1) (rbay a.1.2.1) (okRB_len ha.2)).ge (.cons (sta_le _ ha.1) (.cons (bay_le _ ha.2) .nil)) (.refl _)
def bayRest (nb nl ns : Nat) (before : List SBay) (b : SBay) : Int := match cntOf nl ns b.kind with
    | none => 10
    | some c => bif !within b.off 0 (c - 1) then 9 else bif !rngOk b then 2 else bif before.any (clash b) then 12 else linksErr nb b
theorem bayErr_rest (nb nl ns : Nat) (N : List ByteArray) (before : List SBay) (b : SBay) : bayErr nb nl ns N before b = bif namErr N b.name != 0 then namErr N b.name else bayRest nb nl ns before b := by
  unfold bayErr bayErrD namErr bayRest
  cases nameOk b.name with
  | false => rfl
  | true => cases inB N b.name <;> rfl
section
variable (s : SSta) (i : Nat) (hi : i < s.bays.length)
abbrev bI (s : SSta) (i : Nat) : SBay := s.bays.getD i bay0
include hi
theorem lp24 (hb : s.bays.length ≤ 9223372036854775807) (hl : (bI s i).links.length ≤ 9223372036854775807) (g : Nat) : ∀ (m k : Nat), k ≤ i → i - k < m →
    L24_8 (fun a => rngOk (rbay a)) okRB ok24 lk24 s i g m k = bif ((s.bays.take i).drop k).any (clash (bI s i)) then lI 12 [] else lI (linksErr s.buses.length (bI s i)) []
  | 0, k, _, h => by omega
  | m + 1, k, hk, h => by
    rw [st24_8]
    have hok : ok24 (staR s) (bayR (bI s i)) = true := by
      unfold ok24
      have e1 : okRB (bayR (bI s i)) = true := okLk_links hl
      rw [okRS_staR, e1]; rfl
    have hlk : lk24 (staR s) (bayR (bI s i)) = linksErr s.buses.length (bI s i) := by unfold lk24; rw [rsta_staR, rbay_bayR]
    have haft : ∀ A B : RSta, ∀ C' D' : RBay, A = staR s → B = staR s → C' = bayR (bI s i) → D' = bayR (bI s i) → (bif ok24 A C' then some (T.leaf (vI (lk24 B D'), ([] : Hp))) else none) = lI (linksErr s.buses.length (bI s i)) [] := by
      intro A B C' D' hA hB hC hD
      subst hA hB hC hD
      rw [hok, hlk]; rfl
    by_cases hlt : k < i
    · have ih := lp24 hb hl g m (k + 1) (by omega) (by omega)
      have ht : k < (s.bays.take i).length := by simp; omega
      have hg : (s.bays.take i).getD k bay0 = s.bays.getD k bay0 := by simp [List.getD, hlt]
      rw [drop_at' (d := bay0) ht, hg]
      simp only [lt1 hlt, lt1 (show k < s.bays.length by omega), ge0, tn, Bool.and_self, cond_true, nx hlt (by omega), ih, List.any_cons]
      cases h3 : ((s.bays.getD i bay0).kind != 3) with
      | false =>
        have hn : ∀ l : List SBay, l.any (clash (bI s i)) = false := fun l => by
          rw [List.any_eq_false]
          intro y _
          unfold clash
          rw [h3]; simp
        have hc : clash (bI s i) (s.bays.getD k bay0) = false := by unfold clash; rw [h3]; rfl
        rw [hn, hc]
        simp only [cond_false, Bool.or_self]
        exact haft _ _ _ _ rfl rfl rfl rfl
      | true =>
        have hc : clash (bI s i) (s.bays.getD k bay0) = ((s.bays.getD k bay0).kind == (bI s i).kind && ((s.bays.getD k bay0).off == (bI s i).off && (s.bays.getD k bay0).fin == (bI s i).fin)) := by
          unfold clash
          rw [h3]
          simp only [Bool.true_and]
          rw [Bool.beq_comm (a := (bI s i).kind), Bool.beq_comm (a := (bI s i).off), Bool.beq_comm (a := (bI s i).fin)]
        rw [hc]
        simp only [cond_true]
        generalize ((s.bays.getD k bay0).kind == (s.bays.getD i bay0).kind) = b1
        generalize ((s.bays.getD k bay0).off == (s.bays.getD i bay0).off) = b2
        generalize ((s.bays.getD k bay0).fin == (s.bays.getD i bay0).fin) = b3
        cases b1 <;> cases b2 <;> cases b3 <;> rfl
    · obtain rfl : k = i := by omega
      rw [lt0 (Nat.lt_irrefl _), List.drop_of_length_le (by simp; omega)]
      simp only [cond_false, List.any_nil]
      exact haft _ _ _ _ rfl rfl rfl rfl
omit hi in
theorem wge (b : Int) (n : Nat) : (decide (b < 0) || decide (b ≥ (n : Int))) = !within b 0 ((n : Int) - 1) := bge b n
omit hi in
theorem w00 (b : Int) : (b != 0) = !within b 0 ((1 : Int) - 1) := by
  unfold within
  rw [Bool.eq_iff_iff]
  simp only [bne_iff_ne, ne_eq, Bool.not_eq_true', Bool.and_eq_false_iff, decide_eq_false_iff_not]
  omega
theorem c24 (hb : s.bays.length ≤ 9223372036854775807) (hl : (bI s i).links.length ≤ 9223372036854775807) : CX Tryz.prog 24 [aSta s, vI i] [] (vI (bayRest s.buses.length s.lines.length s.srcs.length (s.bays.take i) (bI s i))) [] := by
  obtain ⟨g, hg⟩ : ∃ g, i < g := ⟨i + 1, by omega⟩
  refine cx_of s24.ok Tryz.func24 b24 rfl ((ev24 (fun a => rngOk (rbay a)) okRB ok24 lk24 s i g).trans ?_)
  have hL : L24_8 (fun a => rngOk (rbay a)) okRB ok24 lk24 s i g g 0 = bif (s.bays.take i).any (clash (bI s i)) then lI 12 [] else lI (linksErr s.buses.length (bI s i)) [] := lp24 s i hi hb hl g g 0 (by omega) (by omega)
  have e1 : okRB (bayR (s.bays.getD i bay0)) = true := okLk_links hl
  have e2 : rngOk (rbay (bayR (s.bays.getD i bay0))) = rngOk (s.bays.getD i bay0) := by rw [rbay_bayR]
  unfold bayR at e1 e2
  rw [hL]
  simp only [lt1 hi, ge0, tn, Bool.and_self, cond_true, e1, e2, fOr, wge, w00]
  unfold bayRest cntOf
  cases ((s.bays.getD i bay0).kind == 1) with
  | true =>
    simp only [cond_true]
    cases within (s.bays.getD i bay0).off 0 ((s.lines.length : Int) - 1) <;> first | rfl | (cases rngOk (s.bays.getD i bay0) <;> first | rfl | (cases (s.bays.take i).any (clash (s.bays.getD i bay0)) <;> rfl))
  | false =>
    cases ((s.bays.getD i bay0).kind == 2) with
    | true =>
      simp only [cond_true, cond_false]
      cases within (s.bays.getD i bay0).off 0 ((s.srcs.length : Int) - 1) <;> first | rfl | (cases rngOk (s.bays.getD i bay0) <;> first | rfl | (cases (s.bays.take i).any (clash (s.bays.getD i bay0)) <;> rfl))
    | false =>
      cases ((s.bays.getD i bay0).kind == 3) with
      | true =>
        simp only [cond_true, cond_false]
        cases within (s.bays.getD i bay0).off 0 ((1 : Int) - 1) <;> first | rfl | (cases rngOk (s.bays.getD i bay0) <;> first | rfl | (cases (s.bays.take i).any (clash (s.bays.getD i bay0)) <;> rfl))
      | false => rfl
end
end Go.Proofs.YtngoglhlhlfknaaGreat.st
namespace Go.Proofs.YtngoglhlhlfknaaGreat.st
open Go.RowKit Go.Eb
noncomputable def Z8 : K8 where
  nk := nameOk
  okn a := okRS a.1 && (decide (0 ≤ a.2.1) && (decide (0 ≤ a.2.2.1) && (decide (0 ≤ a.2.2.2.1) && (decide (0 ≤ a.2.2.2.2.1) && (decide (a.2.1.toNat ≤ (rsta a.1).buses.length) && (decide (a.2.2.1.toNat ≤ (rsta a.1).lines.length) && (decide (a.2.2.2.1.toNat ≤ (rsta a.1).srcs.length) && (decide (a.2.2.2.2.1.toNat ≤ (rsta a.1).bays.length) &&
    (decide (a.2.1.toNat ≤ 900) && (decide (a.2.2.1.toNat ≤ 900) && (decide (a.2.2.2.1.toNat ≤ 900) && decide (a.2.2.2.2.1.toNat ≤ 900))))))))))))
  nm a := busesD (namesOf (rsta a.1) a.2.1.toNat a.2.2.1.toNat a.2.2.2.1.toNat a.2.2.2.2.1.toNat)
  okd x s := okDS x s
  nd x s := namErr (theE busesD x) s
  okb a n := okRS a && (decide (0 ≤ n) && (decide (n.toNat < (rsta a).bays.length) && (decide ((rsta a).bays.length ≤ 900) && lksOk (rsta a).bays)))
  be a n := bayRest (rsta a).buses.length (rsta a).lines.length (rsta a).srcs.length ((rsta a).bays.take n.toNat) ((rsta a).bays.getD n.toNat bay0)
theorem s8 : OrcS Tryz.prog (o8 Z8) := by
  refine .cons (.p decS_ok c16) (.cons (.d fun a ha => ?_) (.cons (.d fun a ha => ?_) (.cons (.inl sOh Tryz.func23 (by kernel_rfl)) (.cons (.d fun a ha => ?_) sOh))))
  · have ha' : (okRS a.1.1 && (decide (0 ≤ a.1.2.1) && (decide (0 ≤ a.1.2.2.1) && (decide (0 ≤ a.1.2.2.2.1) && (decide (0 ≤ a.1.2.2.2.2.1) && (decide (a.1.2.1.toNat ≤ (rsta a.1.1).buses.length) && (decide (a.1.2.2.1.toNat ≤ (rsta a.1.1).lines.length) && (decide (a.1.2.2.2.1.toNat ≤ (rsta a.1.1).srcs.length) && (decide (a.1.2.2.2.2.1.toNat ≤ (rsta a.1.1).bays.length) &&
      (decide (a.1.2.1.toNat ≤ 900) && (decide (a.1.2.2.1.toNat ≤ 900) && (decide (a.1.2.2.2.1.toNat ≤ 900) && decide (a.1.2.2.2.2.1.toNat ≤ 900))))))))))))) = true := ha
    simp only [Bool.and_eq_true, decide_eq_true_eq] at ha'
    obtain ⟨h0, p1, p2, p3, p4, q1, q2, q3, q4, r1, r2, r3, r4⟩ := ha'
    have hc := c21 (rsta a.1.1) a.1.2.1.toNat a.1.2.2.1.toNat a.1.2.2.2.1.toNat a.1.2.2.2.2.1.toNat q1 q2 q3 q4 r1 r2 r3 r4
    rw [Int.toNat_of_nonneg p1, Int.toNat_of_nonneg p2, Int.toNat_of_nonneg p3, Int.toNat_of_nonneg p4] at hc
    exact hc.ge (.cons (sta_le _ h0) (.refl _)) (.refl _)
  · have ha' : okDS a.1.1 a.1.2.1 = true := ha
    unfold okDS at ha'
    simp only [Bool.and_eq_true, decide_eq_true_eq] at ha'
    exact (c20 (theE busesD a.1.1) a.1.2.1 ha'.2).ge (.cons (theE_de ha'.1) (.refl _)) (.refl _)
  · have ha' : (okRS a.1.1 && (decide (0 ≤ a.1.2.1) && (decide (a.1.2.1.toNat < (rsta a.1.1).bays.length) && (decide ((rsta a.1.1).bays.length ≤ 900) && lksOk (rsta a.1.1).bays)))) = true := ha
    simp only [Bool.and_eq_true, decide_eq_true_eq] at ha'
    obtain ⟨h0, p1, p2, p3, p4⟩ := ha'
    have hc := c24 (rsta a.1.1) a.1.2.1.toNat p2 (by omega) (lksOk_get p4 _ p2)
    rw [Int.toNat_of_nonneg p1] at hc
    exact hc.ge (.cons (sta_le _ h0) (.refl _)) (.refl _)
theorem chk_loop {α : Type} {nm : α → ByteArray} {F : List ByteArray → List α → α → Int} {N : List ByteArray} {d0 : α} {l : List α} {L : Nat → Int → Option (T (AV × Hp))} {NX : Option (T (AV × Hp))}
    (hst : ∀ (m k : Nat), k < l.length → L (m + 1) k = bif F (N ++ (l.take k).map nm) (l.take k) (l.getD k d0) != 0 then lI (F (N ++ (l.take k).map nm) (l.take k) (l.getD k d0)) [] else L m ((k + 1 : Nat) : Int))
    (hend : ∀ m, L (m + 1) l.length = NX) : ∀ (m k : Nat), k ≤ l.length → l.length - k < m → L m k = bif (takeN nm F N (l.take k) (l.drop k)).1 != 0 then lI (takeN nm F N (l.take k) (l.drop k)).1 [] else NX
  | 0, k, _, h => by omega
  | m + 1, k, hk, h => by
    by_cases e : k = l.length
    · subst e
      rw [hend, List.drop_of_length_le (Nat.le_refl _)]
      rfl
    · have hlt : k < l.length := by omega
      have ih := chk_loop hst hend m (k + 1) (by omega) (by omega)
      have et : l.take (k + 1) = l.take k ++ [l.getD k d0] := by
        rw [List.take_succ_eq_append_getElem hlt]
        congr 2
        simp [List.getD, hlt]
      rw [hst m k hlt, ih, et, drop_at' (d := d0) hlt]
      simp only [takeN]
      cases hF : (F (N ++ (l.take k).map nm) (l.take k) (l.getD k d0) != 0) with
      | true => simp only [cond_true, hF]
      | false => simp only [cond_false]
section
variable (s : SSta) (h1 : s.buses.length ≤ 900) (h2 : s.lines.length ≤ 900) (h3 : s.srcs.length ≤ 900) (h4 : s.bays.length ≤ 900) (hlk : lksOk s.bays = true)
include h1 h2 h3 h4
theorem okn8 (a b c d : Nat) (q1 : a ≤ s.buses.length) (q2 : b ≤ s.lines.length) (q3 : c ≤ s.srcs.length) (q4 : d ≤ s.bays.length) : Z8.okn (staR s, (a : Int), (b : Int), (c : Int), (d : Int), ()) = true := by
  show (okRS (staR s) && (decide (0 ≤ (a : Int)) && (decide (0 ≤ (b : Int)) && (decide (0 ≤ (c : Int)) && (decide (0 ≤ (d : Int)) && (decide ((a : Int).toNat ≤ (rsta (staR s)).buses.length) && (decide ((b : Int).toNat ≤ (rsta (staR s)).lines.length) && (decide ((c : Int).toNat ≤ (rsta (staR s)).srcs.length) && (decide ((d : Int).toNat ≤ (rsta (staR s)).bays.length) &&
    (decide ((a : Int).toNat ≤ 900) && (decide ((b : Int).toNat ≤ 900) && (decide ((c : Int).toNat ≤ 900) && decide ((d : Int).toNat ≤ 900))))))))))))) = true
  rw [okRS_staR, rsta_staR, Bool.true_and]
  simp only [Bool.and_eq_true, decide_eq_true_eq, Int.toNat_natCast]
  omega
omit h1 h2 h3 h4 in
theorem nm8 (a b c d : Nat) : Z8.nm (staR s, (a : Int), (b : Int), (c : Int), (d : Int), ()) = busesD (namesOf s a b c d) := by
  show busesD (namesOf (rsta (staR s)) _ _ _ _) = _
  rw [rsta_staR]; rfl
theorem okd8 (a b c d : Nat) (q1 : a ≤ s.buses.length) (q2 : b ≤ s.lines.length) (q3 : c ≤ s.srcs.length) (q4 : d ≤ s.bays.length) (x : ByteArray) : Z8.okd (busesD (namesOf s a b c d)) x = true := by
  show okDS _ x = true
  unfold okDS
  rw [(the_list busC_inj _).1, (the_list busC_inj _).2]
  have : (namesOf s a b c d).length ≤ 9223372036854775807 := by unfold namesOf; simp; omega
  simp [this]
omit h1 h2 h3 h4 in
theorem nd8 (l : List ByteArray) (x : ByteArray) : Z8.nd (busesD l) x = namErr l x := by
  show namErr (theE busesD (busesD l)) x = _
  rw [(the_list busC_inj l).2]
include hlk
omit h1 h2 h3 in
theorem okb8 (k : Nat) (hk : k < s.bays.length) : Z8.okb (staR s) (k : Int) = true := by
  show (okRS (staR s) && (decide (0 ≤ (k : Int)) && (decide ((k : Int).toNat < (rsta (staR s)).bays.length) && (decide ((rsta (staR s)).bays.length ≤ 900) && lksOk (rsta (staR s)).bays)))) = true
  rw [okRS_staR, rsta_staR, hlk, Bool.true_and, Bool.and_true]
  simp only [Bool.and_eq_true, decide_eq_true_eq, Int.toNat_natCast]
  omega
omit h1 h2 h3 h4 hlk in
theorem be8 (k : Nat) : Z8.be (staR s) (k : Int) = bayRest s.buses.length s.lines.length s.srcs.length (s.bays.take k) (s.bays.getD k bay0) := by
  show bayRest (rsta (staR s)).buses.length _ _ _ _ = _
  rw [rsta_staR]; rfl
abbrev Nb (s : SSta) : List ByteArray := s.buses
abbrev Nl (s : SSta) : List ByteArray := s.buses ++ s.lines.map SLine.name
abbrev Ns (s : SSta) : List ByteArray := s.buses ++ s.lines.map SLine.name ++ s.srcs.map SSrc.name
theorem lp8_29 (g : Nat) (hg : 900 < g) : L8_29 Z8 s g g 0 = lI (tBay s.buses.length s.lines.length s.srcs.length (Ns s) s.bays).1 [] := by
  have := chk_loop (nm := SBay.name) (F := fun N before x => bayErr s.buses.length s.lines.length s.srcs.length N before x) (N := Ns s) (d0 := bay0) (l := s.bays) (L := fun m i => L8_29 Z8 s g m i) (NX := lI 0 [])
    (fun m k hk => by
      have e1 := okn8 s h1 h2 h3 h4 s.buses.length s.lines.length s.srcs.length k (by omega) (by omega) (by omega) (by omega)
      have e2 := nm8 s s.buses.length s.lines.length s.srcs.length k
      have e3 := okd8 s h1 h2 h3 h4 s.buses.length s.lines.length s.srcs.length k (by omega) (by omega) (by omega) (by omega) (s.bays.getD k bay0).name
      have e5 := okb8 s h4 hlk k hk
      have e6 := be8 s k
      have en : namesOf s s.buses.length s.lines.length s.srcs.length k = Ns s ++ (s.bays.take k).map SBay.name := by unfold namesOf; simp
      simp only [staR, busesD, linesD, srcsD, baysD, listD] at e1 e2 e5 e6
      simp only [busesD, listD] at e3
      rw [st8_29]
      simp only [lt1 hk, ge0, tn, Bool.and_self, cond_true, nx hk (by omega), e1, e2, e3, e5, e6]
      have e4 := nd8 (namesOf s s.buses.length s.lines.length s.srcs.length k) (s.bays.getD k bay0).name
      simp only [busesD, listD] at e4
      simp only [e4]
      simp only [en, bayErr_rest]
      generalize namErr (Ns s ++ (s.bays.take k).map SBay.name) (s.bays.getD k bay0).name = a
      generalize bayRest s.buses.length s.lines.length s.srcs.length (s.bays.take k) (s.bays.getD k bay0) = b
      unfold bne
      cases ha : (a == 0) <;> cases hb : (b == 0) <;> simp only [ha, hb, cond_true, cond_false, Bool.not_true, Bool.not_false])
    (fun m => by rw [st8_29, lt0 (Nat.lt_irrefl _)]; rfl) g 0 (by omega) (by omega)
  have e : L8_29 Z8 s g g 0 = _ := this
  rw [e]
  show (bif (tBay s.buses.length s.lines.length s.srcs.length (Ns s) s.bays).1 != 0 then lI (tBay s.buses.length s.lines.length s.srcs.length (Ns s) s.bays).1 [] else lI 0 []) = _
  unfold bne
  cases hz : ((tBay s.buses.length s.lines.length s.srcs.length (Ns s) s.bays).1 == 0) with
  | false => rfl
  | true =>
    have : (tBay s.buses.length s.lines.length s.srcs.length (Ns s) s.bays).1 = 0 := by simpa using hz
    rw [this]; rfl
end
end Go.Proofs.YtngoglhlhlfknaaGreat.st
namespace Go.Proofs.YtngoglhlhlfknaaGreat.st
open Go.RowKit Go.Eb
section
variable (s : SSta) (h1 : s.buses.length ≤ 900) (h2 : s.lines.length ≤ 900) (h3 : s.srcs.length ≤ 900) (h4 : s.bays.length ≤ 900) (hlk : lksOk s.bays = true)
include h1 h2 h3 h4
theorem lp8_21 (g : Nat) (hg : 900 < g) : L8_21 Z8 s g g 0 = bif (tSrc (Nl s) s.srcs).1 != 0 then lI (tSrc (Nl s) s.srcs).1 [] else L8_29 Z8 s g g 0 := by
  have hh := chk_loop (nm := SSrc.name) (F := fun N _ x => srcErr N x) (N := Nl s) (d0 := src0) (l := s.srcs) (L := fun m i => L8_21 Z8 s g m i) (NX := L8_29 Z8 s g g 0)
    (fun m k hk => by
      have e1 := okn8 s h1 h2 h3 h4 s.buses.length s.lines.length k 0 (by omega) (by omega) (by omega) (by omega)
      have e2 := nm8 s s.buses.length s.lines.length k 0
      have e3 := okd8 s h1 h2 h3 h4 s.buses.length s.lines.length k 0 (by omega) (by omega) (by omega) (by omega) (s.srcs.getD k src0).name
      have en : namesOf s s.buses.length s.lines.length k 0 = Nl s ++ (s.srcs.take k).map SSrc.name := by unfold namesOf; simp
      simp only [staR, busesD, linesD, srcsD, baysD, listD, Int.natCast_zero] at e1 e2
      simp only [busesD, listD] at e3
      rw [st8_21]
      simp only [lt1 hk, ge0, tn, Bool.and_self, cond_true, nx hk (by omega), e1, e2, e3]
      have e4 := nd8 (namesOf s s.buses.length s.lines.length k 0) (s.srcs.getD k src0).name
      simp only [busesD, listD] at e4
      simp only [e4]
      simp only [en, srcErr, impOk, within, fNot, fAnd]
      generalize namErr (Nl s ++ (s.srcs.take k).map SSrc.name) (s.srcs.getD k src0).name = a
      generalize decide ((s.srcs.getD k src0).emf ≥ 1) = a1
      generalize decide ((s.srcs.getD k src0).emf ≤ 1000000) = a2
      generalize decide ((s.srcs.getD k src0).r1 ≥ 0) = b1
      generalize decide ((s.srcs.getD k src0).r1 ≤ 1000) = b2
      generalize decide ((s.srcs.getD k src0).x1 ≥ 1) = b3
      generalize decide ((s.srcs.getD k src0).x1 ≤ 1000) = b4
      generalize decide ((s.srcs.getD k src0).r0 ≥ 0) = b5
      generalize decide ((s.srcs.getD k src0).r0 ≤ 1000) = b6
      generalize decide ((s.srcs.getD k src0).x0 ≥ 1) = b7
      generalize decide ((s.srcs.getD k src0).x0 ≤ 1000) = b8
      unfold bne
      cases ha : (a == 0) with
      | false => simp only [ha, cond_true, cond_false, Bool.not_true, Bool.not_false]
      | true =>
        simp only [ha, cond_true, cond_false, Bool.not_true, Bool.not_false]
        cases a1 <;> cases a2 <;> first | rfl | (cases b1 <;> cases b2 <;> cases b3 <;> cases b4 <;> first | rfl | (cases b5 <;> cases b6 <;> cases b7 <;> cases b8 <;> rfl)))
    (fun m => by rw [st8_21, lt0 (Nat.lt_irrefl _)]; rfl) g 0 (by omega) (by omega)
  simp only [List.take_zero, List.drop_zero] at hh
  exact hh
theorem lp8_13 (g : Nat) (hg : 900 < g) : L8_13 Z8 s g g 0 = bif (tLine (Nb s) s.lines).1 != 0 then lI (tLine (Nb s) s.lines).1 [] else L8_21 Z8 s g g 0 := by
  have hh := chk_loop (nm := SLine.name) (F := fun N _ x => lineErr N x) (N := Nb s) (d0 := line0) (l := s.lines) (L := fun m i => L8_13 Z8 s g m i) (NX := L8_21 Z8 s g g 0)
    (fun m k hk => by
      have e1 := okn8 s h1 h2 h3 h4 s.buses.length k 0 0 (by omega) (by omega) (by omega) (by omega)
      have e2 := nm8 s s.buses.length k 0 0
      have e3 := okd8 s h1 h2 h3 h4 s.buses.length k 0 0 (by omega) (by omega) (by omega) (by omega) (s.lines.getD k line0).name
      have en : namesOf s s.buses.length k 0 0 = Nb s ++ (s.lines.take k).map SLine.name := by unfold namesOf; simp
      simp only [staR, busesD, linesD, srcsD, baysD, listD, Int.natCast_zero] at e1 e2
      simp only [busesD, listD] at e3
      rw [st8_13]
      simp only [lt1 hk, ge0, tn, Bool.and_self, cond_true, nx hk (by omega), e1, e2, e3]
      have e4 := nd8 (namesOf s s.buses.length k 0 0) (s.lines.getD k line0).name
      simp only [busesD, listD] at e4
      simp only [e4]
      simp only [en, lineErr, impOk, within, fNot, fAnd]
      generalize namErr (Nb s ++ (s.lines.take k).map SLine.name) (s.lines.getD k line0).name = a
      generalize decide ((s.lines.getD k line0).r1 ≥ 0) = b1
      generalize decide ((s.lines.getD k line0).r1 ≤ 1000) = b2
      generalize decide ((s.lines.getD k line0).x1 ≥ 1) = b3
      generalize decide ((s.lines.getD k line0).x1 ≤ 1000) = b4
      generalize decide ((s.lines.getD k line0).r0 ≥ 0) = b5
      generalize decide ((s.lines.getD k line0).r0 ≤ 1000) = b6
      generalize decide ((s.lines.getD k line0).x0 ≥ 1) = b7
      generalize decide ((s.lines.getD k line0).x0 ≤ 1000) = b8
      unfold bne
      cases ha : (a == 0) with
      | false => simp only [ha, cond_true, cond_false, Bool.not_true, Bool.not_false]
      | true =>
        simp only [ha, cond_true, cond_false, Bool.not_true, Bool.not_false]
        cases b1 <;> cases b2 <;> cases b3 <;> cases b4 <;> first | rfl | (cases b5 <;> cases b6 <;> cases b7 <;> cases b8 <;> rfl))
    (fun m => by rw [st8_13, lt0 (Nat.lt_irrefl _)]; rfl) g 0 (by omega) (by omega)
  simp only [List.take_zero, List.drop_zero] at hh
  exact hh
theorem st7' (g m k : Nat) (hk : k < s.buses.length) : L8_7 Z8 s g (m + 1) k = bif namErr (s.buses.take k) (s.buses.getD k e0) != 0 then lI (namErr (s.buses.take k) (s.buses.getD k e0)) [] else L8_7 Z8 s g m ((k + 1 : Nat) : Int) := by
  have e1 := okn8 s h1 h2 h3 h4 k 0 0 0 (by omega) (by omega) (by omega) (by omega)
  have e2 := nm8 s k 0 0 0
  have e3 := okd8 s h1 h2 h3 h4 k 0 0 0 (by omega) (by omega) (by omega) (by omega) (s.buses.getD k e0)
  have en : namesOf s k 0 0 0 = s.buses.take k := by unfold namesOf; simp
  simp only [staR, busesD, linesD, srcsD, baysD, listD, Int.natCast_zero] at e1 e2
  simp only [busesD, listD] at e3
  rw [st8_7]
  simp only [lt1 hk, ge0, tn, Bool.and_self, cond_true, e1, e2]
  rw [nx hk (by omega), e3]
  have e4 := nd8 (namesOf s k 0 0 0) (s.buses.getD k e0)
  simp only [busesD, listD] at e4
  simp only [e4, cond_true]
  simp only [en]
theorem lp8_7 (g : Nat) (hg : 900 < g) : L8_7 Z8 s g g 0 = bif (tBus s.buses).1 != 0 then lI (tBus s.buses).1 [] else L8_13 Z8 s g g 0 := by
  have hh := chk_loop (nm := id) (F := fun N _ x => namErr N x) (N := []) (d0 := e0) (l := s.buses) (L := fun m i => L8_7 Z8 s g m i) (NX := L8_13 Z8 s g g 0)
    (fun m k hk => by
      have := st7' s h1 h2 h3 h4 g m k hk
      simp only [List.nil_append, List.map_id]
      exact this)
    (fun m => by rw [st8_7, lt0 (Nat.lt_irrefl _)]; simp only [cond_false]) g 0 (by omega) (by omega)
  simp only [List.take_zero, List.drop_zero] at hh
  exact hh
end
theorem c8 (s : SSta) (hlk : lksOk s.bays = true) : CX Tryz.prog 9 [aSta s] [] (vI (chkSta s)) [] := by
  obtain ⟨g, hg⟩ : ∃ g, 900 < g := ⟨901, by omega⟩
  refine cx_of s8.ok Tryz.func9 b8 rfl ((ev8 Z8 s g).trans ?_)
  have t4 : ∀ n : Nat, decide ((n : Int) > 4) = decide (4 < n) := fun n => len_gt n 4
  have t6 : ∀ n : Nat, decide ((n : Int) > 6) = decide (6 < n) := fun n => len_gt n 6
  have t16 : ∀ n : Nat, decide ((n : Int) > 16) = decide (16 < n) := fun n => len_gt n 16
  have t1 : ∀ n : Nat, decide ((n : Int) < 1) = (n == 0) := fun n => by
    rw [Bool.eq_iff_iff, decide_eq_true_eq, beq_iff_eq]; omega
  simp only [t1, t4, t6, t16, fOr]
  unfold chkSta
  show (bif !nameOk s.name then _ else _) = _
  cases nameOk s.name with
  | false => rfl
  | true =>
    simp only [Bool.not_true, cond_false]
    have hcb : (s.buses.length == 0 || (decide (4 < s.buses.length) || (decide (6 < s.lines.length) || (decide (4 < s.srcs.length) || decide (16 < s.bays.length))))) = cntBad s := rfl
    rw [hcb]
    cases hc : cntBad s with
    | true => rfl
    | false =>
      simp only [cond_false]
      unfold cntBad at hc
      simp only [Bool.or_eq_false_iff, decide_eq_false_iff_not] at hc
      obtain ⟨_, h4, h6, h4', h16⟩ := hc
      rw [lp8_7 s (by omega) (by omega) (by omega) (by omega) g hg, lp8_13 s (by omega) (by omega) (by omega) (by omega) g hg, lp8_21 s (by omega) (by omega) (by omega) (by omega) g hg, lp8_29 s (by omega) (by omega) (by omega) (by omega) hlk g hg]
      cases ((tBus s.buses).1 != 0) with
      | true => rfl
      | false =>
        cases ((tLine s.buses s.lines).1 != 0) with
        | true => rfl
        | false =>
          cases ((tSrc (s.buses ++ s.lines.map SLine.name) s.srcs).1 != 0) <;> rfl
end Go.Proofs.YtngoglhlhlfknaaGreat.st
namespace Go.Proofs.YtngoglhlhlfknaaGreat.kn
open Go.RowKit Go.Eb
theorem ev7k : callQ Tryz.prog (deepQ Tryz.prog (fun _ => na) Orc.nil 120 30) na 120 Tryz.f7 (bodyOf Tryz.f7) [] [] (fun x H' => some (.leaf (x, H'))) = some (.leaf (vB true, [])) := by kernel_rfl
theorem b7k : Tryz.f7.body = some (bodyOf Tryz.f7) := by kernel_rfl
theorem c7k (_ : Unit) : CX Tryz.prog 7 [] [] (vB true) [] := cxQ_of (deepQ_ok Tryz.prog _ (Orc.nil_ok _) 120 30) Tryz.func7 b7k rfl ev7k
end Go.Proofs.YtngoglhlhlfknaaGreat.kn
