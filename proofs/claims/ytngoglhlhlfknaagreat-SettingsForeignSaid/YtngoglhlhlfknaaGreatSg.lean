/-
  Check of the program: the whole: what it computes. No condition.
-/
import Derived.Test.YtngoglhlhlfknaaGreatSf
namespace Go.Proofs.YtngoglhlhlfknaaGreat.st
open Go.RowKit Go.Eb
set_option maxRecDepth 100000

abbrev AL := D × Unit × Unit
abbrev RW1 := Nat × (Nat → List D)
abbrev A26 := AL × (ByteArray × Unit × Unit × Unit × Unit × Unit × Unit) × List (Value × Value) × Unit
def d26 : Dec (List AV × Hp) A26 := .pair (.cons (.c .data) (.cons (.c (.meth 53)) .nil)) (.cons (.blk 0 (.cells 157 (.cons .str (.cons .nilS (.cons .nilS (.cons .nilS (.cons .nilS (.cons (.mp 1) .nil)))))))) (.cons (.blk 1 (.mapB 0)) .nil))
abbrev A28 := AL × (ByteArray × Nat × Unit × Unit × Unit × Unit × Unit) × RW1 × List (Value × Value) × Unit
def d28 : Dec (List AV × Hp) A28 := .pair (.cons (.c .data) (.cons (.c (.meth 55)) .nil)) (.cons (.blk 0 (.cells 157 (.cons .str (.cons (.row 1 1) (.cons .nilS (.cons .nilS (.cons .nilS (.cons (.mp 2) .nil)))))))) (.cons (.blk 1 (.rowB 1 9)) (.cons (.blk 2 (.mapB 0)) .nil)))
abbrev A30 := AL × (ByteArray × Nat × Nat × Unit × Unit × Unit × Unit) × RW1 × RW1 × List (Value × Value) × Unit
def d30 : Dec (List AV × Hp) A30 := .pair (.cons (.c .data) (.cons (.c (.meth 57)) .nil)) (.cons (.blk 0 (.cells 157 (.cons .str (.cons (.row 1 1) (.cons (.row 2 5) (.cons .nilS (.cons .nilS (.cons (.mp 3) .nil)))))))) (.cons (.blk 1 (.rowB 1 9)) (.cons (.blk 2 (.rowB 5 71)) (.cons (.blk 3 (.mapB 0)) .nil))))
abbrev A32 := AL × (ByteArray × Nat × Nat × Nat × Unit × Unit × Unit) × RW1 × RW1 × RW1 × List (Value × Value) × Unit
def d32 : Dec (List AV × Hp) A32 := .pair (.cons (.c .data) (.cons (.c (.meth 59)) .nil)) (.cons (.blk 0 (.cells 157 (.cons .str (.cons (.row 1 1) (.cons (.row 2 5) (.cons (.row 3 6) (.cons .nilS (.cons (.mp 4) .nil)))))))) (.cons (.blk 1 (.rowB 1 9)) (.cons (.blk 2 (.rowB 5 71)) (.cons (.blk 3 (.rowB 6 74)) (.cons (.blk 4 (.mapB 0)) .nil)))))
structure K12 where
  nk : ByteArray → Bool
  ok1 : A26 → Bool
  e1 : A26 → Int
  m1 : A26 → List (Value × Value)
  n1 : A26 → Nat
  f1 : A26 → Nat → List D
  ok2 : A28 → Bool
  e2 : A28 → Int
  m2 : A28 → List (Value × Value)
  n2 : A28 → Nat
  f2 : A28 → Nat → List D
  ok3 : A30 → Bool
  e3 : A30 → Int
  m3 : A30 → List (Value × Value)
  n3 : A30 → Nat
  f3 : A30 → Nat → List D
  ok4 : A32 → Bool
  e4 : A32 → Int
  m4 : A32 → List (Value × Value)
  n4 : A32 → Nat
  f4 : A32 → Nat → List D
noncomputable def o12 (Z : K12) : Orc := Orc.cons 50 (ansP decS fun s => vB (Z.nk s)) (Orc.cons 51 (inl Tryz.prog Orc.nil na 1 Tryz.f51)
  (Orc.cons 52 (ansD d26 Z.ok1 (fun a => vI (Z.e1 a)) fun a => H1' a.2.1.1 (Z.m1 a) (Z.n1 a) (Z.f1 a))
  (Orc.cons 54 (ansD d28 Z.ok2 (fun a => vI (Z.e2 a)) fun a => H2' a.2.1.1 a.2.2.1.1 a.2.2.1.2 (Z.m2 a) (Z.n2 a) (Z.f2 a))
  (Orc.cons 56 (ansD d30 Z.ok3 (fun a => vI (Z.e3 a)) fun a => H3' a.2.1.1 a.2.2.1.1 a.2.2.1.2 a.2.2.2.1.1 a.2.2.2.1.2 (Z.m3 a) (Z.n3 a) (Z.f3 a))
  (Orc.cons 58 (ansD d32 Z.ok4 (fun a => vI (Z.e4 a)) fun a => H4' a.2.1.1 a.2.2.1.1 a.2.2.1.2 a.2.2.2.1.1 a.2.2.2.1.2 a.2.2.2.2.1.1 a.2.2.2.2.1.2 (Z.m4 a) (Z.n4 a) (Z.f4 a)) Orc.nil)))))
noncomputable def ann12 : Ann := annOf []
theorem b12 : Tryz.f26.body = some (bodyOf Tryz.f26) := by kernel_rfl
set_option maxRecDepth 100000 in
theorem ev12 (Z : K12) (s : SSta) (g : Nat) : callC Tryz.prog (o12 Z) ann12 g Tryz.f26 (bodyOf Tryz.f26) [aSta s] [] =
 (bif !K12.nk Z (SSta.name s) then some (T.leaf (AV.c (C.d (D.v (Value.int IntKind.i64 (7 : Int)))), [])) else (bif (↑(List.length (SSta.buses s)) : Int) == (0 : Int) then some
 (T.leaf (AV.c (C.d (D.v (Value.int IntKind.i64 (3 : Int)))), [])) else (bif decide ((↑(List.length (SSta.buses s)) : Int) > (4 : Int)) then some (T.leaf (AV.c (C.d (D.v (Value.int
 IntKind.i64 (3 : Int)))), [])) else (bif decide ((↑(List.length (SSta.lines s)) : Int) > (6 : Int)) then some (T.leaf (AV.c (C.d (D.v (Value.int IntKind.i64 (3 : Int)))), [])) else
 (bif decide ((↑(List.length (SSta.srcs s)) : Int) > (4 : Int)) then some (T.leaf (AV.c (C.d (D.v (Value.int IntKind.i64 (3 : Int)))), [])) else (bif decide ((↑(List.length
 (SSta.bays s)) : Int) > (16 : Int)) then some (T.leaf (AV.c (C.d (D.v (Value.int IntKind.i64 (3 : Int)))), [])) else (bif K12.ok1 Z ((busesD (SSta.buses s), (), ()), (ByteArray.mk
 #[], (), (), (), (), (), ()), [], ()) then (bif K12.e1 Z ((busesD (SSta.buses s), (), ()), (ByteArray.mk #[], (), (), (), (), (), ()), [], ()) == (0 : Int) then (bif K12.ok2 Z
 ((linesD (SSta.lines s), (), ()), (ByteArray.mk #[], K12.n1 Z ((busesD (SSta.buses s), (), ()), (ByteArray.mk #[], (), (), (), (), (), ()), [], ()), (), (), (), (), ()), (K12.n1 Z
 ((busesD (SSta.buses s), (), ()), (ByteArray.mk #[], (), (), (), (), (), ()), [], ()), K12.f1 Z ((busesD (SSta.buses s), (), ()), (ByteArray.mk #[], (), (), (), (), (), ()), [],
 ())), K12.m1 Z ((busesD (SSta.buses s), (), ()), (ByteArray.mk #[], (), (), (), (), (), ()), [], ()), ()) then (bif K12.e2 Z ((linesD (SSta.lines s), (), ()), (ByteArray.mk #[],
 K12.n1 Z ((busesD (SSta.buses s), (), ()), (ByteArray.mk #[], (), (), (), (), (), ()), [], ()), (), (), (), (), ()), (K12.n1 Z ((busesD (SSta.buses s), (), ()), (ByteArray.mk #[],
 (), (), (), (), (), ()), [], ()), K12.f1 Z ((busesD (SSta.buses s), (), ()), (ByteArray.mk #[], (), (), (), (), (), ()), [], ())), K12.m1 Z ((busesD (SSta.buses s), (), ()),
 (ByteArray.mk #[], (), (), (), (), (), ()), [], ()), ()) == (0 : Int) then (bif K12.ok3 Z ((srcsD (SSta.srcs s), (), ()), (ByteArray.mk #[], K12.n1 Z ((busesD (SSta.buses s), (),
 ()), (ByteArray.mk #[], (), (), (), (), (), ()), [], ()), K12.n2 Z ((linesD (SSta.lines s), (), ()), (ByteArray.mk #[], K12.n1 Z ((busesD (SSta.buses s), (), ()), (ByteArray.mk #[],
 (), (), (), (), (), ()), [], ()), (), (), (), (), ()), (K12.n1 Z ((busesD (SSta.buses s), (), ()), (ByteArray.mk #[], (), (), (), (), (), ()), [], ()), K12.f1 Z ((busesD (SSta.buses
 s), (), ()), (ByteArray.mk #[], (), (), (), (), (), ()), [], ())), K12.m1 Z ((busesD (SSta.buses s), (), ()), (ByteArray.mk #[], (), (), (), (), (), ()), [], ()), ()), (), (), (),
 ()), (K12.n1 Z ((busesD (SSta.buses s), (), ()), (ByteArray.mk #[], (), (), (), (), (), ()), [], ()), K12.f1 Z ((busesD (SSta.buses s), (), ()), (ByteArray.mk #[], (), (), (), (),
 (), ()), [], ())), (K12.n2 Z ((linesD (SSta.lines s), (), ()), (ByteArray.mk #[], K12.n1 Z ((busesD (SSta.buses s), (), ()), (ByteArray.mk #[], (), (), (), (), (), ()), [], ()), (),
 (), (), (), ()), (K12.n1 Z ((busesD (SSta.buses s), (), ()), (ByteArray.mk #[], (), (), (), (), (), ()), [], ()), K12.f1 Z ((busesD (SSta.buses s), (), ()), (ByteArray.mk #[], (),
 (), (), (), (), ()), [], ())), K12.m1 Z ((busesD (SSta.buses s), (), ()), (ByteArray.mk #[], (), (), (), (), (), ()), [], ()), ()), K12.f2 Z ((linesD (SSta.lines s), (), ()),
 (ByteArray.mk #[], K12.n1 Z ((busesD (SSta.buses s), (), ()), (ByteArray.mk #[], (), (), (), (), (), ()), [], ()), (), (), (), (), ()), (K12.n1 Z ((busesD (SSta.buses s), (), ()),
 (ByteArray.mk #[], (), (), (), (), (), ()), [], ()), K12.f1 Z ((busesD (SSta.buses s), (), ()), (ByteArray.mk #[], (), (), (), (), (), ()), [], ())), K12.m1 Z ((busesD (SSta.buses
 s), (), ()), (ByteArray.mk #[], (), (), (), (), (), ()), [], ()), ())), K12.m2 Z ((linesD (SSta.lines s), (), ()), (ByteArray.mk #[], K12.n1 Z ((busesD (SSta.buses s), (), ()),
 (ByteArray.mk #[], (), (), (), (), (), ()), [], ()), (), (), (), (), ()), (K12.n1 Z ((busesD (SSta.buses s), (), ()), (ByteArray.mk #[], (), (), (), (), (), ()), [], ()), K12.f1 Z
 ((busesD (SSta.buses s), (), ()), (ByteArray.mk #[], (), (), (), (), (), ()), [], ())), K12.m1 Z ((busesD (SSta.buses s), (), ()), (ByteArray.mk #[], (), (), (), (), (), ()), [],
 ()), ()), ()) then (bif K12.e3 Z ((srcsD (SSta.srcs s), (), ()), (ByteArray.mk #[], K12.n1 Z ((busesD (SSta.buses s), (), ()), (ByteArray.mk #[], (), (), (), (), (), ()), [], ()),
 K12.n2 Z ((linesD (SSta.lines s), (), ()), (ByteArray.mk #[], K12.n1 Z ((busesD (SSta.buses s), (), ()), (ByteArray.mk #[], (), (), (), (), (), ()), [], ()), (), (), (), (), ()),
 (K12.n1 Z ((busesD (SSta.buses s), (), ()), (ByteArray.mk #[], (), (), (), (), (), ()), [], ()), K12.f1 Z ((busesD (SSta.buses s), (), ()), (ByteArray.mk #[], (), (), (), (), (),
 ()), [], ())), K12.m1 Z ((busesD (SSta.buses s), (), ()), (ByteArray.mk #[], (), (), (), (), (), ()), [], ()), ()), (), (), (), ()), (K12.n1 Z ((busesD (SSta.buses s), (), ()),
 (ByteArray.mk #[], (), (), (), (), (), ()), [], ()), K12.f1 Z ((busesD (SSta.buses s), (), ()), (ByteArray.mk #[], (), (), (), (), (), ()), [], ())), (K12.n2 Z ((linesD (SSta.lines
 s), (), ()), (ByteArray.mk #[], K12.n1 Z ((busesD (SSta.buses s), (), ()), (ByteArray.mk #[], (), (), (), (), (), ()), [], ()), (), (), (), (), ()), (K12.n1 Z ((busesD (SSta.buses
 s), (), ()), (ByteArray.mk #[], (), (), (), (), (), ()), [], ()), K12.f1 Z ((busesD (SSta.buses s), (), ()), (ByteArray.mk #[], (), (), (), (), (), ()), [], ())), K12.m1 Z ((busesD
 (SSta.buses s), (), ()), (ByteArray.mk #[], (), (), (), (), (), ()), [], ()), ()), K12.f2 Z ((linesD (SSta.lines s), (), ()), (ByteArray.mk #[], K12.n1 Z ((busesD (SSta.buses s),
 (), ()), (ByteArray.mk #[], (), (), (), (), (), ()), [], ()), (), (), (), (), ()), (K12.n1 Z ((busesD (SSta.buses s), (), ()), (ByteArray.mk #[], (), (), (), (), (), ()), [], ()),
 K12.f1 Z ((busesD (SSta.buses s), (), ()), (ByteArray.mk #[], (), (), (), (), (), ()), [], ())), K12.m1 Z ((busesD (SSta.buses s), (), ()), (ByteArray.mk #[], (), (), (), (), (),
 ()), [], ()), ())), K12.m2 Z ((linesD (SSta.lines s), (), ()), (ByteArray.mk #[], K12.n1 Z ((busesD (SSta.buses s), (), ()), (ByteArray.mk #[], (), (), (), (), (), ()), [], ()), (),
 (), (), (), ()), (K12.n1 Z ((busesD (SSta.buses s), (), ()), (ByteArray.mk #[], (), (), (), (), (), ()), [], ()), K12.f1 Z ((busesD (SSta.buses s), (), ()), (ByteArray.mk #[], (),
 (), (), (), (), ()), [], ())), K12.m1 Z ((busesD (SSta.buses s), (), ()), (ByteArray.mk #[], (), (), (), (), (), ()), [], ()), ()), ()) == (0 : Int) then (bif K12.ok4 Z ((baysD
 (SSta.bays s), (), ()), (ByteArray.mk #[], K12.n1 Z ((busesD (SSta.buses s), (), ()), (ByteArray.mk #[], (), (), (), (), (), ()), [], ()), K12.n2 Z ((linesD (SSta.lines s), (), ()),
 (ByteArray.mk #[], K12.n1 Z ((busesD (SSta.buses s), (), ()), (ByteArray.mk #[], (), (), (), (), (), ()), [], ()), (), (), (), (), ()), (K12.n1 Z ((busesD (SSta.buses s), (), ()),
 (ByteArray.mk #[], (), (), (), (), (), ()), [], ()), K12.f1 Z ((busesD (SSta.buses s), (), ()), (ByteArray.mk #[], (), (), (), (), (), ()), [], ())), K12.m1 Z ((busesD (SSta.buses
 s), (), ()), (ByteArray.mk #[], (), (), (), (), (), ()), [], ()), ()), K12.n3 Z ((srcsD (SSta.srcs s), (), ()), (ByteArray.mk #[], K12.n1 Z ((busesD (SSta.buses s), (), ()),
 (ByteArray.mk #[], (), (), (), (), (), ()), [], ()), K12.n2 Z ((linesD (SSta.lines s), (), ()), (ByteArray.mk #[], K12.n1 Z ((busesD (SSta.buses s), (), ()), (ByteArray.mk #[], (),
 (), (), (), (), ()), [], ()), (), (), (), (), ()), (K12.n1 Z ((busesD (SSta.buses s), (), ()), (ByteArray.mk #[], (), (), (), (), (), ()), [], ()), K12.f1 Z ((busesD (SSta.buses s),
 (), ()), (ByteArray.mk #[], (), (), (), (), (), ()), [], ())), K12.m1 Z ((busesD (SSta.buses s), (), ()), (ByteArray.mk #[], (), (), (), (), (), ()), [], ()), ()), (), (), (), ()),
 (K12.n1 Z ((busesD (SSta.buses s), (), ()), (ByteArray.mk #[], (), (), (), (), (), ()), [], ()), K12.f1 Z ((busesD (SSta.buses s), (), ()), (ByteArray.mk #[], (), (), (), (), (),
 ()), [], ())), (K12.n2 Z ((linesD (SSta.lines s), (), ()), (ByteArray.mk #[], K12.n1 Z ((busesD (SSta.buses s), (), ()), (ByteArray.mk #[], (), (), (), (), (), ()), [], ()), (), (),
 (), (), ()), (K12.n1 Z ((busesD (SSta.buses s), (), ()), (ByteArray.mk #[], (), (), (), (), (), ()), [], ()), K12.f1 Z ((busesD (SSta.buses s), (), ()), (ByteArray.mk #[], (), (),
 (), (), (), ()), [], ())), K12.m1 Z ((busesD (SSta.buses s), (), ()), (ByteArray.mk #[], (), (), (), (), (), ()), [], ()), ()), K12.f2 Z ((linesD (SSta.lines s), (), ()),
 (ByteArray.mk #[], K12.n1 Z ((busesD (SSta.buses s), (), ()), (ByteArray.mk #[], (), (), (), (), (), ()), [], ()), (), (), (), (), ()), (K12.n1 Z ((busesD (SSta.buses s), (), ()),
 (ByteArray.mk #[], (), (), (), (), (), ()), [], ()), K12.f1 Z ((busesD (SSta.buses s), (), ()), (ByteArray.mk #[], (), (), (), (), (), ()), [], ())), K12.m1 Z ((busesD (SSta.buses
 s), (), ()), (ByteArray.mk #[], (), (), (), (), (), ()), [], ()), ())), K12.m2 Z ((linesD (SSta.lines s), (), ()), (ByteArray.mk #[], K12.n1 Z ((busesD (SSta.buses s), (), ()),
 (ByteArray.mk #[], (), (), (), (), (), ()), [], ()), (), (), (), (), ()), (K12.n1 Z ((busesD (SSta.buses s), (), ()), (ByteArray.mk #[], (), (), (), (), (), ()), [], ()), K12.f1 Z
 ((busesD (SSta.buses s), (), ()), (ByteArray.mk #[], (), (), (), (), (), ()), [], ())), K12.m1 Z ((busesD (SSta.buses s), (), ()), (ByteArray.mk #[], (), (), (), (), (), ()), [],
 ()), ()), ()), (), (), ()), (K12.n1 Z ((busesD (SSta.buses s), (), ()), (ByteArray.mk #[], (), (), (), (), (), ()), [], ()), K12.f1 Z ((busesD (SSta.buses s), (), ()), (ByteArray.mk
 #[], (), (), (), (), (), ()), [], ())), (K12.n2 Z ((linesD (SSta.lines s), (), ()), (ByteArray.mk #[], K12.n1 Z ((busesD (SSta.buses s), (), ()), (ByteArray.mk #[], (), (), (), (),
 (), ()), [], ()), (), (), (), (), ()), (K12.n1 Z ((busesD (SSta.buses s), (), ()), (ByteArray.mk #[], (), (), (), (), (), ()), [], ()), K12.f1 Z ((busesD (SSta.buses s), (), ()),
 (ByteArray.mk #[], (), (), (), (), (), ()), [], ())), K12.m1 Z ((busesD (SSta.buses s), (), ()), (ByteArray.mk #[], (), (), (), (), (), ()), [], ()), ()), K12.f2 Z ((linesD
 (SSta.lines s), (), ()), (ByteArray.mk #[], K12.n1 Z ((busesD (SSta.buses s), (), ()), (ByteArray.mk #[], (), (), (), (), (), ()), [], ()), (), (), (), (), ()), (K12.n1 Z ((busesD
 (SSta.buses s), (), ()), (ByteArray.mk #[], (), (), (), (), (), ()), [], ()), K12.f1 Z ((busesD (SSta.buses s), (), ()), (ByteArray.mk #[], (), (), (), (), (), ()), [], ())), K12.m1
 Z ((busesD (SSta.buses s), (), ()), (ByteArray.mk #[], (), (), (), (), (), ()), [], ()), ())), (K12.n3 Z ((srcsD (SSta.srcs s), (), ()), (ByteArray.mk #[], K12.n1 Z ((busesD
 (SSta.buses s), (), ()), (ByteArray.mk #[], (), (), (), (), (), ()), [], ()), K12.n2 Z ((linesD (SSta.lines s), (), ()), (ByteArray.mk #[], K12.n1 Z ((busesD (SSta.buses s), (),
 ()), (ByteArray.mk #[], (), (), (), (), (), ()), [], ()), (), (), (), (), ()), (K12.n1 Z ((busesD (SSta.buses s), (), ()), (ByteArray.mk #[], (), (), (), (), (), ()), [], ()),
 K12.f1 Z ((busesD (SSta.buses s), (), ()), (ByteArray.mk #[], (), (), (), (), (), ()), [], ())), K12.m1 Z ((busesD (SSta.buses s), (), ()), (ByteArray.mk #[], (), (), (), (), (),
 ()), [], ()), ()), (), (), (), ()), (K12.n1 Z ((busesD (SSta.buses s), (), ()), (ByteArray.mk #[], (), (), (), (), (), ()), [], ()), K12.f1 Z ((busesD (SSta.buses s), (), ()),
 (ByteArray.mk #[], (), (), (), (), (), ()), [], ())), (K12.n2 Z ((linesD (SSta.lines s), (), ()), (ByteArray.mk #[], K12.n1 Z ((busesD (SSta.buses s), (), ()), (ByteArray.mk #[],
 (), (), (), (), (), ()), [], ()), (), (), (), (), ()), (K12.n1 Z ((busesD (SSta.buses s), (), ()), (ByteArray.mk #[], (), (), (), (), (), ()), [], ()), K12.f1 Z ((busesD (SSta.buses
 s), (), ()), (ByteArray.mk #[], (), (), (), (), (), ()), [], ())), K12.m1 Z ((busesD (SSta.buses s), (), ()), (ByteArray.mk #[], (), (), (), (), (), ()), [], ()), ()), K12.f2 Z
 ((linesD (SSta.lines s), (), ()), (ByteArray.mk #[], K12.n1 Z ((busesD (SSta.buses s), (), ()), (ByteArray.mk #[], (), (), (), (), (), ()), [], ()), (), (), (), (), ()), (K12.n1 Z
 ((busesD (SSta.buses s), (), ()), (ByteArray.mk #[], (), (), (), (), (), ()), [], ()), K12.f1 Z ((busesD (SSta.buses s), (), ()), (ByteArray.mk #[], (), (), (), (), (), ()), [],
 ())), K12.m1 Z ((busesD (SSta.buses s), (), ()), (ByteArray.mk #[], (), (), (), (), (), ()), [], ()), ())), K12.m2 Z ((linesD (SSta.lines s), (), ()), (ByteArray.mk #[], K12.n1 Z
 ((busesD (SSta.buses s), (), ()), (ByteArray.mk #[], (), (), (), (), (), ()), [], ()), (), (), (), (), ()), (K12.n1 Z ((busesD (SSta.buses s), (), ()), (ByteArray.mk #[], (), (),
 (), (), (), ()), [], ()), K12.f1 Z ((busesD (SSta.buses s), (), ()), (ByteArray.mk #[], (), (), (), (), (), ()), [], ())), K12.m1 Z ((busesD (SSta.buses s), (), ()), (ByteArray.mk
 #[], (), (), (), (), (), ()), [], ()), ()), ()), K12.f3 Z ((srcsD (SSta.srcs s), (), ()), (ByteArray.mk #[], K12.n1 Z ((busesD (SSta.buses s), (), ()), (ByteArray.mk #[], (), (),
 (), (), (), ()), [], ()), K12.n2 Z ((linesD (SSta.lines s), (), ()), (ByteArray.mk #[], K12.n1 Z ((busesD (SSta.buses s), (), ()), (ByteArray.mk #[], (), (), (), (), (), ()), [],
 ()), (), (), (), (), ()), (K12.n1 Z ((busesD (SSta.buses s), (), ()), (ByteArray.mk #[], (), (), (), (), (), ()), [], ()), K12.f1 Z ((busesD (SSta.buses s), (), ()), (ByteArray.mk
 #[], (), (), (), (), (), ()), [], ())), K12.m1 Z ((busesD (SSta.buses s), (), ()), (ByteArray.mk #[], (), (), (), (), (), ()), [], ()), ()), (), (), (), ()), (K12.n1 Z ((busesD
 (SSta.buses s), (), ()), (ByteArray.mk #[], (), (), (), (), (), ()), [], ()), K12.f1 Z ((busesD (SSta.buses s), (), ()), (ByteArray.mk #[], (), (), (), (), (), ()), [], ())),
 (K12.n2 Z ((linesD (SSta.lines s), (), ()), (ByteArray.mk #[], K12.n1 Z ((busesD (SSta.buses s), (), ()), (ByteArray.mk #[], (), (), (), (), (), ()), [], ()), (), (), (), (), ()),
 (K12.n1 Z ((busesD (SSta.buses s), (), ()), (ByteArray.mk #[], (), (), (), (), (), ()), [], ()), K12.f1 Z ((busesD (SSta.buses s), (), ()), (ByteArray.mk #[], (), (), (), (), (),
 ()), [], ())), K12.m1 Z ((busesD (SSta.buses s), (), ()), (ByteArray.mk #[], (), (), (), (), (), ()), [], ()), ()), K12.f2 Z ((linesD (SSta.lines s), (), ()), (ByteArray.mk #[],
 K12.n1 Z ((busesD (SSta.buses s), (), ()), (ByteArray.mk #[], (), (), (), (), (), ()), [], ()), (), (), (), (), ()), (K12.n1 Z ((busesD (SSta.buses s), (), ()), (ByteArray.mk #[],
 (), (), (), (), (), ()), [], ()), K12.f1 Z ((busesD (SSta.buses s), (), ()), (ByteArray.mk #[], (), (), (), (), (), ()), [], ())), K12.m1 Z ((busesD (SSta.buses s), (), ()),
 (ByteArray.mk #[], (), (), (), (), (), ()), [], ()), ())), K12.m2 Z ((linesD (SSta.lines s), (), ()), (ByteArray.mk #[], K12.n1 Z ((busesD (SSta.buses s), (), ()), (ByteArray.mk
 #[], (), (), (), (), (), ()), [], ()), (), (), (), (), ()), (K12.n1 Z ((busesD (SSta.buses s), (), ()), (ByteArray.mk #[], (), (), (), (), (), ()), [], ()), K12.f1 Z ((busesD
 (SSta.buses s), (), ()), (ByteArray.mk #[], (), (), (), (), (), ()), [], ())), K12.m1 Z ((busesD (SSta.buses s), (), ()), (ByteArray.mk #[], (), (), (), (), (), ()), [], ()), ()),
 ())), K12.m3 Z ((srcsD (SSta.srcs s), (), ()), (ByteArray.mk #[], K12.n1 Z ((busesD (SSta.buses s), (), ()), (ByteArray.mk #[], (), (), (), (), (), ()), [], ()), K12.n2 Z ((linesD
 (SSta.lines s), (), ()), (ByteArray.mk #[], K12.n1 Z ((busesD (SSta.buses s), (), ()), (ByteArray.mk #[], (), (), (), (), (), ()), [], ()), (), (), (), (), ()), (K12.n1 Z ((busesD
 (SSta.buses s), (), ()), (ByteArray.mk #[], (), (), (), (), (), ()), [], ()), K12.f1 Z ((busesD (SSta.buses s), (), ()), (ByteArray.mk #[], (), (), (), (), (), ()), [], ())), K12.m1
 Z ((busesD (SSta.buses s), (), ()), (ByteArray.mk #[], (), (), (), (), (), ()), [], ()), ()), (), (), (), ()), (K12.n1 Z ((busesD (SSta.buses s), (), ()), (ByteArray.mk #[], (), (),
 (), (), (), ()), [], ()), K12.f1 Z ((busesD (SSta.buses s), (), ()), (ByteArray.mk #[], (), (), (), (), (), ()), [], ())), (K12.n2 Z ((linesD (SSta.lines s), (), ()), (ByteArray.mk
 #[], K12.n1 Z ((busesD (SSta.buses s), (), ()), (ByteArray.mk #[], (), (), (), (), (), ()), [], ()), (), (), (), (), ()), (K12.n1 Z ((busesD (SSta.buses s), (), ()), (ByteArray.mk
 #[], (), (), (), (), (), ()), [], ()), K12.f1 Z ((busesD (SSta.buses s), (), ()), (ByteArray.mk #[], (), (), (), (), (), ()), [], ())), K12.m1 Z ((busesD (SSta.buses s), (), ()),
 (ByteArray.mk #[], (), (), (), (), (), ()), [], ()), ()), K12.f2 Z ((linesD (SSta.lines s), (), ()), (ByteArray.mk #[], K12.n1 Z ((busesD (SSta.buses s), (), ()), (ByteArray.mk #[],
 (), (), (), (), (), ()), [], ()), (), (), (), (), ()), (K12.n1 Z ((busesD (SSta.buses s), (), ()), (ByteArray.mk #[], (), (), (), (), (), ()), [], ()), K12.f1 Z ((busesD (SSta.buses
 s), (), ()), (ByteArray.mk #[], (), (), (), (), (), ()), [], ())), K12.m1 Z ((busesD (SSta.buses s), (), ()), (ByteArray.mk #[], (), (), (), (), (), ()), [], ()), ())), K12.m2 Z
 ((linesD (SSta.lines s), (), ()), (ByteArray.mk #[], K12.n1 Z ((busesD (SSta.buses s), (), ()), (ByteArray.mk #[], (), (), (), (), (), ()), [], ()), (), (), (), (), ()), (K12.n1 Z
 ((busesD (SSta.buses s), (), ()), (ByteArray.mk #[], (), (), (), (), (), ()), [], ()), K12.f1 Z ((busesD (SSta.buses s), (), ()), (ByteArray.mk #[], (), (), (), (), (), ()), [],
 ())), K12.m1 Z ((busesD (SSta.buses s), (), ()), (ByteArray.mk #[], (), (), (), (), (), ()), [], ()), ()), ()), ()) then some (T.leaf (AV.c (C.d (D.v (Value.int IntKind.i64 (K12.e4
 Z ((baysD (SSta.bays s), (), ()), (ByteArray.mk #[], K12.n1 Z ((busesD (SSta.buses s), (), ()), (ByteArray.mk #[], (), (), (), (), (), ()), [], ()), K12.n2 Z ((linesD (SSta.lines
 s), (), ()), (ByteArray.mk #[], K12.n1 Z ((busesD (SSta.buses s), (), ()), (ByteArray.mk #[], (), (), (), (), (), ()), [], ()), (), (), (), (), ()), (K12.n1 Z ((busesD (SSta.buses
 s), (), ()), (ByteArray.mk #[], (), (), (), (), (), ()), [], ()), K12.f1 Z ((busesD (SSta.buses s), (), ()), (ByteArray.mk #[], (), (), (), (), (), ()), [], ())), K12.m1 Z ((busesD
 (SSta.buses s), (), ()), (ByteArray.mk #[], (), (), (), (), (), ()), [], ()), ()), K12.n3 Z ((srcsD (SSta.srcs s), (), ()), (ByteArray.mk #[], K12.n1 Z ((busesD (SSta.buses s), (),
 ()), (ByteArray.mk #[], (), (), (), (), (), ()), [], ()), K12.n2 Z ((linesD (SSta.lines s), (), ()), (ByteArray.mk #[], K12.n1 Z ((busesD (SSta.buses s), (), ()), (ByteArray.mk #[],
 (), (), (), (), (), ()), [], ()), (), (), (), (), ()), (K12.n1 Z ((busesD (SSta.buses s), (), ()), (ByteArray.mk #[], (), (), (), (), (), ()), [], ()), K12.f1 Z ((busesD (SSta.buses
 s), (), ()), (ByteArray.mk #[], (), (), (), (), (), ()), [], ())), K12.m1 Z ((busesD (SSta.buses s), (), ()), (ByteArray.mk #[], (), (), (), (), (), ()), [], ()), ()), (), (), (),
 ()), (K12.n1 Z ((busesD (SSta.buses s), (), ()), (ByteArray.mk #[], (), (), (), (), (), ()), [], ()), K12.f1 Z ((busesD (SSta.buses s), (), ()), (ByteArray.mk #[], (), (), (), (),
 (), ()), [], ())), (K12.n2 Z ((linesD (SSta.lines s), (), ()), (ByteArray.mk #[], K12.n1 Z ((busesD (SSta.buses s), (), ()), (ByteArray.mk #[], (), (), (), (), (), ()), [], ()), (),
 (), (), (), ()), (K12.n1 Z ((busesD (SSta.buses s), (), ()), (ByteArray.mk #[], (), (), (), (), (), ()), [], ()), K12.f1 Z ((busesD (SSta.buses s), (), ()), (ByteArray.mk #[], (),
 (), (), (), (), ()), [], ())), K12.m1 Z ((busesD (SSta.buses s), (), ()), (ByteArray.mk #[], (), (), (), (), (), ()), [], ()), ()), K12.f2 Z ((linesD (SSta.lines s), (), ()),
 (ByteArray.mk #[], K12.n1 Z ((busesD (SSta.buses s), (), ()), (ByteArray.mk #[], (), (), (), (), (), ()), [], ()), (), (), (), (), ()), (K12.n1 Z ((busesD (SSta.buses s), (), ()),
 (ByteArray.mk #[], (), (), (), (), (), ()), [], ()), K12.f1 Z ((busesD (SSta.buses s), (), ()), (ByteArray.mk #[], (), (), (), (), (), ()), [], ())), K12.m1 Z ((busesD (SSta.buses
 s), (), ()), (ByteArray.mk #[], (), (), (), (), (), ()), [], ()), ())), K12.m2 Z ((linesD (SSta.lines s), (), ()), (ByteArray.mk #[], K12.n1 Z ((busesD (SSta.buses s), (), ()),
 (ByteArray.mk #[], (), (), (), (), (), ()), [], ()), (), (), (), (), ()), (K12.n1 Z ((busesD (SSta.buses s), (), ()), (ByteArray.mk #[], (), (), (), (), (), ()), [], ()), K12.f1 Z
 ((busesD (SSta.buses s), (), ()), (ByteArray.mk #[], (), (), (), (), (), ()), [], ())), K12.m1 Z ((busesD (SSta.buses s), (), ()), (ByteArray.mk #[], (), (), (), (), (), ()), [],
 ()), ()), ()), (), (), ()), (K12.n1 Z ((busesD (SSta.buses s), (), ()), (ByteArray.mk #[], (), (), (), (), (), ()), [], ()), K12.f1 Z ((busesD (SSta.buses s), (), ()), (ByteArray.mk
 #[], (), (), (), (), (), ()), [], ())), (K12.n2 Z ((linesD (SSta.lines s), (), ()), (ByteArray.mk #[], K12.n1 Z ((busesD (SSta.buses s), (), ()), (ByteArray.mk #[], (), (), (), (),
 (), ()), [], ()), (), (), (), (), ()), (K12.n1 Z ((busesD (SSta.buses s), (), ()), (ByteArray.mk #[], (), (), (), (), (), ()), [], ()), K12.f1 Z ((busesD (SSta.buses s), (), ()),
 (ByteArray.mk #[], (), (), (), (), (), ()), [], ())), K12.m1 Z ((busesD (SSta.buses s), (), ()), (ByteArray.mk #[], (), (), (), (), (), ()), [], ()), ()), K12.f2 Z ((linesD
 (SSta.lines s), (), ()), (ByteArray.mk #[], K12.n1 Z ((busesD (SSta.buses s), (), ()), (ByteArray.mk #[], (), (), (), (), (), ()), [], ()), (), (), (), (), ()), (K12.n1 Z ((busesD
 (SSta.buses s), (), ()), (ByteArray.mk #[], (), (), (), (), (), ()), [], ()), K12.f1 Z ((busesD (SSta.buses s), (), ()), (ByteArray.mk #[], (), (), (), (), (), ()), [], ())), K12.m1
 Z ((busesD (SSta.buses s), (), ()), (ByteArray.mk #[], (), (), (), (), (), ()), [], ()), ())), (K12.n3 Z ((srcsD (SSta.srcs s), (), ()), (ByteArray.mk #[], K12.n1 Z ((busesD
 (SSta.buses s), (), ()), (ByteArray.mk #[], (), (), (), (), (), ()), [], ()), K12.n2 Z ((linesD (SSta.lines s), (), ()), (ByteArray.mk #[], K12.n1 Z ((busesD (SSta.buses s), (),
 ()), (ByteArray.mk #[], (), (), (), (), (), ()), [], ()), (), (), (), (), ()), (K12.n1 Z ((busesD (SSta.buses s), (), ()), (ByteArray.mk #[], (), (), (), (), (), ()), [], ()),
 K12.f1 Z ((busesD (SSta.buses s), (), ()), (ByteArray.mk #[], (), (), (), (), (), ()), [], ())), K12.m1 Z ((busesD (SSta.buses s), (), ()), (ByteArray.mk #[], (), (), (), (), (),
 ()), [], ()), ()), (), (), (), ()), (K12.n1 Z ((busesD (SSta.buses s), (), ()), (ByteArray.mk #[], (), (), (), (), (), ()), [], ()), K12.f1 Z ((busesD (SSta.buses s), (), ()),
 (ByteArray.mk #[], (), (), (), (), (), ()), [], ())), (K12.n2 Z ((linesD (SSta.lines s), (), ()), (ByteArray.mk #[], K12.n1 Z ((busesD (SSta.buses s), (), ()), (ByteArray.mk #[],
 (), (), (), (), (), ()), [], ()), (), (), (), (), ()), (K12.n1 Z ((busesD (SSta.buses s), (), ()), (ByteArray.mk #[], (), (), (), (), (), ()), [], ()), K12.f1 Z ((busesD (SSta.buses
 s), (), ()), (ByteArray.mk #[], (), (), (), (), (), ()), [], ())), K12.m1 Z ((busesD (SSta.buses s), (), ()), (ByteArray.mk #[], (), (), (), (), (), ()), [], ()), ()), K12.f2 Z
 ((linesD (SSta.lines s), (), ()), (ByteArray.mk #[], K12.n1 Z ((busesD (SSta.buses s), (), ()), (ByteArray.mk #[], (), (), (), (), (), ()), [], ()), (), (), (), (), ()), (K12.n1 Z
 ((busesD (SSta.buses s), (), ()), (ByteArray.mk #[], (), (), (), (), (), ()), [], ()), K12.f1 Z ((busesD (SSta.buses s), (), ()), (ByteArray.mk #[], (), (), (), (), (), ()), [],
 ())), K12.m1 Z ((busesD (SSta.buses s), (), ()), (ByteArray.mk #[], (), (), (), (), (), ()), [], ()), ())), K12.m2 Z ((linesD (SSta.lines s), (), ()), (ByteArray.mk #[], K12.n1 Z
 ((busesD (SSta.buses s), (), ()), (ByteArray.mk #[], (), (), (), (), (), ()), [], ()), (), (), (), (), ()), (K12.n1 Z ((busesD (SSta.buses s), (), ()), (ByteArray.mk #[], (), (),
 (), (), (), ()), [], ()), K12.f1 Z ((busesD (SSta.buses s), (), ()), (ByteArray.mk #[], (), (), (), (), (), ()), [], ())), K12.m1 Z ((busesD (SSta.buses s), (), ()), (ByteArray.mk
 #[], (), (), (), (), (), ()), [], ()), ()), ()), K12.f3 Z ((srcsD (SSta.srcs s), (), ()), (ByteArray.mk #[], K12.n1 Z ((busesD (SSta.buses s), (), ()), (ByteArray.mk #[], (), (),
 (), (), (), ()), [], ()), K12.n2 Z ((linesD (SSta.lines s), (), ()), (ByteArray.mk #[], K12.n1 Z ((busesD (SSta.buses s), (), ()), (ByteArray.mk #[], (), (), (), (), (), ()), [],
 ()), (), (), (), (), ()), (K12.n1 Z ((busesD (SSta.buses s), (), ()), (ByteArray.mk #[], (), (), (), (), (), ()), [], ()), K12.f1 Z ((busesD (SSta.buses s), (), ()), (ByteArray.mk
 #[], (), (), (), (), (), ()), [], ())), K12.m1 Z ((busesD (SSta.buses s), (), ()), (ByteArray.mk #[], (), (), (), (), (), ()), [], ()), ()), (), (), (), ()), (K12.n1 Z ((busesD
 (SSta.buses s), (), ()), (ByteArray.mk #[], (), (), (), (), (), ()), [], ()), K12.f1 Z ((busesD (SSta.buses s), (), ()), (ByteArray.mk #[], (), (), (), (), (), ()), [], ())),
 (K12.n2 Z ((linesD (SSta.lines s), (), ()), (ByteArray.mk #[], K12.n1 Z ((busesD (SSta.buses s), (), ()), (ByteArray.mk #[], (), (), (), (), (), ()), [], ()), (), (), (), (), ()),
 (K12.n1 Z ((busesD (SSta.buses s), (), ()), (ByteArray.mk #[], (), (), (), (), (), ()), [], ()), K12.f1 Z ((busesD (SSta.buses s), (), ()), (ByteArray.mk #[], (), (), (), (), (),
 ()), [], ())), K12.m1 Z ((busesD (SSta.buses s), (), ()), (ByteArray.mk #[], (), (), (), (), (), ()), [], ()), ()), K12.f2 Z ((linesD (SSta.lines s), (), ()), (ByteArray.mk #[],
 K12.n1 Z ((busesD (SSta.buses s), (), ()), (ByteArray.mk #[], (), (), (), (), (), ()), [], ()), (), (), (), (), ()), (K12.n1 Z ((busesD (SSta.buses s), (), ()), (ByteArray.mk #[],
 (), (), (), (), (), ()), [], ()), K12.f1 Z ((busesD (SSta.buses s), (), ()), (ByteArray.mk #[], (), (), (), (), (), ()), [], ())), K12.m1 Z ((busesD (SSta.buses s), (), ()),
 (ByteArray.mk #[], (), (), (), (), (), ()), [], ()), ())), K12.m2 Z ((linesD (SSta.lines s), (), ()), (ByteArray.mk #[], K12.n1 Z ((busesD (SSta.buses s), (), ()), (ByteArray.mk
 #[], (), (), (), (), (), ()), [], ()), (), (), (), (), ()), (K12.n1 Z ((busesD (SSta.buses s), (), ()), (ByteArray.mk #[], (), (), (), (), (), ()), [], ()), K12.f1 Z ((busesD
 (SSta.buses s), (), ()), (ByteArray.mk #[], (), (), (), (), (), ()), [], ())), K12.m1 Z ((busesD (SSta.buses s), (), ()), (ByteArray.mk #[], (), (), (), (), (), ()), [], ()), ()),
 ())), K12.m3 Z ((srcsD (SSta.srcs s), (), ()), (ByteArray.mk #[], K12.n1 Z ((busesD (SSta.buses s), (), ()), (ByteArray.mk #[], (), (), (), (), (), ()), [], ()), K12.n2 Z ((linesD
 (SSta.lines s), (), ()), (ByteArray.mk #[], K12.n1 Z ((busesD (SSta.buses s), (), ()), (ByteArray.mk #[], (), (), (), (), (), ()), [], ()), (), (), (), (), ()), (K12.n1 Z ((busesD
 (SSta.buses s), (), ()), (ByteArray.mk #[], (), (), (), (), (), ()), [], ()), K12.f1 Z ((busesD (SSta.buses s), (), ()), (ByteArray.mk #[], (), (), (), (), (), ()), [], ())), K12.m1
 Z ((busesD (SSta.buses s), (), ()), (ByteArray.mk #[], (), (), (), (), (), ()), [], ()), ()), (), (), (), ()), (K12.n1 Z ((busesD (SSta.buses s), (), ()), (ByteArray.mk #[], (), (),
 (), (), (), ()), [], ()), K12.f1 Z ((busesD (SSta.buses s), (), ()), (ByteArray.mk #[], (), (), (), (), (), ()), [], ())), (K12.n2 Z ((linesD (SSta.lines s), (), ()), (ByteArray.mk
 #[], K12.n1 Z ((busesD (SSta.buses s), (), ()), (ByteArray.mk #[], (), (), (), (), (), ()), [], ()), (), (), (), (), ()), (K12.n1 Z ((busesD (SSta.buses s), (), ()), (ByteArray.mk
 #[], (), (), (), (), (), ()), [], ()), K12.f1 Z ((busesD (SSta.buses s), (), ()), (ByteArray.mk #[], (), (), (), (), (), ()), [], ())), K12.m1 Z ((busesD (SSta.buses s), (), ()),
 (ByteArray.mk #[], (), (), (), (), (), ()), [], ()), ()), K12.f2 Z ((linesD (SSta.lines s), (), ()), (ByteArray.mk #[], K12.n1 Z ((busesD (SSta.buses s), (), ()), (ByteArray.mk #[],
 (), (), (), (), (), ()), [], ()), (), (), (), (), ()), (K12.n1 Z ((busesD (SSta.buses s), (), ()), (ByteArray.mk #[], (), (), (), (), (), ()), [], ()), K12.f1 Z ((busesD (SSta.buses
 s), (), ()), (ByteArray.mk #[], (), (), (), (), (), ()), [], ())), K12.m1 Z ((busesD (SSta.buses s), (), ()), (ByteArray.mk #[], (), (), (), (), (), ()), [], ()), ())), K12.m2 Z
 ((linesD (SSta.lines s), (), ()), (ByteArray.mk #[], K12.n1 Z ((busesD (SSta.buses s), (), ()), (ByteArray.mk #[], (), (), (), (), (), ()), [], ()), (), (), (), (), ()), (K12.n1 Z
 ((busesD (SSta.buses s), (), ()), (ByteArray.mk #[], (), (), (), (), (), ()), [], ()), K12.f1 Z ((busesD (SSta.buses s), (), ()), (ByteArray.mk #[], (), (), (), (), (), ()), [],
 ())), K12.m1 Z ((busesD (SSta.buses s), (), ()), (ByteArray.mk #[], (), (), (), (), (), ()), [], ()), ()), ()), ()))))), [])) else none) else some (T.leaf (AV.c (C.d (D.v (Value.int
 IntKind.i64 (K12.e3 Z ((srcsD (SSta.srcs s), (), ()), (ByteArray.mk #[], K12.n1 Z ((busesD (SSta.buses s), (), ()), (ByteArray.mk #[], (), (), (), (), (), ()), [], ()), K12.n2 Z
 ((linesD (SSta.lines s), (), ()), (ByteArray.mk #[], K12.n1 Z ((busesD (SSta.buses s), (), ()), (ByteArray.mk #[], (), (), (), (), (), ()), [], ()), (), (), (), (), ()), (K12.n1 Z
 ((busesD (SSta.buses s), (), ()), (ByteArray.mk #[], (), (), (), (), (), ()), [], ()), K12.f1 Z ((busesD (SSta.buses s), (), ()), (ByteArray.mk #[], (), (), (), (), (), ()), [],
 ())), K12.m1 Z ((busesD (SSta.buses s), (), ()), (ByteArray.mk #[], (), (), (), (), (), ()), [], ()), ()), (), (), (), ()), (K12.n1 Z ((busesD (SSta.buses s), (), ()), (ByteArray.mk
 #[], (), (), (), (), (), ()), [], ()), K12.f1 Z ((busesD (SSta.buses s), (), ()), (ByteArray.mk #[], (), (), (), (), (), ()), [], ())), (K12.n2 Z ((linesD (SSta.lines s), (), ()),
 (ByteArray.mk #[], K12.n1 Z ((busesD (SSta.buses s), (), ()), (ByteArray.mk #[], (), (), (), (), (), ()), [], ()), (), (), (), (), ()), (K12.n1 Z ((busesD (SSta.buses s), (), ()),
 (ByteArray.mk #[], (), (), (), (), (), ()), [], ()), K12.f1 Z ((busesD (SSta.buses s), (), ()), (ByteArray.mk #[], (), (), (), (), (), ()), [], ())), K12.m1 Z ((busesD (SSta.buses
 s), (), ()), (ByteArray.mk #[], (), (), (), (), (), ()), [], ()), ()), K12.f2 Z ((linesD (SSta.lines s), (), ()), (ByteArray.mk #[], K12.n1 Z ((busesD (SSta.buses s), (), ()),
 (ByteArray.mk #[], (), (), (), (), (), ()), [], ()), (), (), (), (), ()), (K12.n1 Z ((busesD (SSta.buses s), (), ()), (ByteArray.mk #[], (), (), (), (), (), ()), [], ()), K12.f1 Z
 ((busesD (SSta.buses s), (), ()), (ByteArray.mk #[], (), (), (), (), (), ()), [], ())), K12.m1 Z ((busesD (SSta.buses s), (), ()), (ByteArray.mk #[], (), (), (), (), (), ()), [],
 ()), ())), K12.m2 Z ((linesD (SSta.lines s), (), ()), (ByteArray.mk #[], K12.n1 Z ((busesD (SSta.buses s), (), ()), (ByteArray.mk #[], (), (), (), (), (), ()), [], ()), (), (), (),
 (), ()), (K12.n1 Z ((busesD (SSta.buses s), (), ()), (ByteArray.mk #[], (), (), (), (), (), ()), [], ()), K12.f1 Z ((busesD (SSta.buses s), (), ()), (ByteArray.mk #[], (), (), (),
 (), (), ()), [], ())), K12.m1 Z ((busesD (SSta.buses s), (), ()), (ByteArray.mk #[], (), (), (), (), (), ()), [], ()), ()), ()))))), []))) else none) else (bif K12.e2 Z ((linesD
 (SSta.lines s), (), ()), (ByteArray.mk #[], K12.n1 Z ((busesD (SSta.buses s), (), ()), (ByteArray.mk #[], (), (), (), (), (), ()), [], ()), (), (), (), (), ()), (K12.n1 Z ((busesD
 (SSta.buses s), (), ()), (ByteArray.mk #[], (), (), (), (), (), ()), [], ()), K12.f1 Z ((busesD (SSta.buses s), (), ()), (ByteArray.mk #[], (), (), (), (), (), ()), [], ())), K12.m1
 Z ((busesD (SSta.buses s), (), ()), (ByteArray.mk #[], (), (), (), (), (), ()), [], ()), ()) == (0 : Int) then none else some (T.leaf (AV.c (C.d (D.v (Value.int IntKind.i64 (K12.e2
 Z ((linesD (SSta.lines s), (), ()), (ByteArray.mk #[], K12.n1 Z ((busesD (SSta.buses s), (), ()), (ByteArray.mk #[], (), (), (), (), (), ()), [], ()), (), (), (), (), ()), (K12.n1 Z
 ((busesD (SSta.buses s), (), ()), (ByteArray.mk #[], (), (), (), (), (), ()), [], ()), K12.f1 Z ((busesD (SSta.buses s), (), ()), (ByteArray.mk #[], (), (), (), (), (), ()), [],
 ())), K12.m1 Z ((busesD (SSta.buses s), (), ()), (ByteArray.mk #[], (), (), (), (), (), ()), [], ()), ()))))), [])))) else none) else (bif K12.e1 Z ((busesD (SSta.buses s), (), ()),
 (ByteArray.mk #[], (), (), (), (), (), ()), [], ()) == (0 : Int) then none else (bif K12.e1 Z ((busesD (SSta.buses s), (), ()), (ByteArray.mk #[], (), (), (), (), (), ()), [], ())
 == (0 : Int) then none else some (T.leaf (AV.c (C.d (D.v (Value.int IntKind.i64 (K12.e1 Z ((busesD (SSta.buses s), (), ()), (ByteArray.mk #[], (), (), (), (), (), ()), [], ()))))),
 []))))) else none))))))) := by kernel_rfl
end Go.Proofs.YtngoglhlhlfknaaGreat.st
