/-
  Same of the reference, names of elements: what they compute. No condition.
-/
import Derived.Test.YthmapnolgdpkbaaZIt
import Derived.Test.YthmapnolgdpkbaaSu
namespace Go.Proofs.Ythmapnolgdpkbaa.st
open Go.RowKit Go.Eb

def dBB : Dec (List AV × Hp) ((RBay × RBay × Unit) × Unit) := .pair (.cons (.agg bayD) (.cons (.agg bayD) .nil)) .nil
noncomputable def o14 (ok sm : RBay → RBay → Bool) : Orc := Orc.cons 39 (ansD dBB (fun a => ok a.1.1 a.1.2.1) (fun a => vB (sm a.1.1 a.1.2.1)) fun _ => []) Orc.nil
noncomputable def ann14 : Ann := annOf [(5, ⟨[3, 2, 6, 5], []⟩), (9, ⟨[3, 2, 7, 5], []⟩), (13, ⟨[3, 2, 8, 5], []⟩), (17, ⟨[3, 2, 9, 5], []⟩)]
noncomputable def L14_5 (ok sm : RBay → RBay → Bool) (a b : SSta) (g m : Nat) (i5 : Bool) (i6 : Int) := LK Try.prog (o14 ok sm) ann14 0 g Try.f14 5 m ⟨frm [(2, AV.c (C.ptr 0 0)), (3, AV.c (C.ptr 1 0)), (5, AV.c (C.d (D.v (Value.bool i5)))), (6, AV.c (C.d (D.v (Value.int IntKind.i64 i6))))] 0 Try.f14.ntmps, [(0, Blk.cells [C.d (D.v (Value.string (SSta.name a))), C.d (D.sl 1 (List.length (SSta.buses a)) fun i => busC (List.getD (SSta.buses a) i e0)), C.d (D.sl 5 (List.length (SSta.lines a)) fun i => lineC (List.getD (SSta.lines a) i line0)), C.d (D.sl 6 (List.length (SSta.srcs a)) fun i => srcC' (List.getD (SSta.srcs a) i src0)), C.d (D.sl 12 (List.length (SSta.bays a)) fun i => bayC (List.getD (SSta.bays a) i bay0))] 27), (1, Blk.cells [C.d (D.v (Value.string (SSta.name b))), C.d (D.sl 1 (List.length (SSta.buses b)) fun i => busC (List.getD (SSta.buses b) i e0)), C.d (D.sl 5 (List.length (SSta.lines b)) fun i => lineC (List.getD (SSta.lines b) i line0)), C.d (D.sl 6 (List.length (SSta.srcs b)) fun i => srcC' (List.getD (SSta.srcs b) i src0)), C.d (D.sl 12 (List.length (SSta.bays b)) fun i => bayC (List.getD (SSta.bays b) i bay0))] 27)], 2⟩
noncomputable def L14_9 (ok sm : RBay → RBay → Bool) (a b : SSta) (g m : Nat) (i5 : Bool) (i7 : Int) := LK Try.prog (o14 ok sm) ann14 0 g Try.f14 9 m ⟨frm [(2, AV.c (C.ptr 0 0)), (3, AV.c (C.ptr 1 0)), (5, AV.c (C.d (D.v (Value.bool i5)))), (7, AV.c (C.d (D.v (Value.int IntKind.i64 i7))))] 0 Try.f14.ntmps, [(0, Blk.cells [C.d (D.v (Value.string (SSta.name a))), C.d (D.sl 1 (List.length (SSta.buses a)) fun i => busC (List.getD (SSta.buses a) i e0)), C.d (D.sl 5 (List.length (SSta.lines a)) fun i => lineC (List.getD (SSta.lines a) i line0)), C.d (D.sl 6 (List.length (SSta.srcs a)) fun i => srcC' (List.getD (SSta.srcs a) i src0)), C.d (D.sl 12 (List.length (SSta.bays a)) fun i => bayC (List.getD (SSta.bays a) i bay0))] 27), (1, Blk.cells [C.d (D.v (Value.string (SSta.name b))), C.d (D.sl 1 (List.length (SSta.buses b)) fun i => busC (List.getD (SSta.buses b) i e0)), C.d (D.sl 5 (List.length (SSta.lines b)) fun i => lineC (List.getD (SSta.lines b) i line0)), C.d (D.sl 6 (List.length (SSta.srcs b)) fun i => srcC' (List.getD (SSta.srcs b) i src0)), C.d (D.sl 12 (List.length (SSta.bays b)) fun i => bayC (List.getD (SSta.bays b) i bay0))] 27)], 2⟩
noncomputable def L14_13 (ok sm : RBay → RBay → Bool) (a b : SSta) (g m : Nat) (i5 : Bool) (i8 : Int) := LK Try.prog (o14 ok sm) ann14 0 g Try.f14 13 m ⟨frm [(2, AV.c (C.ptr 0 0)), (3, AV.c (C.ptr 1 0)), (5, AV.c (C.d (D.v (Value.bool i5)))), (8, AV.c (C.d (D.v (Value.int IntKind.i64 i8))))] 0 Try.f14.ntmps, [(0, Blk.cells [C.d (D.v (Value.string (SSta.name a))), C.d (D.sl 1 (List.length (SSta.buses a)) fun i => busC (List.getD (SSta.buses a) i e0)), C.d (D.sl 5 (List.length (SSta.lines a)) fun i => lineC (List.getD (SSta.lines a) i line0)), C.d (D.sl 6 (List.length (SSta.srcs a)) fun i => srcC' (List.getD (SSta.srcs a) i src0)), C.d (D.sl 12 (List.length (SSta.bays a)) fun i => bayC (List.getD (SSta.bays a) i bay0))] 27), (1, Blk.cells [C.d (D.v (Value.string (SSta.name b))), C.d (D.sl 1 (List.length (SSta.buses b)) fun i => busC (List.getD (SSta.buses b) i e0)), C.d (D.sl 5 (List.length (SSta.lines b)) fun i => lineC (List.getD (SSta.lines b) i line0)), C.d (D.sl 6 (List.length (SSta.srcs b)) fun i => srcC' (List.getD (SSta.srcs b) i src0)), C.d (D.sl 12 (List.length (SSta.bays b)) fun i => bayC (List.getD (SSta.bays b) i bay0))] 27)], 2⟩
noncomputable def L14_17 (ok sm : RBay → RBay → Bool) (a b : SSta) (g m : Nat) (i5 : Bool) (i9 : Int) := LK Try.prog (o14 ok sm) ann14 0 g Try.f14 17 m ⟨frm [(2, AV.c (C.ptr 0 0)), (3, AV.c (C.ptr 1 0)), (5, AV.c (C.d (D.v (Value.bool i5)))), (9, AV.c (C.d (D.v (Value.int IntKind.i64 i9))))] 0 Try.f14.ntmps, [(0, Blk.cells [C.d (D.v (Value.string (SSta.name a))), C.d (D.sl 1 (List.length (SSta.buses a)) fun i => busC (List.getD (SSta.buses a) i e0)), C.d (D.sl 5 (List.length (SSta.lines a)) fun i => lineC (List.getD (SSta.lines a) i line0)), C.d (D.sl 6 (List.length (SSta.srcs a)) fun i => srcC' (List.getD (SSta.srcs a) i src0)), C.d (D.sl 12 (List.length (SSta.bays a)) fun i => bayC (List.getD (SSta.bays a) i bay0))] 27), (1, Blk.cells [C.d (D.v (Value.string (SSta.name b))), C.d (D.sl 1 (List.length (SSta.buses b)) fun i => busC (List.getD (SSta.buses b) i e0)), C.d (D.sl 5 (List.length (SSta.lines b)) fun i => lineC (List.getD (SSta.lines b) i line0)), C.d (D.sl 6 (List.length (SSta.srcs b)) fun i => srcC' (List.getD (SSta.srcs b) i src0)), C.d (D.sl 12 (List.length (SSta.bays b)) fun i => bayC (List.getD (SSta.bays b) i bay0))] 27)], 2⟩
theorem b14 : Try.f14.body = some (bodyOf Try.f14) := by kernel_rfl
set_option maxRecDepth 100000 in
theorem ev14 (ok sm : RBay → RBay → Bool) (a b : SSta) (g : Nat) : callA Try.prog (o14 ok sm) ann14 g Try.f14 (bodyOf Try.f14) [aSta a, aSta b] [] =
  (bif !ByteArray.toList (SSta.name a) == ByteArray.toList (SSta.name b)
  then some (T.leaf (AV.c (C.d (D.v (Value.bool false))), []))
  else (bif (↑(List.length (SSta.buses a)) : Int) != (↑(List.length (SSta.buses b)) : Int)
    then some (T.leaf (AV.c (C.d (D.v (Value.bool false))), []))
    else (bif (↑(List.length (SSta.lines a)) : Int) != (↑(List.length (SSta.lines b)) : Int)
      then some (T.leaf (AV.c (C.d (D.v (Value.bool false))), []))
      else (bif (↑(List.length (SSta.srcs a)) : Int) != (↑(List.length (SSta.srcs b)) : Int)
        then some (T.leaf (AV.c (C.d (D.v (Value.bool false))), []))
        else (bif (↑(List.length (SSta.bays a)) : Int) != (↑(List.length (SSta.bays b)) : Int)
          then some (T.leaf (AV.c (C.d (D.v (Value.bool false))), []))
          else L14_5 ok sm a b g g true ((0 : Int))))))) := by kernel_rfl
set_option maxRecDepth 100000 in
theorem st14_5 (ok sm : RBay → RBay → Bool) (a b : SSta) (g m : Nat) (i5 : Bool) (i6 : Int) : L14_5 ok sm a b g (m + 1) i5 i6 =
  (bif decide (i6 < (↑(List.length (SSta.buses a)) : Int))
  then (bif i5
    then (bif decide ((0 : Int) ≤ i6) && decide (i6 < (↑(List.length (SSta.buses a)) : Int))
      then (bif decide ((0 : Int) ≤ i6) && decide (i6 < (↑(List.length (SSta.buses b)) : Int))
        then L14_5 ok sm a b g m (ByteArray.toList (List.getD (SSta.buses a) (Int.toNat i6) e0) ==
  ByteArray.toList (List.getD (SSta.buses b) (Int.toNat i6) e0)) (IntKind.wrap IntKind.i64 (i6 + (1 : Int)))
        else none)
      else none)
    else L14_5 ok sm a b g m false (IntKind.wrap IntKind.i64 (i6 + (1 : Int))))
  else L14_9 ok sm a b g g i5 ((0 : Int))) := by kernel_rfl
set_option maxRecDepth 100000 in
theorem st14_9 (ok sm : RBay → RBay → Bool) (a b : SSta) (g m : Nat) (i5 : Bool) (i7 : Int) : L14_9 ok sm a b g (m + 1) i5 i7 =
  (bif decide (i7 < (↑(List.length (SSta.lines a)) : Int))
  then (bif i5
    then (bif decide ((0 : Int) ≤ i7) && decide (i7 < (↑(List.length (SSta.lines a)) : Int))
      then (bif decide ((0 : Int) ≤ i7) && decide (i7 < (↑(List.length (SSta.lines b)) : Int))
        then L14_9 ok sm a b g m (ByteArray.toList (SLine.name (List.getD (SSta.lines a) (Int.toNat i7) line0)) ==
    ByteArray.toList (SLine.name (List.getD (SSta.lines b) (Int.toNat i7) line0)) &&
  (SLine.r1 (List.getD (SSta.lines a) (Int.toNat i7) line0) ==
        SLine.r1 (List.getD (SSta.lines b) (Int.toNat i7) line0) &&
      (SLine.x1 (List.getD (SSta.lines a) (Int.toNat i7) line0) ==
          SLine.x1 (List.getD (SSta.lines b) (Int.toNat i7) line0) &&
        true) &&
    (SLine.r0 (List.getD (SSta.lines a) (Int.toNat i7) line0) ==
          SLine.r0 (List.getD (SSta.lines b) (Int.toNat i7) line0) &&
        (SLine.x0 (List.getD (SSta.lines a) (Int.toNat i7) line0) ==
            SLine.x0 (List.getD (SSta.lines b) (Int.toNat i7) line0) &&
          true) &&
      true))) (IntKind.wrap IntKind.i64 (i7 + (1 : Int)))
        else none)
      else none)
    else L14_9 ok sm a b g m false (IntKind.wrap IntKind.i64 (i7 + (1 : Int))))
  else L14_13 ok sm a b g g i5 ((0 : Int))) := by kernel_rfl
set_option maxRecDepth 100000 in
theorem st14_13 (ok sm : RBay → RBay → Bool) (a b : SSta) (g m : Nat) (i5 : Bool) (i8 : Int) : L14_13 ok sm a b g (m + 1) i5 i8 =
  (bif decide (i8 < (↑(List.length (SSta.srcs a)) : Int))
  then (bif i5
    then (bif decide ((0 : Int) ≤ i8) && decide (i8 < (↑(List.length (SSta.srcs a)) : Int))
      then (bif decide ((0 : Int) ≤ i8) && decide (i8 < (↑(List.length (SSta.srcs b)) : Int))
        then L14_13 ok sm a b g m (ByteArray.toList (SSrc.name (List.getD (SSta.srcs a) (Int.toNat i8) src0)) ==
    ByteArray.toList (SSrc.name (List.getD (SSta.srcs b) (Int.toNat i8) src0)) &&
  (SSrc.emf (List.getD (SSta.srcs a) (Int.toNat i8) src0) == SSrc.emf (List.getD (SSta.srcs b) (Int.toNat i8) src0) &&
    (SSrc.r1 (List.getD (SSta.srcs a) (Int.toNat i8) src0) == SSrc.r1 (List.getD (SSta.srcs b) (Int.toNat i8) src0) &&
        (SSrc.x1 (List.getD (SSta.srcs a) (Int.toNat i8) src0) ==
            SSrc.x1 (List.getD (SSta.srcs b) (Int.toNat i8) src0) &&
          true) &&
      (SSrc.r0 (List.getD (SSta.srcs a) (Int.toNat i8) src0) == SSrc.r0 (List.getD (SSta.srcs b) (Int.toNat i8) src0) &&
          (SSrc.x0 (List.getD (SSta.srcs a) (Int.toNat i8) src0) ==
              SSrc.x0 (List.getD (SSta.srcs b) (Int.toNat i8) src0) &&
            true) &&
        true)))) (IntKind.wrap IntKind.i64 (i8 + (1 : Int)))
        else none)
      else none)
    else L14_13 ok sm a b g m false (IntKind.wrap IntKind.i64 (i8 + (1 : Int))))
  else L14_17 ok sm a b g g i5 ((0 : Int))) := by kernel_rfl
set_option maxRecDepth 100000 in
theorem st14_17 (ok sm : RBay → RBay → Bool) (a b : SSta) (g m : Nat) (i5 : Bool) (i9 : Int) : L14_17 ok sm a b g (m + 1) i5 i9 =
  (bif decide (i9 < (↑(List.length (SSta.bays a)) : Int))
  then (bif i5
    then (bif decide ((0 : Int) ≤ i9) && decide (i9 < (↑(List.length (SSta.bays a)) : Int))
      then (bif decide ((0 : Int) ≤ i9) && decide (i9 < (↑(List.length (SSta.bays b)) : Int))
        then (bif ok
  (SBay.name (List.getD (SSta.bays a) (Int.toNat i9) bay0), SBay.kind (List.getD (SSta.bays a) (Int.toNat i9) bay0),
    SBay.off (List.getD (SSta.bays a) (Int.toNat i9) bay0), SBay.fin (List.getD (SSta.bays a) (Int.toNat i9) bay0),
    SBay.zr (List.getD (SSta.bays a) (Int.toNat i9) bay0), SBay.zx (List.getD (SSta.bays a) (Int.toNat i9) bay0),
    linksD (SBay.links (List.getD (SSta.bays a) (Int.toNat i9) bay0)),
    SBay.closed (List.getD (SSta.bays a) (Int.toNat i9) bay0), SBay.ct (List.getD (SSta.bays a) (Int.toNat i9) bay0),
    SBay.vt (List.getD (SSta.bays a) (Int.toNat i9) bay0), SBay.sat (List.getD (SSta.bays a) (Int.toNat i9) bay0),
    SBay.travel (List.getD (SSta.bays a) (Int.toNat i9) bay0), ())
  (SBay.name (List.getD (SSta.bays b) (Int.toNat i9) bay0), SBay.kind (List.getD (SSta.bays b) (Int.toNat i9) bay0),
    SBay.off (List.getD (SSta.bays b) (Int.toNat i9) bay0), SBay.fin (List.getD (SSta.bays b) (Int.toNat i9) bay0),
    SBay.zr (List.getD (SSta.bays b) (Int.toNat i9) bay0), SBay.zx (List.getD (SSta.bays b) (Int.toNat i9) bay0),
    linksD (SBay.links (List.getD (SSta.bays b) (Int.toNat i9) bay0)),
    SBay.closed (List.getD (SSta.bays b) (Int.toNat i9) bay0), SBay.ct (List.getD (SSta.bays b) (Int.toNat i9) bay0),
    SBay.vt (List.getD (SSta.bays b) (Int.toNat i9) bay0), SBay.sat (List.getD (SSta.bays b) (Int.toNat i9) bay0),
    SBay.travel (List.getD (SSta.bays b) (Int.toNat i9) bay0), ())
          then L14_17 ok sm a b g m (sm
  (SBay.name (List.getD (SSta.bays a) (Int.toNat i9) bay0), SBay.kind (List.getD (SSta.bays a) (Int.toNat i9) bay0),
    SBay.off (List.getD (SSta.bays a) (Int.toNat i9) bay0), SBay.fin (List.getD (SSta.bays a) (Int.toNat i9) bay0),
    SBay.zr (List.getD (SSta.bays a) (Int.toNat i9) bay0), SBay.zx (List.getD (SSta.bays a) (Int.toNat i9) bay0),
    linksD (SBay.links (List.getD (SSta.bays a) (Int.toNat i9) bay0)),
    SBay.closed (List.getD (SSta.bays a) (Int.toNat i9) bay0), SBay.ct (List.getD (SSta.bays a) (Int.toNat i9) bay0),
    SBay.vt (List.getD (SSta.bays a) (Int.toNat i9) bay0), SBay.sat (List.getD (SSta.bays a) (Int.toNat i9) bay0),
    SBay.travel (List.getD (SSta.bays a) (Int.toNat i9) bay0), ())
  (SBay.name (List.getD (SSta.bays b) (Int.toNat i9) bay0), SBay.kind (List.getD (SSta.bays b) (Int.toNat i9) bay0),
    SBay.off (List.getD (SSta.bays b) (Int.toNat i9) bay0), SBay.fin (List.getD (SSta.bays b) (Int.toNat i9) bay0),
    SBay.zr (List.getD (SSta.bays b) (Int.toNat i9) bay0), SBay.zx (List.getD (SSta.bays b) (Int.toNat i9) bay0),
    linksD (SBay.links (List.getD (SSta.bays b) (Int.toNat i9) bay0)),
    SBay.closed (List.getD (SSta.bays b) (Int.toNat i9) bay0), SBay.ct (List.getD (SSta.bays b) (Int.toNat i9) bay0),
    SBay.vt (List.getD (SSta.bays b) (Int.toNat i9) bay0), SBay.sat (List.getD (SSta.bays b) (Int.toNat i9) bay0),
    SBay.travel (List.getD (SSta.bays b) (Int.toNat i9) bay0), ())) (IntKind.wrap IntKind.i64 (i9 + (1 : Int)))
          else none)
        else none)
      else none)
    else L14_17 ok sm a b g m false (IntKind.wrap IntKind.i64 (i9 + (1 : Int))))
  else some (T.leaf (AV.c (C.d (D.v (Value.bool i5))), []))) := by kernel_rfl
noncomputable def ann21 : Ann := annOf [(3, ⟨[5, 4, 3, 2, 12, 11], []⟩), (7, ⟨[5, 4, 3, 13, 11], []⟩), (11, ⟨[5, 4, 14, 11], []⟩)]
noncomputable def L21_3 (s : SSta) (nb nl ns nq : Int) (g m : Nat) (n1 : Nat) (f1 : Nat → List D) (i12 : Int) := LK Try.prog Orc.nil ann21 0 g Try.f21 3 m ⟨frm [(2, AV.c (C.d (D.v (Value.int IntKind.i64 nl)))), (3, AV.c (C.d (D.v (Value.int IntKind.i64 ns)))), (4, AV.c (C.d (D.v (Value.int IntKind.i64 nq)))), (5, AV.c (C.ptr 0 0)), (11, AV.c (C.row 1 1 n1)), (12, AV.c (C.d (D.v (Value.int IntKind.i64 i12))))] 0 Try.f21.ntmps, [(0, Blk.cells [C.d (D.v (Value.string (SSta.name s))), C.d (D.sl 1 (List.length (SSta.buses s)) fun i => busC (List.getD (SSta.buses s) i e0)), C.d (D.sl 5 (List.length (SSta.lines s)) fun i => lineC (List.getD (SSta.lines s) i line0)), C.d (D.sl 6 (List.length (SSta.srcs s)) fun i => srcC' (List.getD (SSta.srcs s) i src0)), C.d (D.sl 12 (List.length (SSta.bays s)) fun i => bayC (List.getD (SSta.bays s) i bay0))] 27), (1, Blk.row n1 f1 1 9)], 2⟩
noncomputable def L21_7 (s : SSta) (nb nl ns nq : Int) (g m : Nat) (n1 : Nat) (f1 : Nat → List D) (i13 : Int) := LK Try.prog Orc.nil ann21 0 g Try.f21 7 m ⟨frm [(3, AV.c (C.d (D.v (Value.int IntKind.i64 ns)))), (4, AV.c (C.d (D.v (Value.int IntKind.i64 nq)))), (5, AV.c (C.ptr 0 0)), (11, AV.c (C.row 1 1 n1)), (13, AV.c (C.d (D.v (Value.int IntKind.i64 i13))))] 0 Try.f21.ntmps, [(0, Blk.cells [C.d (D.v (Value.string (SSta.name s))), C.d (D.sl 1 (List.length (SSta.buses s)) fun i => busC (List.getD (SSta.buses s) i e0)), C.d (D.sl 5 (List.length (SSta.lines s)) fun i => lineC (List.getD (SSta.lines s) i line0)), C.d (D.sl 6 (List.length (SSta.srcs s)) fun i => srcC' (List.getD (SSta.srcs s) i src0)), C.d (D.sl 12 (List.length (SSta.bays s)) fun i => bayC (List.getD (SSta.bays s) i bay0))] 27), (1, Blk.row n1 f1 1 9)], 2⟩
noncomputable def L21_11 (s : SSta) (nb nl ns nq : Int) (g m : Nat) (n1 : Nat) (f1 : Nat → List D) (i14 : Int) := LK Try.prog Orc.nil ann21 0 g Try.f21 11 m ⟨frm [(4, AV.c (C.d (D.v (Value.int IntKind.i64 nq)))), (5, AV.c (C.ptr 0 0)), (11, AV.c (C.row 1 1 n1)), (14, AV.c (C.d (D.v (Value.int IntKind.i64 i14))))] 0 Try.f21.ntmps, [(0, Blk.cells [C.d (D.v (Value.string (SSta.name s))), C.d (D.sl 1 (List.length (SSta.buses s)) fun i => busC (List.getD (SSta.buses s) i e0)), C.d (D.sl 5 (List.length (SSta.lines s)) fun i => lineC (List.getD (SSta.lines s) i line0)), C.d (D.sl 6 (List.length (SSta.srcs s)) fun i => srcC' (List.getD (SSta.srcs s) i src0)), C.d (D.sl 12 (List.length (SSta.bays s)) fun i => bayC (List.getD (SSta.bays s) i bay0))] 27), (1, Blk.row n1 f1 1 9)], 2⟩
theorem b21 : Try.f21.body = some (bodyOf Try.f21) := by kernel_rfl
set_option maxRecDepth 100000 in
theorem ev21 (s : SSta) (nb nl ns nq : Int) (g : Nat) : callA Try.prog Orc.nil ann21 g Try.f21 (bodyOf Try.f21) [aSta s, vI nb, vI nl, vI ns, vI nq] [] =
  (bif decide ((0 : Int) ≤ (↑(0 : Nat) : Int)) && decide ((↑(0 : Nat) : Int) ≤ nb) &&
  decide (nb ≤ (↑(List.length (SSta.buses s)) : Int))
  then (bif decide
    (((0 : Nat) + (Int.toNat nb - Int.toNat (↑(0 : Nat) : Int))) * (16 : Nat) ≤ (140737488355328 : Nat)) &&
  decide ((0 : Nat) + (Int.toNat nb - Int.toNat (↑(0 : Nat) : Int)) ≤ (9223372036854775807 : Nat))
    then L21_3 s nb nl ns nq g g ((0 : Nat) +
  (Int.toNat nb -
    Int.toNat
      (↑(0 : Nat) :
        Int))) (appF (0 : Nat) (chunk [] ((0 : Nat) + (1 : Nat))) fun i =>
  busC (List.getD (SSta.buses s) (Int.toNat (↑(0 : Nat) : Int) + i) e0)) ((0 : Int))
    else none)
  else none) := by kernel_rfl
set_option maxRecDepth 100000 in
theorem st21_3 (s : SSta) (nb nl ns nq : Int) (g m : Nat) (n1 : Nat) (f1 : Nat → List D) (i12 : Int) : L21_3 s nb nl ns nq g (m + 1) n1 f1 i12 =
  (bif decide (i12 < nl)
  then (bif decide ((0 : Int) ≤ i12) && decide (i12 < (↑(List.length (SSta.lines s)) : Int))
    then (bif decide ((n1 + (1 : Nat)) * (16 : Nat) ≤ (140737488355328 : Nat)) &&
  decide (n1 + (1 : Nat) ≤ (9223372036854775807 : Nat))
      then L21_3 s nb nl ns nq g m (n1 +
  (1 :
    Nat)) (appF n1 f1
  (chunk [dS (SLine.name (List.getD (SSta.lines s) (Int.toNat i12) line0))]
    ((0 : Nat) + (1 : Nat)))) (IntKind.wrap IntKind.i64 (i12 + (1 : Int)))
      else none)
    else none)
  else L21_7 s nb nl ns nq g g n1 f1 ((0 : Int))) := by kernel_rfl
set_option maxRecDepth 100000 in
theorem st21_7 (s : SSta) (nb nl ns nq : Int) (g m : Nat) (n1 : Nat) (f1 : Nat → List D) (i13 : Int) : L21_7 s nb nl ns nq g (m + 1) n1 f1 i13 =
  (bif decide (i13 < ns)
  then (bif decide ((0 : Int) ≤ i13) && decide (i13 < (↑(List.length (SSta.srcs s)) : Int))
    then (bif decide ((n1 + (1 : Nat)) * (16 : Nat) ≤ (140737488355328 : Nat)) &&
  decide (n1 + (1 : Nat) ≤ (9223372036854775807 : Nat))
      then L21_7 s nb nl ns nq g m (n1 +
  (1 :
    Nat)) (appF n1 f1
  (chunk [dS (SSrc.name (List.getD (SSta.srcs s) (Int.toNat i13) src0))]
    ((0 : Nat) + (1 : Nat)))) (IntKind.wrap IntKind.i64 (i13 + (1 : Int)))
      else none)
    else none)
  else L21_11 s nb nl ns nq g g n1 f1 ((0 : Int))) := by kernel_rfl
set_option maxRecDepth 100000 in
theorem st21_11 (s : SSta) (nb nl ns nq : Int) (g m : Nat) (n1 : Nat) (f1 : Nat → List D) (i14 : Int) : L21_11 s nb nl ns nq g (m + 1) n1 f1 i14 =
  (bif decide (i14 < nq)
  then (bif decide ((0 : Int) ≤ i14) && decide (i14 < (↑(List.length (SSta.bays s)) : Int))
    then (bif decide ((n1 + (1 : Nat)) * (16 : Nat) ≤ (140737488355328 : Nat)) &&
  decide (n1 + (1 : Nat) ≤ (9223372036854775807 : Nat))
      then L21_11 s nb nl ns nq g m (n1 +
  (1 :
    Nat)) (appF n1 f1
  (chunk [dS (SBay.name (List.getD (SSta.bays s) (Int.toNat i14) bay0))]
    ((0 : Nat) + (1 : Nat)))) (IntKind.wrap IntKind.i64 (i14 + (1 : Int)))
      else none)
    else none)
  else some (T.leaf (AV.c (C.row ((0 : Nat)) ((1 : Nat)) n1), [((0 : Nat), Blk.row n1 f1 ((1 : Nat)) ((9 : Nat)))]))) := by kernel_rfl
end Go.Proofs.Ythmapnolgdpkbaa.st
