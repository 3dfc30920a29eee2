/-
  The scanner: what its functions compute. No condition.
-/
import Derived.Test.YtkmmkdeoamhpfaaEb
import Derived.Test.YtkmmkdeoamhpfaaWe
import Derived.Lib.Bytealg
import Derived.Test.YtkmmkdeoamhpfaaZPs
namespace Go.Proofs.Ytkmmkdeoamhpfaa.ps
open Go.RowKit Go.Eb
open Go.Proofs.Ytkmmkdeoamhpfaa.wd (plainR)

abbrev HS (s : ByteArray) (a l : Int) : Hp := [(0, .cells [.d (.v (.string s)), .d (.v (.int .i64 a)), .d (.v (.int .i64 l))] 40)]
def decS8 : List AV → Option (ByteArray × Int)
  | [.c (.d (.v (.string s))), .c (.d (.v (.int .u8 c)))] => some (s, c)
  | _ => none
def idxB (s : ByteArray) (c : Int) : Int := Lib.indexByte s.data.toList c.toNat.toUInt8
noncomputable def o58 : Orc := Orc.cons 58 (ansP decS8 fun a => vI (idxB a.1 a.2)) Orc.nil
noncomputable def o57 : Orc := Orc.cons 57 (inl Try.prog o58 na 1 Try.f57) Orc.nil
noncomputable def o40 : Orc := Orc.cons 52 (inl Try.prog o57 na 1 Try.f52) Orc.nil
noncomputable def ann40 := annOf [(0, ⟨[0], []⟩)]
noncomputable def L40 (s : ByteArray) (g m : Nat) (a l : Int) := LK Try.prog o40 ann40 1 g Try.f40 0 m ⟨frm [(0, .c (.ptr 0 0))] 0 Try.f40.ntmps, HS s a l, 1⟩
set_option maxRecDepth 100000 in
theorem ev40 (s : ByteArray) (a l : Int) (g : Nat) : callA Try.prog o40 ann40 g Try.f40 (bodyOf Try.f40) [.c (.ptr 0 0)] (HS s a l) =
  L40 s g g a l := by kernel_rfl
set_option maxRecDepth 100000 in
theorem st40 (s : ByteArray) (g m : Nat) (a l : Int) : L40 s g (m + 1) a l =
  (bif decide (a < (↑(ByteArray.size s) : Int))
  then (bif decide ((0 : Int) ≤ a) && decide (a < (↑(ByteArray.size s) : Int))
    then (bif (↑(UInt8.toNat (List.getD (Array.toList (ByteArray.data s)) (Int.toNat a) (0 : UInt8))) : Int) ==
  (32 : Int)
      then (bif (↑(UInt8.toNat (List.getD (Array.toList (ByteArray.data s)) (Int.toNat a) (0 : UInt8))) : Int) ==
  (32 : Int)
        then L40 s g m (IntKind.wrap IntKind.i64 (a + (1 : Int))) l
        else (bif (↑(UInt8.toNat (List.getD (Array.toList (ByteArray.data s)) (Int.toNat a) (0 : UInt8))) : Int) ==
  (10 : Int)
          then L40 s g m (IntKind.wrap IntKind.i64 (a + (1 : Int))) (IntKind.wrap IntKind.i64 (l + (1 : Int)))
          else (bif (↑(UInt8.toNat (List.getD (Array.toList (ByteArray.data s)) (Int.toNat a) (0 : UInt8))) : Int) ==
  (35 : Int)
            then (bif decide ((0 : Int) ≤ a) && decide (a ≤ (↑(ByteArray.size s) : Int)) &&
  decide ((↑(ByteArray.size s) : Int) ≤ (↑(ByteArray.size s) : Int))
              then (bif decide
  (idxB (ByteArray.extract s (Int.toNat a) (Int.toNat (↑(ByteArray.size s) : Int))) (10 : Int) < (0 : Int))
                then some (T.leaf
  (AV.tup [],
    [((0 : Nat),
        Blk.cells
          [C.d (D.v (Value.string s)), C.d (D.v (Value.int IntKind.i64 (↑(ByteArray.size s) : Int))),
            C.d (D.v (Value.int IntKind.i64 l))]
          ((40 : Nat)))]))
                else L40 s g m (IntKind.wrap IntKind.i64
  (a + idxB (ByteArray.extract s (Int.toNat a) (Int.toNat (↑(ByteArray.size s) : Int))) (10 : Int))) l)
              else none)
            else some (T.leaf
  (AV.tup [],
    [((0 : Nat),
        Blk.cells [C.d (D.v (Value.string s)), C.d (D.v (Value.int IntKind.i64 a)), C.d (D.v (Value.int IntKind.i64 l))]
          ((40 : Nat)))])))))
      else (bif (↑(UInt8.toNat (List.getD (Array.toList (ByteArray.data s)) (Int.toNat a) (0 : UInt8))) : Int) ==
  (9 : Int)
        then L40 s g m (IntKind.wrap IntKind.i64 (a + (1 : Int))) l
        else (bif (↑(UInt8.toNat (List.getD (Array.toList (ByteArray.data s)) (Int.toNat a) (0 : UInt8))) : Int) ==
  (10 : Int)
          then L40 s g m (IntKind.wrap IntKind.i64 (a + (1 : Int))) (IntKind.wrap IntKind.i64 (l + (1 : Int)))
          else (bif (↑(UInt8.toNat (List.getD (Array.toList (ByteArray.data s)) (Int.toNat a) (0 : UInt8))) : Int) ==
  (35 : Int)
            then (bif decide ((0 : Int) ≤ a) && decide (a ≤ (↑(ByteArray.size s) : Int)) &&
  decide ((↑(ByteArray.size s) : Int) ≤ (↑(ByteArray.size s) : Int))
              then (bif decide
  (idxB (ByteArray.extract s (Int.toNat a) (Int.toNat (↑(ByteArray.size s) : Int))) (10 : Int) < (0 : Int))
                then some (T.leaf
  (AV.tup [],
    [((0 : Nat),
        Blk.cells
          [C.d (D.v (Value.string s)), C.d (D.v (Value.int IntKind.i64 (↑(ByteArray.size s) : Int))),
            C.d (D.v (Value.int IntKind.i64 l))]
          ((40 : Nat)))]))
                else L40 s g m (IntKind.wrap IntKind.i64
  (a + idxB (ByteArray.extract s (Int.toNat a) (Int.toNat (↑(ByteArray.size s) : Int))) (10 : Int))) l)
              else none)
            else some (T.leaf
  (AV.tup [],
    [((0 : Nat),
        Blk.cells [C.d (D.v (Value.string s)), C.d (D.v (Value.int IntKind.i64 a)), C.d (D.v (Value.int IntKind.i64 l))]
          ((40 : Nat)))]))))))
    else none)
  else some (T.leaf
  (AV.tup [],
    [((0 : Nat),
        Blk.cells [C.d (D.v (Value.string s)), C.d (D.v (Value.int IntKind.i64 a)), C.d (D.v (Value.int IntKind.i64 l))]
          ((40 : Nat)))]))) := by kernel_rfl

noncomputable def o42 : Orc := Orc.cons 29 (ansP dec32 fun r => vB (plainR r)) Orc.nil
abbrev B0 : Blk := .cells [.d (.v (.int .u8 0)), .d (.v (.int .i64 0)), .d (.v (.string ⟨#[]⟩)), .d (.v (.bool false))] 47
noncomputable def ann42 := annOf [(2, ⟨[0, 2, 5], []⟩)]
noncomputable def L42 (s : ByteArray) (g m : Nat) (a l fr : Int) := LK Try.prog o42 ann42 1 g Try.f42 2 m ⟨frm [(0, .c (.ptr 0 0)), (2, .c (.ptr 1 0)), (5, vI fr)] 0 Try.f42.ntmps, HS s a l ++ [(1, B0)], 2⟩
set_option maxRecDepth 100000 in
theorem ev42 (s : ByteArray) (a l : Int) (g : Nat) : callA Try.prog o42 ann42 g Try.f42 (bodyOf Try.f42) [.c (.ptr 0 0)] (HS s a l) =
  L42 s g g a l a := by kernel_rfl
set_option maxRecDepth 100000 in
theorem st42 (s : ByteArray) (g m : Nat) (a l fr : Int) : L42 s g (m + 1) a l fr =
  (bif decide (a < (↑(ByteArray.size s) : Int))
  then (bif decide ((0 : Int) ≤ a) && decide (a < (↑(ByteArray.size s) : Int))
    then (bif plainR
  (IntKind.wrap IntKind.i32
    (↑(UInt8.toNat (List.getD (Array.toList (ByteArray.data s)) (Int.toNat a) (0 : UInt8))) : Int))
      then L42 s g m (IntKind.wrap IntKind.i64 (a + (1 : Int))) l fr
      else (bif decide (IntKind.wrap IntKind.i64 (a - fr) > (120 : Int))
        then some (T.leaf
  (AV.tup
      [(true,
          [C.d (D.v (Value.int IntKind.u8 (0 : Int))), C.d (D.v (Value.int IntKind.i64 (0 : Int))),
            C.d (D.v (Value.string (ByteArray.mk #[]))), C.d (D.v (Value.bool false))]),
        (false, [C.d (D.v (Value.int IntKind.i64 l))]), (false, [C.d (D.v (Value.int IntKind.i64 (4 : Int)))])],
    [((0 : Nat),
        Blk.cells [C.d (D.v (Value.string s)), C.d (D.v (Value.int IntKind.i64 a)), C.d (D.v (Value.int IntKind.i64 l))]
          ((40 : Nat)))]))
        else (bif decide (a < (↑(ByteArray.size s) : Int))
          then (bif decide ((0 : Int) ≤ a) && decide (a < (↑(ByteArray.size s) : Int))
            then (bif (↑(UInt8.toNat (List.getD (Array.toList (ByteArray.data s)) (Int.toNat a) (0 : UInt8))) : Int) ==
  (34 : Int)
              then some (T.leaf
  (AV.tup
      [(true,
          [C.d (D.v (Value.int IntKind.u8 (0 : Int))), C.d (D.v (Value.int IntKind.i64 (0 : Int))),
            C.d (D.v (Value.string (ByteArray.mk #[]))), C.d (D.v (Value.bool false))]),
        (false, [C.d (D.v (Value.int IntKind.i64 l))]), (false, [C.d (D.v (Value.int IntKind.i64 (6 : Int)))])],
    [((0 : Nat),
        Blk.cells [C.d (D.v (Value.string s)), C.d (D.v (Value.int IntKind.i64 a)), C.d (D.v (Value.int IntKind.i64 l))]
          ((40 : Nat)))]))
              else (bif decide ((0 : Int) ≤ fr) && decide (fr ≤ a) && decide (a ≤ (↑(ByteArray.size s) : Int))
                then some (T.leaf
  (AV.tup
      [(true,
          [C.d (D.v (Value.int IntKind.u8 (119 : Int))), C.d (D.v (Value.int IntKind.i64 l)),
            C.d (D.v (Value.string (ByteArray.extract s (Int.toNat fr) (Int.toNat a)))), C.d (D.v (Value.bool false))]),
        (false, [C.d (D.v (Value.int IntKind.i64 (0 : Int)))]), (false, [C.d (D.v (Value.int IntKind.i64 (0 : Int)))])],
    [((0 : Nat),
        Blk.cells [C.d (D.v (Value.string s)), C.d (D.v (Value.int IntKind.i64 a)), C.d (D.v (Value.int IntKind.i64 l))]
          ((40 : Nat)))]))
                else none))
            else none)
          else (bif decide ((0 : Int) ≤ fr) && decide (fr ≤ a) && decide (a ≤ (↑(ByteArray.size s) : Int))
            then some (T.leaf
  (AV.tup
      [(true,
          [C.d (D.v (Value.int IntKind.u8 (119 : Int))), C.d (D.v (Value.int IntKind.i64 l)),
            C.d (D.v (Value.string (ByteArray.extract s (Int.toNat fr) (Int.toNat a)))), C.d (D.v (Value.bool false))]),
        (false, [C.d (D.v (Value.int IntKind.i64 (0 : Int)))]), (false, [C.d (D.v (Value.int IntKind.i64 (0 : Int)))])],
    [((0 : Nat),
        Blk.cells [C.d (D.v (Value.string s)), C.d (D.v (Value.int IntKind.i64 a)), C.d (D.v (Value.int IntKind.i64 l))]
          ((40 : Nat)))]))
            else none))))
    else none)
  else (bif decide (IntKind.wrap IntKind.i64 (a - fr) > (120 : Int))
    then some (T.leaf
  (AV.tup
      [(true,
          [C.d (D.v (Value.int IntKind.u8 (0 : Int))), C.d (D.v (Value.int IntKind.i64 (0 : Int))),
            C.d (D.v (Value.string (ByteArray.mk #[]))), C.d (D.v (Value.bool false))]),
        (false, [C.d (D.v (Value.int IntKind.i64 l))]), (false, [C.d (D.v (Value.int IntKind.i64 (4 : Int)))])],
    [((0 : Nat),
        Blk.cells [C.d (D.v (Value.string s)), C.d (D.v (Value.int IntKind.i64 a)), C.d (D.v (Value.int IntKind.i64 l))]
          ((40 : Nat)))]))
    else (bif decide (a < (↑(ByteArray.size s) : Int))
      then (bif decide ((0 : Int) ≤ a) && decide (a < (↑(ByteArray.size s) : Int))
        then (bif (↑(UInt8.toNat (List.getD (Array.toList (ByteArray.data s)) (Int.toNat a) (0 : UInt8))) : Int) ==
  (34 : Int)
          then some (T.leaf
  (AV.tup
      [(true,
          [C.d (D.v (Value.int IntKind.u8 (0 : Int))), C.d (D.v (Value.int IntKind.i64 (0 : Int))),
            C.d (D.v (Value.string (ByteArray.mk #[]))), C.d (D.v (Value.bool false))]),
        (false, [C.d (D.v (Value.int IntKind.i64 l))]), (false, [C.d (D.v (Value.int IntKind.i64 (6 : Int)))])],
    [((0 : Nat),
        Blk.cells [C.d (D.v (Value.string s)), C.d (D.v (Value.int IntKind.i64 a)), C.d (D.v (Value.int IntKind.i64 l))]
          ((40 : Nat)))]))
          else (bif decide ((0 : Int) ≤ fr) && decide (fr ≤ a) && decide (a ≤ (↑(ByteArray.size s) : Int))
            then some (T.leaf
  (AV.tup
      [(true,
          [C.d (D.v (Value.int IntKind.u8 (119 : Int))), C.d (D.v (Value.int IntKind.i64 l)),
            C.d (D.v (Value.string (ByteArray.extract s (Int.toNat fr) (Int.toNat a)))), C.d (D.v (Value.bool false))]),
        (false, [C.d (D.v (Value.int IntKind.i64 (0 : Int)))]), (false, [C.d (D.v (Value.int IntKind.i64 (0 : Int)))])],
    [((0 : Nat),
        Blk.cells [C.d (D.v (Value.string s)), C.d (D.v (Value.int IntKind.i64 a)), C.d (D.v (Value.int IntKind.i64 l))]
          ((40 : Nat)))]))
            else none))
        else none)
      else (bif decide ((0 : Int) ≤ fr) && decide (fr ≤ a) && decide (a ≤ (↑(ByteArray.size s) : Int))
        then some (T.leaf
  (AV.tup
      [(true,
          [C.d (D.v (Value.int IntKind.u8 (119 : Int))), C.d (D.v (Value.int IntKind.i64 l)),
            C.d (D.v (Value.string (ByteArray.extract s (Int.toNat fr) (Int.toNat a)))), C.d (D.v (Value.bool false))]),
        (false, [C.d (D.v (Value.int IntKind.i64 (0 : Int)))]), (false, [C.d (D.v (Value.int IntKind.i64 (0 : Int)))])],
    [((0 : Nat),
        Blk.cells [C.d (D.v (Value.string s)), C.d (D.v (Value.int IntKind.i64 a)), C.d (D.v (Value.int IntKind.i64 l))]
          ((40 : Nat)))]))
        else none)))) := by kernel_rfl

noncomputable def ann41 := annOf [(3, ⟨[0, 2, 5], []⟩)]
noncomputable def L41 (s : ByteArray) (g m : Nat) (a l fr : Int) := LK Try.prog o42 ann41 1 g Try.f41 3 m ⟨frm [(0, .c (.ptr 0 0)), (2, .c (.ptr 1 0)), (5, vI fr)] 0 Try.f41.ntmps, HS s a l ++ [(1, B0)], 2⟩
set_option maxRecDepth 100000 in
theorem ev41 (s : ByteArray) (a l : Int) (g : Nat) : callA Try.prog o42 ann41 g Try.f41 (bodyOf Try.f41) [.c (.ptr 0 0)] (HS s a l) =
  L41 s g g (IntKind.wrap IntKind.i64 (a + (1 : Int))) l (IntKind.wrap IntKind.i64 (a + (1 : Int))) := by kernel_rfl
set_option maxRecDepth 100000 in
theorem st41 (s : ByteArray) (g m : Nat) (a l fr : Int) : L41 s g (m + 1) a l fr =
  (bif decide (a < (↑(ByteArray.size s) : Int))
  then (bif decide ((0 : Int) ≤ a) && decide (a < (↑(ByteArray.size s) : Int))
    then (bif (↑(UInt8.toNat (List.getD (Array.toList (ByteArray.data s)) (Int.toNat a) (0 : UInt8))) : Int) !=
  (34 : Int)
      then (bif decide ((0 : Int) ≤ a) && decide (a < (↑(ByteArray.size s) : Int))
        then (bif decide
  ((↑(UInt8.toNat (List.getD (Array.toList (ByteArray.data s)) (Int.toNat a) (0 : UInt8))) : Int) < (32 : Int))
          then some (T.leaf
  (AV.tup
      [(true,
          [C.d (D.v (Value.int IntKind.u8 (0 : Int))), C.d (D.v (Value.int IntKind.i64 (0 : Int))),
            C.d (D.v (Value.string (ByteArray.mk #[]))), C.d (D.v (Value.bool false))]),
        (false, [C.d (D.v (Value.int IntKind.i64 l))]), (false, [C.d (D.v (Value.int IntKind.i64 (5 : Int)))])],
    [((0 : Nat),
        Blk.cells [C.d (D.v (Value.string s)), C.d (D.v (Value.int IntKind.i64 a)), C.d (D.v (Value.int IntKind.i64 l))]
          ((40 : Nat)))]))
          else (bif decide ((0 : Int) ≤ a) && decide (a < (↑(ByteArray.size s) : Int))
            then (bif decide
  ((↑(UInt8.toNat (List.getD (Array.toList (ByteArray.data s)) (Int.toNat a) (0 : UInt8))) : Int) > (126 : Int))
              then some (T.leaf
  (AV.tup
      [(true,
          [C.d (D.v (Value.int IntKind.u8 (0 : Int))), C.d (D.v (Value.int IntKind.i64 (0 : Int))),
            C.d (D.v (Value.string (ByteArray.mk #[]))), C.d (D.v (Value.bool false))]),
        (false, [C.d (D.v (Value.int IntKind.i64 l))]), (false, [C.d (D.v (Value.int IntKind.i64 (5 : Int)))])],
    [((0 : Nat),
        Blk.cells [C.d (D.v (Value.string s)), C.d (D.v (Value.int IntKind.i64 a)), C.d (D.v (Value.int IntKind.i64 l))]
          ((40 : Nat)))]))
              else L41 s g m (IntKind.wrap IntKind.i64 (a + (1 : Int))) l fr)
            else none))
        else none)
      else (bif a == (↑(ByteArray.size s) : Int)
        then some (T.leaf
  (AV.tup
      [(true,
          [C.d (D.v (Value.int IntKind.u8 (0 : Int))), C.d (D.v (Value.int IntKind.i64 (0 : Int))),
            C.d (D.v (Value.string (ByteArray.mk #[]))), C.d (D.v (Value.bool false))]),
        (false, [C.d (D.v (Value.int IntKind.i64 l))]), (false, [C.d (D.v (Value.int IntKind.i64 (6 : Int)))])],
    [((0 : Nat),
        Blk.cells [C.d (D.v (Value.string s)), C.d (D.v (Value.int IntKind.i64 a)), C.d (D.v (Value.int IntKind.i64 l))]
          ((40 : Nat)))]))
        else (bif decide ((0 : Int) ≤ fr) && decide (fr ≤ a) && decide (a ≤ (↑(ByteArray.size s) : Int))
          then (bif decide ((↑(ByteArray.size (ByteArray.extract s (Int.toNat fr) (Int.toNat a))) : Int) > (120 : Int))
            then some (T.leaf
  (AV.tup
      [(true,
          [C.d (D.v (Value.int IntKind.u8 (0 : Int))), C.d (D.v (Value.int IntKind.i64 (0 : Int))),
            C.d (D.v (Value.string (ByteArray.mk #[]))), C.d (D.v (Value.bool false))]),
        (false, [C.d (D.v (Value.int IntKind.i64 l))]), (false, [C.d (D.v (Value.int IntKind.i64 (4 : Int)))])],
    [((0 : Nat),
        Blk.cells
          [C.d (D.v (Value.string s)), C.d (D.v (Value.int IntKind.i64 (IntKind.wrap IntKind.i64 (a + (1 : Int))))),
            C.d (D.v (Value.int IntKind.i64 l))]
          ((40 : Nat)))]))
            else (bif decide (IntKind.wrap IntKind.i64 (a + (1 : Int)) < (↑(ByteArray.size s) : Int))
              then (bif decide ((0 : Int) ≤ IntKind.wrap IntKind.i64 (a + (1 : Int))) &&
  decide (IntKind.wrap IntKind.i64 (a + (1 : Int)) < (↑(ByteArray.size s) : Int))
                then (bif (↑(UInt8.toNat
        (List.getD (Array.toList (ByteArray.data s)) (Int.toNat (IntKind.wrap IntKind.i64 (a + (1 : Int))))
          (0 : UInt8))) :
    Int) ==
  (34 : Int)
                  then some (T.leaf
  (AV.tup
      [(true,
          [C.d (D.v (Value.int IntKind.u8 (0 : Int))), C.d (D.v (Value.int IntKind.i64 (0 : Int))),
            C.d (D.v (Value.string (ByteArray.mk #[]))), C.d (D.v (Value.bool false))]),
        (false, [C.d (D.v (Value.int IntKind.i64 l))]), (false, [C.d (D.v (Value.int IntKind.i64 (6 : Int)))])],
    [((0 : Nat),
        Blk.cells
          [C.d (D.v (Value.string s)), C.d (D.v (Value.int IntKind.i64 (IntKind.wrap IntKind.i64 (a + (1 : Int))))),
            C.d (D.v (Value.int IntKind.i64 l))]
          ((40 : Nat)))]))
                  else (bif decide ((0 : Int) ≤ IntKind.wrap IntKind.i64 (a + (1 : Int))) &&
  decide (IntKind.wrap IntKind.i64 (a + (1 : Int)) < (↑(ByteArray.size s) : Int))
                    then (bif plainR
  (IntKind.wrap IntKind.i32
    (↑(UInt8.toNat
          (List.getD (Array.toList (ByteArray.data s)) (Int.toNat (IntKind.wrap IntKind.i64 (a + (1 : Int))))
            (0 : UInt8))) :
      Int))
                      then some (T.leaf
  (AV.tup
      [(true,
          [C.d (D.v (Value.int IntKind.u8 (0 : Int))), C.d (D.v (Value.int IntKind.i64 (0 : Int))),
            C.d (D.v (Value.string (ByteArray.mk #[]))), C.d (D.v (Value.bool false))]),
        (false, [C.d (D.v (Value.int IntKind.i64 l))]), (false, [C.d (D.v (Value.int IntKind.i64 (6 : Int)))])],
    [((0 : Nat),
        Blk.cells
          [C.d (D.v (Value.string s)), C.d (D.v (Value.int IntKind.i64 (IntKind.wrap IntKind.i64 (a + (1 : Int))))),
            C.d (D.v (Value.int IntKind.i64 l))]
          ((40 : Nat)))]))
                      else some (T.leaf
  (AV.tup
      [(true,
          [C.d (D.v (Value.int IntKind.u8 (119 : Int))), C.d (D.v (Value.int IntKind.i64 l)),
            C.d (D.v (Value.string (ByteArray.extract s (Int.toNat fr) (Int.toNat a)))), C.d (D.v (Value.bool true))]),
        (false, [C.d (D.v (Value.int IntKind.i64 (0 : Int)))]), (false, [C.d (D.v (Value.int IntKind.i64 (0 : Int)))])],
    [((0 : Nat),
        Blk.cells
          [C.d (D.v (Value.string s)), C.d (D.v (Value.int IntKind.i64 (IntKind.wrap IntKind.i64 (a + (1 : Int))))),
            C.d (D.v (Value.int IntKind.i64 l))]
          ((40 : Nat)))])))
                    else none))
                else none)
              else some (T.leaf
  (AV.tup
      [(true,
          [C.d (D.v (Value.int IntKind.u8 (119 : Int))), C.d (D.v (Value.int IntKind.i64 l)),
            C.d (D.v (Value.string (ByteArray.extract s (Int.toNat fr) (Int.toNat a)))), C.d (D.v (Value.bool true))]),
        (false, [C.d (D.v (Value.int IntKind.i64 (0 : Int)))]), (false, [C.d (D.v (Value.int IntKind.i64 (0 : Int)))])],
    [((0 : Nat),
        Blk.cells
          [C.d (D.v (Value.string s)), C.d (D.v (Value.int IntKind.i64 (IntKind.wrap IntKind.i64 (a + (1 : Int))))),
            C.d (D.v (Value.int IntKind.i64 l))]
          ((40 : Nat)))]))))
          else none)))
    else none)
  else (bif a == (↑(ByteArray.size s) : Int)
    then some (T.leaf
  (AV.tup
      [(true,
          [C.d (D.v (Value.int IntKind.u8 (0 : Int))), C.d (D.v (Value.int IntKind.i64 (0 : Int))),
            C.d (D.v (Value.string (ByteArray.mk #[]))), C.d (D.v (Value.bool false))]),
        (false, [C.d (D.v (Value.int IntKind.i64 l))]), (false, [C.d (D.v (Value.int IntKind.i64 (6 : Int)))])],
    [((0 : Nat),
        Blk.cells [C.d (D.v (Value.string s)), C.d (D.v (Value.int IntKind.i64 a)), C.d (D.v (Value.int IntKind.i64 l))]
          ((40 : Nat)))]))
    else (bif decide ((0 : Int) ≤ fr) && decide (fr ≤ a) && decide (a ≤ (↑(ByteArray.size s) : Int))
      then (bif decide ((↑(ByteArray.size (ByteArray.extract s (Int.toNat fr) (Int.toNat a))) : Int) > (120 : Int))
        then some (T.leaf
  (AV.tup
      [(true,
          [C.d (D.v (Value.int IntKind.u8 (0 : Int))), C.d (D.v (Value.int IntKind.i64 (0 : Int))),
            C.d (D.v (Value.string (ByteArray.mk #[]))), C.d (D.v (Value.bool false))]),
        (false, [C.d (D.v (Value.int IntKind.i64 l))]), (false, [C.d (D.v (Value.int IntKind.i64 (4 : Int)))])],
    [((0 : Nat),
        Blk.cells
          [C.d (D.v (Value.string s)), C.d (D.v (Value.int IntKind.i64 (IntKind.wrap IntKind.i64 (a + (1 : Int))))),
            C.d (D.v (Value.int IntKind.i64 l))]
          ((40 : Nat)))]))
        else (bif decide (IntKind.wrap IntKind.i64 (a + (1 : Int)) < (↑(ByteArray.size s) : Int))
          then (bif decide ((0 : Int) ≤ IntKind.wrap IntKind.i64 (a + (1 : Int))) &&
  decide (IntKind.wrap IntKind.i64 (a + (1 : Int)) < (↑(ByteArray.size s) : Int))
            then (bif (↑(UInt8.toNat
        (List.getD (Array.toList (ByteArray.data s)) (Int.toNat (IntKind.wrap IntKind.i64 (a + (1 : Int))))
          (0 : UInt8))) :
    Int) ==
  (34 : Int)
              then some (T.leaf
  (AV.tup
      [(true,
          [C.d (D.v (Value.int IntKind.u8 (0 : Int))), C.d (D.v (Value.int IntKind.i64 (0 : Int))),
            C.d (D.v (Value.string (ByteArray.mk #[]))), C.d (D.v (Value.bool false))]),
        (false, [C.d (D.v (Value.int IntKind.i64 l))]), (false, [C.d (D.v (Value.int IntKind.i64 (6 : Int)))])],
    [((0 : Nat),
        Blk.cells
          [C.d (D.v (Value.string s)), C.d (D.v (Value.int IntKind.i64 (IntKind.wrap IntKind.i64 (a + (1 : Int))))),
            C.d (D.v (Value.int IntKind.i64 l))]
          ((40 : Nat)))]))
              else (bif decide ((0 : Int) ≤ IntKind.wrap IntKind.i64 (a + (1 : Int))) &&
  decide (IntKind.wrap IntKind.i64 (a + (1 : Int)) < (↑(ByteArray.size s) : Int))
                then (bif plainR
  (IntKind.wrap IntKind.i32
    (↑(UInt8.toNat
          (List.getD (Array.toList (ByteArray.data s)) (Int.toNat (IntKind.wrap IntKind.i64 (a + (1 : Int))))
            (0 : UInt8))) :
      Int))
                  then some (T.leaf
  (AV.tup
      [(true,
          [C.d (D.v (Value.int IntKind.u8 (0 : Int))), C.d (D.v (Value.int IntKind.i64 (0 : Int))),
            C.d (D.v (Value.string (ByteArray.mk #[]))), C.d (D.v (Value.bool false))]),
        (false, [C.d (D.v (Value.int IntKind.i64 l))]), (false, [C.d (D.v (Value.int IntKind.i64 (6 : Int)))])],
    [((0 : Nat),
        Blk.cells
          [C.d (D.v (Value.string s)), C.d (D.v (Value.int IntKind.i64 (IntKind.wrap IntKind.i64 (a + (1 : Int))))),
            C.d (D.v (Value.int IntKind.i64 l))]
          ((40 : Nat)))]))
                  else some (T.leaf
  (AV.tup
      [(true,
          [C.d (D.v (Value.int IntKind.u8 (119 : Int))), C.d (D.v (Value.int IntKind.i64 l)),
            C.d (D.v (Value.string (ByteArray.extract s (Int.toNat fr) (Int.toNat a)))), C.d (D.v (Value.bool true))]),
        (false, [C.d (D.v (Value.int IntKind.i64 (0 : Int)))]), (false, [C.d (D.v (Value.int IntKind.i64 (0 : Int)))])],
    [((0 : Nat),
        Blk.cells
          [C.d (D.v (Value.string s)), C.d (D.v (Value.int IntKind.i64 (IntKind.wrap IntKind.i64 (a + (1 : Int))))),
            C.d (D.v (Value.int IntKind.i64 l))]
          ((40 : Nat)))])))
                else none))
            else none)
          else some (T.leaf
  (AV.tup
      [(true,
          [C.d (D.v (Value.int IntKind.u8 (119 : Int))), C.d (D.v (Value.int IntKind.i64 l)),
            C.d (D.v (Value.string (ByteArray.extract s (Int.toNat fr) (Int.toNat a)))), C.d (D.v (Value.bool true))]),
        (false, [C.d (D.v (Value.int IntKind.i64 (0 : Int)))]), (false, [C.d (D.v (Value.int IntKind.i64 (0 : Int)))])],
    [((0 : Nat),
        Blk.cells
          [C.d (D.v (Value.string s)), C.d (D.v (Value.int IntKind.i64 (IntKind.wrap IntKind.i64 (a + (1 : Int))))),
            C.d (D.v (Value.int IntKind.i64 l))]
          ((40 : Nat)))]))))
      else none))) := by kernel_rfl

/-- what a token looks like as a result -/
def tkKind : Tok → Int
  | .br c => q c
  | .wd _ _ => 119
  | _ => 0
def tkLn : Tok → Int → Int
  | .br _, l => l
  | .wd _ _, l => l
  | _, _ => 0
def tkTxt : Tok → ByteArray
  | .wd w _ => ⟨w.toArray⟩
  | _ => ⟨#[]⟩
def tkQ : Tok → Bool
  | .wd _ d => d
  | _ => false
def tkEl : Tok → Int → Int
  | .err _, l => l
  | _, _ => 0
def tkEr : Tok → Int
  | .err e => e
  | _ => 0
def tkC (t : Tok) (l : Int) : AV := .tup [(true, [.d (.v (.int .u8 (tkKind t))), .d (.v (.int .i64 (tkLn t l))), .d (.v (.string (tkTxt t))), .d (.v (.bool (tkQ t)))]), pI (tkEl t l), pI (tkEr t)]
/-- what a scanner's function answers -/
structure SK where
  c : ByteArray → Int → Int → Bool
  t : ByteArray → Int → Int → Tok
  a : ByteArray → Int → Int → Int
  l : ByteArray → Int → Int → Int
def ansSk (Z : SK) : (R : Type) → List AV → Hp → (AV → Hp → Option (T R)) → Option (T R) := fun _ args H k => match args, H with
  | [.c (.ptr 0 0)], [(0, .cells [.d (.v (.string s)), .d (.v (.int .i64 a)), .d (.v (.int .i64 l))] 40)] => bif Z.c s a l then k (.tup []) (HS s (Z.a s a l) (Z.l s a l)) else none
  | _, _ => none
def ansTk (Z : SK) : (R : Type) → List AV → Hp → (AV → Hp → Option (T R)) → Option (T R) := fun _ args H k => match args, H with
  | [.c (.ptr 0 0)], [(0, .cells [.d (.v (.string s)), .d (.v (.int .i64 a)), .d (.v (.int .i64 l))] 40)] => bif Z.c s a l then k (tkC (Z.t s a l) (Z.l s a l)) (HS s (Z.a s a l) (Z.l s a l)) else none
  | _, _ => none
noncomputable def o22 (S Q W : SK) : Orc := Orc.cons 40 (ansSk S) (Orc.cons 41 (ansTk Q) (Orc.cons 42 (ansTk W) (Orc.cons 29 (ansP dec32 fun r => vB (plainR r)) Orc.nil)))
set_option maxRecDepth 100000 in
theorem ev22 (S Q W : SK) (s : ByteArray) (a l : Int) : callA Try.prog (o22 S Q W) na 1 Try.f22 (bodyOf Try.f22) [.c (.ptr 0 0)] (HS s a l) =
  (bif SK.c S s a l
  then (bif SK.a S s a l == (↑(ByteArray.size s) : Int)
    then some (T.leaf
  (AV.tup
      [(true,
          [C.d (D.v (Value.int IntKind.u8 (0 : Int))), C.d (D.v (Value.int IntKind.i64 (0 : Int))),
            C.d (D.v (Value.string (ByteArray.mk #[]))), C.d (D.v (Value.bool false))]),
        (false, [C.d (D.v (Value.int IntKind.i64 (0 : Int)))]), (false, [C.d (D.v (Value.int IntKind.i64 (0 : Int)))])],
    [((0 : Nat),
        Blk.cells
          [C.d (D.v (Value.string s)), C.d (D.v (Value.int IntKind.i64 (SK.a S s a l))),
            C.d (D.v (Value.int IntKind.i64 (SK.l S s a l)))]
          ((40 : Nat)))]))
    else (bif decide ((0 : Int) ≤ SK.a S s a l) && decide (SK.a S s a l < (↑(ByteArray.size s) : Int))
      then (bif (↑(UInt8.toNat (List.getD (Array.toList (ByteArray.data s)) (Int.toNat (SK.a S s a l)) (0 : UInt8))) :
    Int) ==
  (123 : Int)
        then some (T.leaf
  (AV.tup
      [(true,
          [C.d
              (D.v
                (Value.int IntKind.u8
                  (↑(UInt8.toNat (List.getD (Array.toList (ByteArray.data s)) (Int.toNat (SK.a S s a l)) (0 : UInt8))) :
                    Int))),
            C.d (D.v (Value.int IntKind.i64 (SK.l S s a l))), C.d (D.v (Value.string (ByteArray.mk #[]))),
            C.d (D.v (Value.bool false))]),
        (false, [C.d (D.v (Value.int IntKind.i64 (0 : Int)))]), (false, [C.d (D.v (Value.int IntKind.i64 (0 : Int)))])],
    [((0 : Nat),
        Blk.cells
          [C.d (D.v (Value.string s)),
            C.d (D.v (Value.int IntKind.i64 (IntKind.wrap IntKind.i64 (SK.a S s a l + (1 : Int))))),
            C.d (D.v (Value.int IntKind.i64 (SK.l S s a l)))]
          ((40 : Nat)))]))
        else (bif (↑(UInt8.toNat (List.getD (Array.toList (ByteArray.data s)) (Int.toNat (SK.a S s a l)) (0 : UInt8))) :
    Int) ==
  (125 : Int)
          then some (T.leaf
  (AV.tup
      [(true,
          [C.d
              (D.v
                (Value.int IntKind.u8
                  (↑(UInt8.toNat (List.getD (Array.toList (ByteArray.data s)) (Int.toNat (SK.a S s a l)) (0 : UInt8))) :
                    Int))),
            C.d (D.v (Value.int IntKind.i64 (SK.l S s a l))), C.d (D.v (Value.string (ByteArray.mk #[]))),
            C.d (D.v (Value.bool false))]),
        (false, [C.d (D.v (Value.int IntKind.i64 (0 : Int)))]), (false, [C.d (D.v (Value.int IntKind.i64 (0 : Int)))])],
    [((0 : Nat),
        Blk.cells
          [C.d (D.v (Value.string s)),
            C.d (D.v (Value.int IntKind.i64 (IntKind.wrap IntKind.i64 (SK.a S s a l + (1 : Int))))),
            C.d (D.v (Value.int IntKind.i64 (SK.l S s a l)))]
          ((40 : Nat)))]))
          else (bif (↑(UInt8.toNat
        (List.getD (Array.toList (ByteArray.data s)) (Int.toNat (SK.a S s a l)) (0 : UInt8))) :
    Int) ==
  (59 : Int)
            then some (T.leaf
  (AV.tup
      [(true,
          [C.d
              (D.v
                (Value.int IntKind.u8
                  (↑(UInt8.toNat (List.getD (Array.toList (ByteArray.data s)) (Int.toNat (SK.a S s a l)) (0 : UInt8))) :
                    Int))),
            C.d (D.v (Value.int IntKind.i64 (SK.l S s a l))), C.d (D.v (Value.string (ByteArray.mk #[]))),
            C.d (D.v (Value.bool false))]),
        (false, [C.d (D.v (Value.int IntKind.i64 (0 : Int)))]), (false, [C.d (D.v (Value.int IntKind.i64 (0 : Int)))])],
    [((0 : Nat),
        Blk.cells
          [C.d (D.v (Value.string s)),
            C.d (D.v (Value.int IntKind.i64 (IntKind.wrap IntKind.i64 (SK.a S s a l + (1 : Int))))),
            C.d (D.v (Value.int IntKind.i64 (SK.l S s a l)))]
          ((40 : Nat)))]))
            else (bif (↑(UInt8.toNat
        (List.getD (Array.toList (ByteArray.data s)) (Int.toNat (SK.a S s a l)) (0 : UInt8))) :
    Int) ==
  (34 : Int)
              then (bif SK.c Q s (SK.a S s a l) (SK.l S s a l)
                then some (T.leaf
  (AV.tup
      [(true,
          [C.d (D.v (Value.int IntKind.u8 (tkKind (SK.t Q s (SK.a S s a l) (SK.l S s a l))))),
            C.d
              (D.v
                (Value.int IntKind.i64
                  (tkLn (SK.t Q s (SK.a S s a l) (SK.l S s a l)) (SK.l Q s (SK.a S s a l) (SK.l S s a l))))),
            C.d (D.v (Value.string (tkTxt (SK.t Q s (SK.a S s a l) (SK.l S s a l))))),
            C.d (D.v (Value.bool (tkQ (SK.t Q s (SK.a S s a l) (SK.l S s a l)))))]),
        (false,
          [C.d
              (D.v
                (Value.int IntKind.i64
                  (tkEl (SK.t Q s (SK.a S s a l) (SK.l S s a l)) (SK.l Q s (SK.a S s a l) (SK.l S s a l)))))]),
        (false, [C.d (D.v (Value.int IntKind.i64 (tkEr (SK.t Q s (SK.a S s a l) (SK.l S s a l)))))])],
    [((0 : Nat),
        Blk.cells
          [C.d (D.v (Value.string s)), C.d (D.v (Value.int IntKind.i64 (SK.a Q s (SK.a S s a l) (SK.l S s a l)))),
            C.d (D.v (Value.int IntKind.i64 (SK.l Q s (SK.a S s a l) (SK.l S s a l))))]
          ((40 : Nat)))]))
                else none)
              else (bif plainR
  (IntKind.wrap IntKind.i32
    (↑(UInt8.toNat (List.getD (Array.toList (ByteArray.data s)) (Int.toNat (SK.a S s a l)) (0 : UInt8))) : Int))
                then (bif SK.c W s (SK.a S s a l) (SK.l S s a l)
                  then some (T.leaf
  (AV.tup
      [(true,
          [C.d (D.v (Value.int IntKind.u8 (tkKind (SK.t W s (SK.a S s a l) (SK.l S s a l))))),
            C.d
              (D.v
                (Value.int IntKind.i64
                  (tkLn (SK.t W s (SK.a S s a l) (SK.l S s a l)) (SK.l W s (SK.a S s a l) (SK.l S s a l))))),
            C.d (D.v (Value.string (tkTxt (SK.t W s (SK.a S s a l) (SK.l S s a l))))),
            C.d (D.v (Value.bool (tkQ (SK.t W s (SK.a S s a l) (SK.l S s a l)))))]),
        (false,
          [C.d
              (D.v
                (Value.int IntKind.i64
                  (tkEl (SK.t W s (SK.a S s a l) (SK.l S s a l)) (SK.l W s (SK.a S s a l) (SK.l S s a l)))))]),
        (false, [C.d (D.v (Value.int IntKind.i64 (tkEr (SK.t W s (SK.a S s a l) (SK.l S s a l)))))])],
    [((0 : Nat),
        Blk.cells
          [C.d (D.v (Value.string s)), C.d (D.v (Value.int IntKind.i64 (SK.a W s (SK.a S s a l) (SK.l S s a l)))),
            C.d (D.v (Value.int IntKind.i64 (SK.l W s (SK.a S s a l) (SK.l S s a l))))]
          ((40 : Nat)))]))
                  else none)
                else some (T.leaf
  (AV.tup
      [(true,
          [C.d (D.v (Value.int IntKind.u8 (0 : Int))), C.d (D.v (Value.int IntKind.i64 (0 : Int))),
            C.d (D.v (Value.string (ByteArray.mk #[]))), C.d (D.v (Value.bool false))]),
        (false, [C.d (D.v (Value.int IntKind.i64 (SK.l S s a l)))]),
        (false, [C.d (D.v (Value.int IntKind.i64 (5 : Int)))])],
    [((0 : Nat),
        Blk.cells
          [C.d (D.v (Value.string s)), C.d (D.v (Value.int IntKind.i64 (SK.a S s a l))),
            C.d (D.v (Value.int IntKind.i64 (SK.l S s a l)))]
          ((40 : Nat)))])))))))
      else none))
  else none) := by kernel_rfl
end Go.Proofs.Ytkmmkdeoamhpfaa.ps
