/-
  The functions that SyntaxWords calls: what they compute. No condition.
-/
import Derived.Test.YtkmmkdeoamhpfaaEb
import Derived.Test.YtkmmkdeoamhpfaaProg
import Derived.KernelRfl
namespace Go.Proofs.Ytkmmkdeoamhpfaa.wd
open Go.RowKit Go.Eb

set_option maxRecDepth 100000 in
theorem ev46 (r : Int) : callA Try.prog Orc.nil na 1 Try.f46 (bodyOf Try.f46) [v32 r] [] =
  (bif decide (r ≥ (65 : Int))
  then (bif decide (r ≤ (90 : Int))
    then some (T.leaf (AV.c (C.d (D.v (Value.bool true))), []))
    else (bif decide (r ≥ (97 : Int))
      then some (T.leaf (AV.c (C.d (D.v (Value.bool (decide (r ≤ (122 : Int)))))), []))
      else some (T.leaf (AV.c (C.d (D.v (Value.bool false))), []))))
  else (bif decide (r ≥ (97 : Int))
    then some (T.leaf (AV.c (C.d (D.v (Value.bool (decide (r ≤ (122 : Int)))))), []))
    else some (T.leaf (AV.c (C.d (D.v (Value.bool false))), [])))) := by kernel_rfl
set_option maxRecDepth 100000 in
theorem ev47 (r : Int) : callA Try.prog Orc.nil na 1 Try.f47 (bodyOf Try.f47) [v8 r] [] =
  (bif decide (r ≥ (97 : Int))
  then (bif decide (r ≤ (122 : Int))
    then some (T.leaf (AV.c (C.d (D.v (Value.bool true))), []))
    else (bif decide (r ≥ (65 : Int))
      then some (T.leaf (AV.c (C.d (D.v (Value.bool (decide (r ≤ (90 : Int)))))), []))
      else some (T.leaf (AV.c (C.d (D.v (Value.bool false))), []))))
  else (bif decide (r ≥ (65 : Int))
    then some (T.leaf (AV.c (C.d (D.v (Value.bool (decide (r ≤ (90 : Int)))))), []))
    else some (T.leaf (AV.c (C.d (D.v (Value.bool false))), [])))) := by kernel_rfl
set_option maxRecDepth 100000 in
theorem ev28 (r : Int) : callA Try.prog Orc.nil na 1 Try.f28 (bodyOf Try.f28) [v8 r] [] =
  (bif decide (r ≥ (48 : Int))
  then some (T.leaf (AV.c (C.d (D.v (Value.bool (decide (r ≤ (57 : Int)))))), []))
  else some (T.leaf (AV.c (C.d (D.v (Value.bool false))), []))) := by kernel_rfl
def letter (r : Int) : Bool := (decide (65 ≤ r) && decide (r ≤ 90)) || (decide (97 ≤ r) && decide (r ≤ 122))
def digit (r : Int) : Bool := decide (48 ≤ r) && decide (r ≤ 57)
noncomputable def o29 : Orc := Orc.cons 46 (ansP dec32 fun r => vB (letter r)) Orc.nil
noncomputable def o30 : Orc := Orc.cons 47 (ansP dec8 fun r => vB (letter r)) (Orc.cons 28 (ansP dec8 fun r => vB (digit r)) Orc.nil)
set_option maxRecDepth 100000 in
theorem ev29 (r : Int) : callA Try.prog o29 na 1 Try.f29 (bodyOf Try.f29) [v32 r] [] =
  (bif letter r
  then (bif letter r
    then some (T.leaf (AV.c (C.d (D.v (Value.bool true))), []))
    else (bif r == (95 : Int)
      then (bif r == (95 : Int)
        then some (T.leaf (AV.c (C.d (D.v (Value.bool true))), []))
        else some (T.leaf (AV.c (C.d (D.v (Value.bool false))), [])))
      else (bif r == (45 : Int)
        then (bif r == (45 : Int)
          then some (T.leaf (AV.c (C.d (D.v (Value.bool true))), []))
          else some (T.leaf (AV.c (C.d (D.v (Value.bool false))), [])))
        else (bif r == (43 : Int)
          then (bif r == (43 : Int)
            then some (T.leaf (AV.c (C.d (D.v (Value.bool true))), []))
            else some (T.leaf (AV.c (C.d (D.v (Value.bool false))), [])))
          else (bif r == (46 : Int)
            then (bif r == (46 : Int)
              then some (T.leaf (AV.c (C.d (D.v (Value.bool true))), []))
              else some (T.leaf (AV.c (C.d (D.v (Value.bool false))), [])))
            else (bif r == (47 : Int)
              then (bif r == (47 : Int)
                then some (T.leaf (AV.c (C.d (D.v (Value.bool true))), []))
                else some (T.leaf (AV.c (C.d (D.v (Value.bool false))), [])))
              else (bif r == (58 : Int)
                then some (T.leaf (AV.c (C.d (D.v (Value.bool true))), []))
                else some (T.leaf (AV.c (C.d (D.v (Value.bool false))), [])))))))))
  else (bif decide (r ≥ (48 : Int))
    then (bif decide (r ≤ (57 : Int))
      then some (T.leaf (AV.c (C.d (D.v (Value.bool true))), []))
      else (bif r == (95 : Int)
        then (bif r == (95 : Int)
          then some (T.leaf (AV.c (C.d (D.v (Value.bool true))), []))
          else some (T.leaf (AV.c (C.d (D.v (Value.bool false))), [])))
        else (bif r == (45 : Int)
          then (bif r == (45 : Int)
            then some (T.leaf (AV.c (C.d (D.v (Value.bool true))), []))
            else some (T.leaf (AV.c (C.d (D.v (Value.bool false))), [])))
          else (bif r == (43 : Int)
            then (bif r == (43 : Int)
              then some (T.leaf (AV.c (C.d (D.v (Value.bool true))), []))
              else some (T.leaf (AV.c (C.d (D.v (Value.bool false))), [])))
            else (bif r == (46 : Int)
              then (bif r == (46 : Int)
                then some (T.leaf (AV.c (C.d (D.v (Value.bool true))), []))
                else some (T.leaf (AV.c (C.d (D.v (Value.bool false))), [])))
              else (bif r == (47 : Int)
                then (bif r == (47 : Int)
                  then some (T.leaf (AV.c (C.d (D.v (Value.bool true))), []))
                  else some (T.leaf (AV.c (C.d (D.v (Value.bool false))), [])))
                else (bif r == (58 : Int)
                  then some (T.leaf (AV.c (C.d (D.v (Value.bool true))), []))
                  else some (T.leaf (AV.c (C.d (D.v (Value.bool false))), [])))))))))
    else (bif r == (95 : Int)
      then (bif r == (95 : Int)
        then some (T.leaf (AV.c (C.d (D.v (Value.bool true))), []))
        else some (T.leaf (AV.c (C.d (D.v (Value.bool false))), [])))
      else (bif r == (45 : Int)
        then (bif r == (45 : Int)
          then some (T.leaf (AV.c (C.d (D.v (Value.bool true))), []))
          else some (T.leaf (AV.c (C.d (D.v (Value.bool false))), [])))
        else (bif r == (43 : Int)
          then (bif r == (43 : Int)
            then some (T.leaf (AV.c (C.d (D.v (Value.bool true))), []))
            else some (T.leaf (AV.c (C.d (D.v (Value.bool false))), [])))
          else (bif r == (46 : Int)
            then (bif r == (46 : Int)
              then some (T.leaf (AV.c (C.d (D.v (Value.bool true))), []))
              else some (T.leaf (AV.c (C.d (D.v (Value.bool false))), [])))
            else (bif r == (47 : Int)
              then (bif r == (47 : Int)
                then some (T.leaf (AV.c (C.d (D.v (Value.bool true))), []))
                else some (T.leaf (AV.c (C.d (D.v (Value.bool false))), [])))
              else (bif r == (58 : Int)
                then some (T.leaf (AV.c (C.d (D.v (Value.bool true))), []))
                else some (T.leaf (AV.c (C.d (D.v (Value.bool false))), [])))))))))) := by kernel_rfl
set_option maxRecDepth 100000 in
theorem ev30 (r : Int) : callA Try.prog o30 na 1 Try.f30 (bodyOf Try.f30) [v8 r] [] =
  (bif letter r
  then some (T.leaf (AV.c (C.d (D.v (Value.bool true))), []))
  else (bif digit r
    then some (T.leaf (AV.c (C.d (D.v (Value.bool true))), []))
    else (bif r == (95 : Int)
      then some (T.leaf (AV.c (C.d (D.v (Value.bool true))), []))
      else (bif r == (45 : Int)
        then some (T.leaf (AV.c (C.d (D.v (Value.bool true))), []))
        else (bif r == (43 : Int)
          then some (T.leaf (AV.c (C.d (D.v (Value.bool true))), []))
          else (bif r == (46 : Int)
            then some (T.leaf (AV.c (C.d (D.v (Value.bool true))), []))
            else (bif r == (47 : Int)
              then some (T.leaf (AV.c (C.d (D.v (Value.bool true))), []))
              else some (T.leaf (AV.c (C.d (D.v (Value.bool (r == (58 : Int))))), []))))))))) := by kernel_rfl
def plainR (r : Int) : Bool := letter r || digit r || r == 95 || r == 45 || r == 43 || r == 46 || r == 47 || r == 58

noncomputable def o14 : Orc := Orc.cons 30 (ansP dec8 fun r => vB (plainR r)) Orc.nil
noncomputable def ann14 := annOf [(2, ⟨[0, 3], []⟩)]
noncomputable def L14 (s : ByteArray) (g m : Nat) (i : Int) := loopK Try.prog o14 ann14 0 g (sub [true, false, true, false, false] (bodyOf Try.f14)) m ⟨frm [(0, vS s), (3, vI i)] 0 Try.f14.ntmps, [], 0⟩ (kAt Try.prog o14 ann14 0 g [true, false, true, false] (bodyOf Try.f14) (kEnd Try.prog Try.f14 0))
set_option maxRecDepth 100000 in
theorem ev14 (s : ByteArray) (g : Nat) : callA Try.prog o14 ann14 g Try.f14 (bodyOf Try.f14) [vS s] [] =
  L14 s g g ((0 : Int)) := by kernel_rfl
set_option maxRecDepth 100000 in
theorem st14 (s : ByteArray) (g m : Nat) (i : Int) : L14 s g (m + 1) i =
  (bif decide (i < (↑(ByteArray.size s) : Int))
  then (bif decide ((0 : Int) ≤ i) && decide (i < (↑(ByteArray.size s) : Int))
    then (bif !plainR (↑(UInt8.toNat (List.getD (Array.toList (ByteArray.data s)) (Int.toNat i) (0 : UInt8))) : Int)
      then some (T.leaf (AV.c (C.d (D.v (Value.bool false))), []))
      else L14 s g m (IntKind.wrap IntKind.i64 (i + (1 : Int))))
    else none)
  else some (T.leaf (AV.c (C.d (D.v (Value.bool !ByteArray.toList s == ByteArray.toList (ByteArray.mk #[])))), []))) := by kernel_rfl

noncomputable def o13 : Orc := Orc.cons 29 (ansP dec32 fun r => vB (plainR r)) Orc.nil
noncomputable def ann13 := annOf [(2, ⟨[0, 6], []⟩)]
noncomputable def L13 (s : ByteArray) (g m pos : Nat) := loopK Try.prog o13 ann13 0 g (sub [true, false, true, false, false] (bodyOf Try.f13)) m ⟨frm [(0, vS s), (6, .c (.ptr 0 0))] 0 Try.f13.ntmps, [(0, .iter s pos)], 1⟩ (kAt Try.prog o13 ann13 0 g [true, false, true, false] (bodyOf Try.f13) (kEnd Try.prog Try.f13 0))
set_option maxRecDepth 100000 in
theorem ev13 (s : ByteArray) (g : Nat) : callA Try.prog o13 ann13 g Try.f13 (bodyOf Try.f13) [vS s] [] =
  L13 s g g (0 : Nat) := by kernel_rfl
set_option maxRecDepth 100000 in
theorem st13 (s : ByteArray) (g m pos : Nat) : L13 s g (m + 1) pos =
  (bif Nat.blt pos (ByteArray.size s)
  then (bif !plainR (↑(Prod.fst (Utf8.decode s pos)) : Int)
    then some (T.leaf (AV.c (C.d (D.v (Value.bool false))), []))
    else L13 s g m (pos + Prod.snd (Utf8.decode s pos)))
  else some (T.leaf (AV.c (C.d (D.v (Value.bool !ByteArray.toList s == ByteArray.toList (ByteArray.mk #[])))), []))) := by kernel_rfl

set_option maxRecDepth 100000 in
theorem ev53 (s p : ByteArray) : callA Try.prog Orc.nil na 1 Try.f53 (bodyOf Try.f53) [vS s, vS p] [] =
  (bif decide ((↑(ByteArray.size s) : Int) ≥ (↑(ByteArray.size p) : Int))
  then (bif decide ((0 : Int) ≤ (↑(0 : Nat) : Int)) && decide ((↑(0 : Nat) : Int) ≤ (↑(ByteArray.size p) : Int)) &&
  decide ((↑(ByteArray.size p) : Int) ≤ (↑(ByteArray.size s) : Int))
    then some (T.leaf
  (AV.c
      (C.d
        (D.v
          (Value.bool
            (ByteArray.toList
                (ByteArray.extract s (Int.toNat (↑(0 : Nat) : Int)) (Int.toNat (↑(ByteArray.size p) : Int))) ==
              ByteArray.toList p)))),
    []))
    else none)
  else some (T.leaf (AV.c (C.d (D.v (Value.bool false))), []))) := by kernel_rfl
def hasP (s p : ByteArray) : Bool := decide (s.size ≥ p.size) && ((s.extract 0 p.size).toList == p.toList)
noncomputable def o45 : Orc := Orc.cons 53 (ansP decSS fun a => vB (hasP a.1 a.2)) Orc.nil
set_option maxRecDepth 100000 in
theorem ev45 (s p : ByteArray) : callA Try.prog o45 na 1 Try.f45 (bodyOf Try.f45) [vS s, vS p] [] =
  (bif !hasP s p
  then some (T.leaf (AV.tup [(false, [C.d (D.v (Value.string s))]), (false, [C.d (D.v (Value.bool false))])], []))
  else (bif decide ((0 : Int) ≤ (↑(ByteArray.size p) : Int)) &&
    decide ((↑(ByteArray.size p) : Int) ≤ (↑(ByteArray.size s) : Int)) &&
  decide ((↑(ByteArray.size s) : Int) ≤ (↑(ByteArray.size s) : Int))
    then some (T.leaf
  (AV.tup
      [(false,
          [C.d
              (D.v
                (Value.string
                  (ByteArray.extract s (Int.toNat (↑(ByteArray.size p) : Int))
                    (Int.toNat (↑(ByteArray.size s) : Int)))))]),
        (false, [C.d (D.v (Value.bool true))])],
    []))
    else none)) := by kernel_rfl
def cutP (s p : ByteArray) : ByteArray × Bool := bif hasP s p then (s.extract p.size s.size, true) else (s, false)
noncomputable def o27 : Orc := Orc.cons 45 (ansP decSS fun a => .tup [pS (cutP a.1 a.2).1, pB (cutP a.1 a.2).2]) Orc.nil
set_option maxRecDepth 100000 in
theorem ev27 (s p : ByteArray) : callA Try.prog o27 na 1 Try.f27 (bodyOf Try.f27) [vS s, vS p] [] =
  some (T.leaf
  (AV.tup
      [(false, [C.d (D.v (Value.string (Prod.fst (cutP s p))))]),
        (false, [C.d (D.v (Value.bool (Prod.snd (cutP s p))))])],
    [])) := by kernel_rfl

noncomputable def o11 : Orc := Orc.cons 27 (ansP decSS fun a => .tup [pS (cutP a.1 a.2).1, pB (cutP a.1 a.2).2]) Orc.nil
noncomputable def ann11 := annOf [(4, ⟨[4, 5, 6, 15], []⟩)]
noncomputable def L11 (d : ByteArray) (mi : Bool) (g m : Nat) (n : Int) (pos : Nat) := loopK Try.prog o11 ann11 0 g (sub [true, true, true, false, true, false, false] (bodyOf Try.f11)) m ⟨frm [(4, vS d), (5, vB mi), (6, vI n), (15, .c (.ptr 0 0))] 0 Try.f11.ntmps, [(0, .iter d pos)], 1⟩ (kAt Try.prog o11 ann11 0 g [true, true, true, false, true, false] (bodyOf Try.f11) (kEnd Try.prog Try.f11 0))
set_option maxRecDepth 100000 in
theorem ev11 (s : ByteArray) (g : Nat) : callA Try.prog o11 ann11 g Try.f11 (bodyOf Try.f11) [vS s] [] =
  L11 (Prod.fst
  (cutP s (ByteArray.mk #[(45 : UInt8)]))) (Prod.snd (cutP s (ByteArray.mk #[(45 : UInt8)]))) g g ((0 : Int)) (0 : Nat) := by kernel_rfl
set_option maxRecDepth 100000 in
theorem st11 (d : ByteArray) (mi : Bool) (g m : Nat) (n : Int) (pos : Nat) : L11 d mi g (m + 1) n pos =
  (bif Nat.blt pos (ByteArray.size d)
  then (bif decide ((↑(Prod.fst (Utf8.decode d pos)) : Int) < (48 : Int))
    then some (T.leaf
  (AV.tup [(false, [C.d (D.v (Value.int IntKind.i64 (0 : Int)))]), (false, [C.d (D.v (Value.bool false))])], []))
    else (bif decide ((↑(Prod.fst (Utf8.decode d pos)) : Int) > (57 : Int))
      then some (T.leaf
  (AV.tup [(false, [C.d (D.v (Value.int IntKind.i64 (0 : Int)))]), (false, [C.d (D.v (Value.bool false))])], []))
      else (bif decide ((↑(ByteArray.size d) : Int) > (7 : Int))
        then some (T.leaf
  (AV.tup [(false, [C.d (D.v (Value.int IntKind.i64 (0 : Int)))]), (false, [C.d (D.v (Value.bool false))])], []))
        else L11 d mi g m (IntKind.wrap IntKind.i64
  (IntKind.wrap IntKind.i64 ((10 : Int) * n) +
    IntKind.wrap IntKind.i64
      (IntKind.wrap IntKind.i32
        ((↑(Prod.fst (Utf8.decode d pos)) : Int) - (48 : Int))))) (pos + Prod.snd (Utf8.decode d pos)))))
  else (bif ByteArray.toList d == ByteArray.toList (ByteArray.mk #[])
    then some (T.leaf
  (AV.tup [(false, [C.d (D.v (Value.int IntKind.i64 (0 : Int)))]), (false, [C.d (D.v (Value.bool false))])], []))
    else (bif decide ((0 : Int) ≤ (0 : Int)) && decide ((0 : Int) < (↑(ByteArray.size d) : Int))
      then (bif (↑(UInt8.toNat (List.getD (Array.toList (ByteArray.data d)) (Int.toNat (0 : Int)) (0 : UInt8))) :
    Int) ==
  (48 : Int)
        then (bif decide ((↑(ByteArray.size d) : Int) > (1 : Int))
          then some (T.leaf
  (AV.tup [(false, [C.d (D.v (Value.int IntKind.i64 (0 : Int)))]), (false, [C.d (D.v (Value.bool false))])], []))
          else (bif mi
            then some (T.leaf
  (AV.tup [(false, [C.d (D.v (Value.int IntKind.i64 (0 : Int)))]), (false, [C.d (D.v (Value.bool false))])], []))
            else (bif mi
              then some (T.leaf
  (AV.tup
      [(false, [C.d (D.v (Value.int IntKind.i64 (IntKind.wrap IntKind.i64 ((0 : Int) - n))))]),
        (false, [C.d (D.v (Value.bool true))])],
    []))
              else some (T.leaf
  (AV.tup [(false, [C.d (D.v (Value.int IntKind.i64 n))]), (false, [C.d (D.v (Value.bool true))])], [])))))
        else (bif mi
          then some (T.leaf
  (AV.tup
      [(false, [C.d (D.v (Value.int IntKind.i64 (IntKind.wrap IntKind.i64 ((0 : Int) - n))))]),
        (false, [C.d (D.v (Value.bool true))])],
    []))
          else some (T.leaf
  (AV.tup [(false, [C.d (D.v (Value.int IntKind.i64 n))]), (false, [C.d (D.v (Value.bool true))])], []))))
      else none))) := by kernel_rfl

noncomputable def o12 : Orc := Orc.cons 28 (ansP dec8 fun r => vB (digit r)) Orc.nil
noncomputable def ann12 := annOf [(9, ⟨[4, 5, 6, 7], []⟩)]
noncomputable def L12 (d : ByteArray) (mi : Bool) (g m : Nat) (n i : Int) := loopK Try.prog o12 ann12 0 g (sub [true, true, true, true, true, true, false, true, false, false] (bodyOf Try.f12)) m ⟨frm [(4, vB mi), (5, vS d), (6, vI n), (7, vI i)] 0 Try.f12.ntmps, [], 0⟩ (kAt Try.prog o12 ann12 0 g [true, true, true, true, true, true, false, true, false] (bodyOf Try.f12) (kEnd Try.prog Try.f12 0))
set_option maxRecDepth 100000 in
theorem ev12 (s : ByteArray) (g : Nat) : callA Try.prog o12 ann12 g Try.f12 (bodyOf Try.f12) [vS s] [] =
  (bif decide ((↑(ByteArray.size s) : Int) > (1 : Int))
  then (bif decide ((0 : Int) ≤ (0 : Int)) && decide ((0 : Int) < (↑(ByteArray.size s) : Int))
    then (bif (↑(UInt8.toNat (List.getD (Array.toList (ByteArray.data s)) (Int.toNat (0 : Int)) (0 : UInt8))) : Int) ==
  (45 : Int)
      then (bif decide ((0 : Int) ≤ (1 : Int)) && decide ((1 : Int) ≤ (↑(ByteArray.size s) : Int)) &&
  decide ((↑(ByteArray.size s) : Int) ≤ (↑(ByteArray.size s) : Int))
        then (bif decide
  ((↑(ByteArray.size (ByteArray.extract s (Int.toNat (1 : Int)) (Int.toNat (↑(ByteArray.size s) : Int)))) : Int) <
    (1 : Int))
          then some (T.leaf
  (AV.tup [(false, [C.d (D.v (Value.int IntKind.i64 (0 : Int)))]), (false, [C.d (D.v (Value.bool false))])], []))
          else (bif decide
  ((↑(ByteArray.size (ByteArray.extract s (Int.toNat (1 : Int)) (Int.toNat (↑(ByteArray.size s) : Int)))) : Int) >
    (7 : Int))
            then some (T.leaf
  (AV.tup [(false, [C.d (D.v (Value.int IntKind.i64 (0 : Int)))]), (false, [C.d (D.v (Value.bool false))])], []))
            else (bif decide ((0 : Int) ≤ (0 : Int)) &&
  decide
    ((0 : Int) <
      (↑(ByteArray.size (ByteArray.extract s (Int.toNat (1 : Int)) (Int.toNat (↑(ByteArray.size s) : Int)))) : Int))
              then (bif (↑(UInt8.toNat
        (List.getD
          (Array.toList
            (ByteArray.data (ByteArray.extract s (Int.toNat (1 : Int)) (Int.toNat (↑(ByteArray.size s) : Int)))))
          (Int.toNat (0 : Int)) (0 : UInt8))) :
    Int) ==
  (48 : Int)
                then (bif decide
  ((↑(ByteArray.size (ByteArray.extract s (Int.toNat (1 : Int)) (Int.toNat (↑(ByteArray.size s) : Int)))) : Int) >
    (1 : Int))
                  then some (T.leaf
  (AV.tup [(false, [C.d (D.v (Value.int IntKind.i64 (0 : Int)))]), (false, [C.d (D.v (Value.bool false))])], []))
                  else (bif (↑(UInt8.toNat
        (List.getD (Array.toList (ByteArray.data s)) (Int.toNat (0 : Int)) (0 : UInt8))) :
    Int) ==
  (45 : Int)
                    then some (T.leaf
  (AV.tup [(false, [C.d (D.v (Value.int IntKind.i64 (0 : Int)))]), (false, [C.d (D.v (Value.bool false))])], []))
                    else L12 (ByteArray.extract s (Int.toNat (1 : Int))
  (Int.toNat
    (↑(ByteArray.size s) :
      Int))) ((↑(UInt8.toNat (List.getD (Array.toList (ByteArray.data s)) (Int.toNat (0 : Int)) (0 : UInt8))) : Int) ==
  (45 : Int)) g g ((0 : Int)) ((0 : Int))))
                else L12 (ByteArray.extract s (Int.toNat (1 : Int))
  (Int.toNat
    (↑(ByteArray.size s) :
      Int))) ((↑(UInt8.toNat (List.getD (Array.toList (ByteArray.data s)) (Int.toNat (0 : Int)) (0 : UInt8))) : Int) ==
  (45 : Int)) g g ((0 : Int)) ((0 : Int)))
              else none)))
        else none)
      else (bif decide ((↑(ByteArray.size s) : Int) < (1 : Int))
        then some (T.leaf
  (AV.tup [(false, [C.d (D.v (Value.int IntKind.i64 (0 : Int)))]), (false, [C.d (D.v (Value.bool false))])], []))
        else (bif decide ((↑(ByteArray.size s) : Int) > (7 : Int))
          then some (T.leaf
  (AV.tup [(false, [C.d (D.v (Value.int IntKind.i64 (0 : Int)))]), (false, [C.d (D.v (Value.bool false))])], []))
          else (bif decide ((0 : Int) ≤ (0 : Int)) && decide ((0 : Int) < (↑(ByteArray.size s) : Int))
            then (bif (↑(UInt8.toNat (List.getD (Array.toList (ByteArray.data s)) (Int.toNat (0 : Int)) (0 : UInt8))) :
    Int) ==
  (48 : Int)
              then (bif decide ((↑(ByteArray.size s) : Int) > (1 : Int))
                then some (T.leaf
  (AV.tup [(false, [C.d (D.v (Value.int IntKind.i64 (0 : Int)))]), (false, [C.d (D.v (Value.bool false))])], []))
                else (bif (↑(UInt8.toNat
        (List.getD (Array.toList (ByteArray.data s)) (Int.toNat (0 : Int)) (0 : UInt8))) :
    Int) ==
  (45 : Int)
                  then some (T.leaf
  (AV.tup [(false, [C.d (D.v (Value.int IntKind.i64 (0 : Int)))]), (false, [C.d (D.v (Value.bool false))])], []))
                  else L12 s ((↑(UInt8.toNat
        (List.getD (Array.toList (ByteArray.data s)) (Int.toNat (0 : Int)) (0 : UInt8))) :
    Int) ==
  (45 : Int)) g g ((0 : Int)) ((0 : Int))))
              else L12 s ((↑(UInt8.toNat
        (List.getD (Array.toList (ByteArray.data s)) (Int.toNat (0 : Int)) (0 : UInt8))) :
    Int) ==
  (45 : Int)) g g ((0 : Int)) ((0 : Int)))
            else none))))
    else none)
  else (bif decide ((↑(ByteArray.size s) : Int) < (1 : Int))
    then some (T.leaf
  (AV.tup [(false, [C.d (D.v (Value.int IntKind.i64 (0 : Int)))]), (false, [C.d (D.v (Value.bool false))])], []))
    else (bif decide ((↑(ByteArray.size s) : Int) > (7 : Int))
      then some (T.leaf
  (AV.tup [(false, [C.d (D.v (Value.int IntKind.i64 (0 : Int)))]), (false, [C.d (D.v (Value.bool false))])], []))
      else (bif decide ((0 : Int) ≤ (0 : Int)) && decide ((0 : Int) < (↑(ByteArray.size s) : Int))
        then (bif (↑(UInt8.toNat (List.getD (Array.toList (ByteArray.data s)) (Int.toNat (0 : Int)) (0 : UInt8))) :
    Int) ==
  (48 : Int)
          then (bif decide ((↑(ByteArray.size s) : Int) > (1 : Int))
            then some (T.leaf
  (AV.tup [(false, [C.d (D.v (Value.int IntKind.i64 (0 : Int)))]), (false, [C.d (D.v (Value.bool false))])], []))
            else L12 s false g g ((0 : Int)) ((0 : Int)))
          else L12 s false g g ((0 : Int)) ((0 : Int)))
        else none)))) := by kernel_rfl
set_option maxRecDepth 100000 in
theorem st12 (d : ByteArray) (mi : Bool) (g m : Nat) (n i : Int) : L12 d mi g (m + 1) n i =
  (bif decide (i < (↑(ByteArray.size d) : Int))
  then (bif decide ((0 : Int) ≤ i) && decide (i < (↑(ByteArray.size d) : Int))
    then (bif !digit (↑(UInt8.toNat (List.getD (Array.toList (ByteArray.data d)) (Int.toNat i) (0 : UInt8))) : Int)
      then some (T.leaf
  (AV.tup [(false, [C.d (D.v (Value.int IntKind.i64 (0 : Int)))]), (false, [C.d (D.v (Value.bool false))])], []))
      else (bif decide ((0 : Int) ≤ i) && decide (i < (↑(ByteArray.size d) : Int))
        then L12 d mi g m (IntKind.wrap IntKind.i64
  (IntKind.wrap IntKind.i64 ((10 : Int) * n) +
    IntKind.wrap IntKind.i64
      (IntKind.wrap IntKind.u8
        ((↑(UInt8.toNat (List.getD (Array.toList (ByteArray.data d)) (Int.toNat i) (0 : UInt8))) : Int) -
          (48 : Int))))) (IntKind.wrap IntKind.i64 (i + (1 : Int)))
        else none))
    else none)
  else (bif mi
    then some (T.leaf
  (AV.tup
      [(false, [C.d (D.v (Value.int IntKind.i64 (IntKind.wrap IntKind.i64 ((0 : Int) - n))))]),
        (false, [C.d (D.v (Value.bool true))])],
    []))
    else some (T.leaf
  (AV.tup [(false, [C.d (D.v (Value.int IntKind.i64 n))]), (false, [C.d (D.v (Value.bool true))])], [])))) := by kernel_rfl
end Go.Proofs.Ytkmmkdeoamhpfaa.wd
