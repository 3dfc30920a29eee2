/-
  Names, and equality of lists: what the functions compute. No condition.
-/
import Derived.Test.YthmapnolgdpkbaaZSt
import Derived.Test.YthmapnolgdpkbaaProg
import Derived.KernelRfl
namespace Go.Proofs.Ythmapnolgdpkbaa.st
open Go.RowKit Go.Eb

noncomputable def ann15 := annOf [(4, ⟨[0, 16, 17], []⟩)]
noncomputable def L15 (s : ByteArray) (g m : Nat) (i : Int) := LK Try.prog Orc.nil ann15 0 g Try.f15 4 m ⟨frm [(0, vS s), (16, vI s.size), (17, vI i)] 0 Try.f15.ntmps, [], 0⟩
set_option maxRecDepth 100000 in
theorem ev15 (s : ByteArray) (g : Nat) : callA Try.prog Orc.nil ann15 g Try.f15 (bodyOf Try.f15) [vS s] [] =
  (bif (↑(ByteArray.size s) : Int) == (0 : Int)
  then some (T.leaf (AV.c (C.d (D.v (Value.bool false))), []))
  else (bif decide ((↑(ByteArray.size s) : Int) > (12 : Int))
    then some (T.leaf (AV.c (C.d (D.v (Value.bool false))), []))
    else L15 s g g ((0 : Int)))) := by kernel_rfl
set_option maxRecDepth 100000 in
theorem st15 (s : ByteArray) (g m : Nat) (i : Int) : L15 s g (m + 1) i =
  (bif decide (i < (↑(ByteArray.size s) : Int))
  then (bif decide ((0 : Int) ≤ i) && decide (i < (↑(ByteArray.size s) : Int))
    then (bif decide
  ((↑(UInt8.toNat (List.getD (Array.toList (ByteArray.data s)) (Int.toNat i) (0 : UInt8))) : Int) ≥ (65 : Int))
      then (bif decide
  ((↑(UInt8.toNat (List.getD (Array.toList (ByteArray.data s)) (Int.toNat i) (0 : UInt8))) : Int) ≤ (90 : Int))
        then (bif decide
  ((↑(UInt8.toNat (List.getD (Array.toList (ByteArray.data s)) (Int.toNat i) (0 : UInt8))) : Int) ≥ (48 : Int))
          then (bif decide
  ((↑(UInt8.toNat (List.getD (Array.toList (ByteArray.data s)) (Int.toNat i) (0 : UInt8))) : Int) ≤ (57 : Int))
            then L15 s g m (IntKind.wrap IntKind.i64 (i + (1 : Int)))
            else L15 s g m (IntKind.wrap IntKind.i64 (i + (1 : Int))))
          else L15 s g m (IntKind.wrap IntKind.i64 (i + (1 : Int))))
        else (bif decide
  ((↑(UInt8.toNat (List.getD (Array.toList (ByteArray.data s)) (Int.toNat i) (0 : UInt8))) : Int) ≥ (97 : Int))
          then (bif decide
  ((↑(UInt8.toNat (List.getD (Array.toList (ByteArray.data s)) (Int.toNat i) (0 : UInt8))) : Int) ≥ (48 : Int))
            then (bif decide
  ((↑(UInt8.toNat (List.getD (Array.toList (ByteArray.data s)) (Int.toNat i) (0 : UInt8))) : Int) ≤ (57 : Int))
              then (bif !decide
    ((↑(UInt8.toNat (List.getD (Array.toList (ByteArray.data s)) (Int.toNat i) (0 : UInt8))) : Int) ≤ (122 : Int))
                then (bif i == (0 : Int)
                  then some (T.leaf (AV.c (C.d (D.v (Value.bool false))), []))
                  else L15 s g m (IntKind.wrap IntKind.i64 (i + (1 : Int))))
                else L15 s g m (IntKind.wrap IntKind.i64 (i + (1 : Int))))
              else (bif !decide
    ((↑(UInt8.toNat (List.getD (Array.toList (ByteArray.data s)) (Int.toNat i) (0 : UInt8))) : Int) ≤ (122 : Int))
                then (bif i == (0 : Int)
                  then some (T.leaf (AV.c (C.d (D.v (Value.bool false))), []))
                  else (bif !(↑(UInt8.toNat (List.getD (Array.toList (ByteArray.data s)) (Int.toNat i) (0 : UInt8))) :
      Int) ==
    (95 : Int)
                    then some (T.leaf (AV.c (C.d (D.v (Value.bool false))), []))
                    else L15 s g m (IntKind.wrap IntKind.i64 (i + (1 : Int)))))
                else L15 s g m (IntKind.wrap IntKind.i64 (i + (1 : Int)))))
            else (bif !decide
    ((↑(UInt8.toNat (List.getD (Array.toList (ByteArray.data s)) (Int.toNat i) (0 : UInt8))) : Int) ≤ (122 : Int))
              then (bif i == (0 : Int)
                then some (T.leaf (AV.c (C.d (D.v (Value.bool false))), []))
                else (bif !(↑(UInt8.toNat (List.getD (Array.toList (ByteArray.data s)) (Int.toNat i) (0 : UInt8))) :
      Int) ==
    (95 : Int)
                  then some (T.leaf (AV.c (C.d (D.v (Value.bool false))), []))
                  else L15 s g m (IntKind.wrap IntKind.i64 (i + (1 : Int)))))
              else L15 s g m (IntKind.wrap IntKind.i64 (i + (1 : Int)))))
          else (bif decide
  ((↑(UInt8.toNat (List.getD (Array.toList (ByteArray.data s)) (Int.toNat i) (0 : UInt8))) : Int) ≥ (48 : Int))
            then (bif decide
  ((↑(UInt8.toNat (List.getD (Array.toList (ByteArray.data s)) (Int.toNat i) (0 : UInt8))) : Int) ≤ (57 : Int))
              then (bif i == (0 : Int)
                then some (T.leaf (AV.c (C.d (D.v (Value.bool false))), []))
                else L15 s g m (IntKind.wrap IntKind.i64 (i + (1 : Int))))
              else (bif i == (0 : Int)
                then some (T.leaf (AV.c (C.d (D.v (Value.bool false))), []))
                else (bif !(↑(UInt8.toNat (List.getD (Array.toList (ByteArray.data s)) (Int.toNat i) (0 : UInt8))) :
      Int) ==
    (95 : Int)
                  then some (T.leaf (AV.c (C.d (D.v (Value.bool false))), []))
                  else L15 s g m (IntKind.wrap IntKind.i64 (i + (1 : Int))))))
            else (bif i == (0 : Int)
              then some (T.leaf (AV.c (C.d (D.v (Value.bool false))), []))
              else (bif !(↑(UInt8.toNat (List.getD (Array.toList (ByteArray.data s)) (Int.toNat i) (0 : UInt8))) :
      Int) ==
    (95 : Int)
                then some (T.leaf (AV.c (C.d (D.v (Value.bool false))), []))
                else L15 s g m (IntKind.wrap IntKind.i64 (i + (1 : Int))))))))
      else (bif decide
  ((↑(UInt8.toNat (List.getD (Array.toList (ByteArray.data s)) (Int.toNat i) (0 : UInt8))) : Int) ≥ (97 : Int))
        then (bif decide
  ((↑(UInt8.toNat (List.getD (Array.toList (ByteArray.data s)) (Int.toNat i) (0 : UInt8))) : Int) ≥ (48 : Int))
          then (bif decide
  ((↑(UInt8.toNat (List.getD (Array.toList (ByteArray.data s)) (Int.toNat i) (0 : UInt8))) : Int) ≤ (57 : Int))
            then (bif !decide
    ((↑(UInt8.toNat (List.getD (Array.toList (ByteArray.data s)) (Int.toNat i) (0 : UInt8))) : Int) ≤ (122 : Int))
              then (bif i == (0 : Int)
                then some (T.leaf (AV.c (C.d (D.v (Value.bool false))), []))
                else L15 s g m (IntKind.wrap IntKind.i64 (i + (1 : Int))))
              else L15 s g m (IntKind.wrap IntKind.i64 (i + (1 : Int))))
            else (bif !decide
    ((↑(UInt8.toNat (List.getD (Array.toList (ByteArray.data s)) (Int.toNat i) (0 : UInt8))) : Int) ≤ (122 : Int))
              then (bif i == (0 : Int)
                then some (T.leaf (AV.c (C.d (D.v (Value.bool false))), []))
                else (bif !(↑(UInt8.toNat (List.getD (Array.toList (ByteArray.data s)) (Int.toNat i) (0 : UInt8))) :
      Int) ==
    (95 : Int)
                  then some (T.leaf (AV.c (C.d (D.v (Value.bool false))), []))
                  else L15 s g m (IntKind.wrap IntKind.i64 (i + (1 : Int)))))
              else L15 s g m (IntKind.wrap IntKind.i64 (i + (1 : Int)))))
          else (bif !decide
    ((↑(UInt8.toNat (List.getD (Array.toList (ByteArray.data s)) (Int.toNat i) (0 : UInt8))) : Int) ≤ (122 : Int))
            then (bif i == (0 : Int)
              then some (T.leaf (AV.c (C.d (D.v (Value.bool false))), []))
              else (bif !(↑(UInt8.toNat (List.getD (Array.toList (ByteArray.data s)) (Int.toNat i) (0 : UInt8))) :
      Int) ==
    (95 : Int)
                then some (T.leaf (AV.c (C.d (D.v (Value.bool false))), []))
                else L15 s g m (IntKind.wrap IntKind.i64 (i + (1 : Int)))))
            else L15 s g m (IntKind.wrap IntKind.i64 (i + (1 : Int)))))
        else (bif decide
  ((↑(UInt8.toNat (List.getD (Array.toList (ByteArray.data s)) (Int.toNat i) (0 : UInt8))) : Int) ≥ (48 : Int))
          then (bif decide
  ((↑(UInt8.toNat (List.getD (Array.toList (ByteArray.data s)) (Int.toNat i) (0 : UInt8))) : Int) ≤ (57 : Int))
            then (bif i == (0 : Int)
              then some (T.leaf (AV.c (C.d (D.v (Value.bool false))), []))
              else L15 s g m (IntKind.wrap IntKind.i64 (i + (1 : Int))))
            else (bif i == (0 : Int)
              then some (T.leaf (AV.c (C.d (D.v (Value.bool false))), []))
              else (bif !(↑(UInt8.toNat (List.getD (Array.toList (ByteArray.data s)) (Int.toNat i) (0 : UInt8))) :
      Int) ==
    (95 : Int)
                then some (T.leaf (AV.c (C.d (D.v (Value.bool false))), []))
                else L15 s g m (IntKind.wrap IntKind.i64 (i + (1 : Int))))))
          else (bif i == (0 : Int)
            then some (T.leaf (AV.c (C.d (D.v (Value.bool false))), []))
            else (bif !(↑(UInt8.toNat (List.getD (Array.toList (ByteArray.data s)) (Int.toNat i) (0 : UInt8))) : Int) ==
    (95 : Int)
              then some (T.leaf (AV.c (C.d (D.v (Value.bool false))), []))
              else L15 s g m (IntKind.wrap IntKind.i64 (i + (1 : Int))))))))
    else none)
  else some (T.leaf (AV.c (C.d (D.v (Value.bool true))), []))) := by kernel_rfl
noncomputable def ann16 := annOf [(4, ⟨[0, 3], []⟩)]
noncomputable def L16 (s : ByteArray) (g m : Nat) (i : Int) := LK Try.prog Orc.nil ann16 0 g Try.f16 4 m ⟨frm [(0, vS s), (3, vI i)] 0 Try.f16.ntmps, [], 0⟩
set_option maxRecDepth 100000 in
theorem ev16 (s : ByteArray) (g : Nat) : callA Try.prog Orc.nil ann16 g Try.f16 (bodyOf Try.f16) [vS s] [] =
  (bif decide ((↑(ByteArray.size s) : Int) < (1 : Int))
  then some (T.leaf (AV.c (C.d (D.v (Value.bool false))), []))
  else (bif decide ((↑(ByteArray.size s) : Int) > (12 : Int))
    then some (T.leaf (AV.c (C.d (D.v (Value.bool false))), []))
    else L16 s g g ((0 : Int)))) := by kernel_rfl
set_option maxRecDepth 100000 in
theorem st16 (s : ByteArray) (g m : Nat) (i : Int) : L16 s g (m + 1) i =
  (bif decide (i < (↑(ByteArray.size s) : Int))
  then (bif decide ((0 : Int) ≤ i) && decide (i < (↑(ByteArray.size s) : Int))
    then (bif decide
  ((↑(UInt8.toNat (List.getD (Array.toList (ByteArray.data s)) (Int.toNat i) (0 : UInt8))) : Int) ≥ (97 : Int))
      then (bif decide
  ((↑(UInt8.toNat (List.getD (Array.toList (ByteArray.data s)) (Int.toNat i) (0 : UInt8))) : Int) ≤ (122 : Int))
        then L16 s g m (IntKind.wrap IntKind.i64 (i + (1 : Int)))
        else (bif decide
  ((↑(UInt8.toNat (List.getD (Array.toList (ByteArray.data s)) (Int.toNat i) (0 : UInt8))) : Int) ≥ (65 : Int))
          then (bif !decide
    ((↑(UInt8.toNat (List.getD (Array.toList (ByteArray.data s)) (Int.toNat i) (0 : UInt8))) : Int) ≤ (90 : Int))
            then (bif i == (0 : Int)
              then some (T.leaf (AV.c (C.d (D.v (Value.bool false))), []))
              else (bif decide
  ((↑(UInt8.toNat (List.getD (Array.toList (ByteArray.data s)) (Int.toNat i) (0 : UInt8))) : Int) < (48 : Int))
                then (bif (↑(UInt8.toNat (List.getD (Array.toList (ByteArray.data s)) (Int.toNat i) (0 : UInt8))) :
    Int) !=
  (95 : Int)
                  then some (T.leaf (AV.c (C.d (D.v (Value.bool false))), []))
                  else L16 s g m (IntKind.wrap IntKind.i64 (i + (1 : Int))))
                else (bif decide
  ((↑(UInt8.toNat (List.getD (Array.toList (ByteArray.data s)) (Int.toNat i) (0 : UInt8))) : Int) > (57 : Int))
                  then (bif (↑(UInt8.toNat (List.getD (Array.toList (ByteArray.data s)) (Int.toNat i) (0 : UInt8))) :
    Int) !=
  (95 : Int)
                    then some (T.leaf (AV.c (C.d (D.v (Value.bool false))), []))
                    else L16 s g m (IntKind.wrap IntKind.i64 (i + (1 : Int))))
                  else L16 s g m (IntKind.wrap IntKind.i64 (i + (1 : Int))))))
            else L16 s g m (IntKind.wrap IntKind.i64 (i + (1 : Int))))
          else (bif i == (0 : Int)
            then some (T.leaf (AV.c (C.d (D.v (Value.bool false))), []))
            else (bif decide
  ((↑(UInt8.toNat (List.getD (Array.toList (ByteArray.data s)) (Int.toNat i) (0 : UInt8))) : Int) < (48 : Int))
              then (bif (↑(UInt8.toNat (List.getD (Array.toList (ByteArray.data s)) (Int.toNat i) (0 : UInt8))) :
    Int) !=
  (95 : Int)
                then some (T.leaf (AV.c (C.d (D.v (Value.bool false))), []))
                else L16 s g m (IntKind.wrap IntKind.i64 (i + (1 : Int))))
              else (bif decide
  ((↑(UInt8.toNat (List.getD (Array.toList (ByteArray.data s)) (Int.toNat i) (0 : UInt8))) : Int) > (57 : Int))
                then (bif (↑(UInt8.toNat (List.getD (Array.toList (ByteArray.data s)) (Int.toNat i) (0 : UInt8))) :
    Int) !=
  (95 : Int)
                  then some (T.leaf (AV.c (C.d (D.v (Value.bool false))), []))
                  else L16 s g m (IntKind.wrap IntKind.i64 (i + (1 : Int))))
                else L16 s g m (IntKind.wrap IntKind.i64 (i + (1 : Int))))))))
      else (bif decide
  ((↑(UInt8.toNat (List.getD (Array.toList (ByteArray.data s)) (Int.toNat i) (0 : UInt8))) : Int) ≥ (65 : Int))
        then (bif !decide
    ((↑(UInt8.toNat (List.getD (Array.toList (ByteArray.data s)) (Int.toNat i) (0 : UInt8))) : Int) ≤ (90 : Int))
          then (bif i == (0 : Int)
            then some (T.leaf (AV.c (C.d (D.v (Value.bool false))), []))
            else (bif decide
  ((↑(UInt8.toNat (List.getD (Array.toList (ByteArray.data s)) (Int.toNat i) (0 : UInt8))) : Int) < (48 : Int))
              then (bif (↑(UInt8.toNat (List.getD (Array.toList (ByteArray.data s)) (Int.toNat i) (0 : UInt8))) :
    Int) !=
  (95 : Int)
                then some (T.leaf (AV.c (C.d (D.v (Value.bool false))), []))
                else L16 s g m (IntKind.wrap IntKind.i64 (i + (1 : Int))))
              else (bif decide
  ((↑(UInt8.toNat (List.getD (Array.toList (ByteArray.data s)) (Int.toNat i) (0 : UInt8))) : Int) > (57 : Int))
                then (bif (↑(UInt8.toNat (List.getD (Array.toList (ByteArray.data s)) (Int.toNat i) (0 : UInt8))) :
    Int) !=
  (95 : Int)
                  then some (T.leaf (AV.c (C.d (D.v (Value.bool false))), []))
                  else L16 s g m (IntKind.wrap IntKind.i64 (i + (1 : Int))))
                else L16 s g m (IntKind.wrap IntKind.i64 (i + (1 : Int))))))
          else L16 s g m (IntKind.wrap IntKind.i64 (i + (1 : Int))))
        else (bif i == (0 : Int)
          then some (T.leaf (AV.c (C.d (D.v (Value.bool false))), []))
          else (bif decide
  ((↑(UInt8.toNat (List.getD (Array.toList (ByteArray.data s)) (Int.toNat i) (0 : UInt8))) : Int) < (48 : Int))
            then (bif (↑(UInt8.toNat (List.getD (Array.toList (ByteArray.data s)) (Int.toNat i) (0 : UInt8))) : Int) !=
  (95 : Int)
              then some (T.leaf (AV.c (C.d (D.v (Value.bool false))), []))
              else L16 s g m (IntKind.wrap IntKind.i64 (i + (1 : Int))))
            else (bif decide
  ((↑(UInt8.toNat (List.getD (Array.toList (ByteArray.data s)) (Int.toNat i) (0 : UInt8))) : Int) > (57 : Int))
              then (bif (↑(UInt8.toNat (List.getD (Array.toList (ByteArray.data s)) (Int.toNat i) (0 : UInt8))) :
    Int) !=
  (95 : Int)
                then some (T.leaf (AV.c (C.d (D.v (Value.bool false))), []))
                else L16 s g m (IntKind.wrap IntKind.i64 (i + (1 : Int))))
              else L16 s g m (IntKind.wrap IntKind.i64 (i + (1 : Int))))))))
    else none)
  else some (T.leaf (AV.c (C.d (D.v (Value.bool true))), []))) := by kernel_rfl
noncomputable def ann46 := annOf [(2, ⟨[0, 1, 5], []⟩)]
noncomputable def L46 (l : List ByteArray) (s : ByteArray) (g m : Nat) (i : Int) := LK Try.prog Orc.nil ann46 0 g Try.f46 2 m ⟨frm [(0, .c (.d (busesD l))), (1, vS s), (5, vI i)] 0 Try.f46.ntmps, [], 0⟩
set_option maxRecDepth 100000 in
theorem ev46 (l : List ByteArray) (s : ByteArray) (g : Nat) : callA Try.prog Orc.nil ann46 g Try.f46 (bodyOf Try.f46) [.c (.d (busesD l)), vS s] [] =
  L46 l s g g ((0 : Int)) := by kernel_rfl
set_option maxRecDepth 100000 in
theorem st46 (l : List ByteArray) (s : ByteArray) (g m : Nat) (i : Int) : L46 l s g (m + 1) i =
  (bif decide (i < (↑(List.length l) : Int))
  then (bif decide ((0 : Int) ≤ i) && decide (i < (↑(List.length l) : Int))
    then (bif ByteArray.toList (List.getD l (Int.toNat i) e0) == ByteArray.toList s
      then some (T.leaf (AV.c (C.d (D.v (Value.int IntKind.i64 i))), []))
      else L46 l s g m (IntKind.wrap IntKind.i64 (i + (1 : Int))))
    else none)
  else some (T.leaf (AV.c (C.d (D.v (Value.int IntKind.i64 (-1 : Int)))), []))) := by kernel_rfl
noncomputable def ann34 := annOf [(4, ⟨[0, 1, 12, 13], []⟩)]
noncomputable def L34 (l r : List ByteArray) (g m : Nat) (i : Int) := LK Try.prog Orc.nil ann34 0 g Try.f34 4 m ⟨frm [(0, .c (.d (busesD l))), (1, .c (.d (busesD r))), (12, vI l.length), (13, vI i)] 0 Try.f34.ntmps, [], 0⟩
set_option maxRecDepth 100000 in
theorem ev34 (l r : List ByteArray) (g : Nat) : callA Try.prog Orc.nil ann34 g Try.f34 (bodyOf Try.f34) [.c (.d (busesD l)), .c (.d (busesD r))] [] =
  (bif (↑(List.length l) : Int) != (↑(List.length r) : Int)
  then some (T.leaf (AV.c (C.d (D.v (Value.bool false))), []))
  else L34 l r g g ((0 : Int))) := by kernel_rfl
set_option maxRecDepth 100000 in
theorem st34 (l r : List ByteArray) (g m : Nat) (i : Int) : L34 l r g (m + 1) i =
  (bif decide (i < (↑(List.length l) : Int))
  then (bif decide ((0 : Int) ≤ i) && decide (i < (↑(List.length l) : Int))
    then (bif decide ((0 : Int) ≤ i) && decide (i < (↑(List.length r) : Int))
      then (bif !ByteArray.toList (List.getD l (Int.toNat i) e0) == ByteArray.toList (List.getD r (Int.toNat i) e0)
        then some (T.leaf (AV.c (C.d (D.v (Value.bool false))), []))
        else L34 l r g m (IntKind.wrap IntKind.i64 (i + (1 : Int))))
      else none)
    else none)
  else some (T.leaf (AV.c (C.d (D.v (Value.bool true))), []))) := by kernel_rfl
noncomputable def L35 (l r : List SLine) (g m : Nat) (i : Int) := LK Try.prog Orc.nil ann34 0 g Try.f35 4 m ⟨frm [(0, .c (.d (linesD l))), (1, .c (.d (linesD r))), (12, vI l.length), (13, vI i)] 0 Try.f35.ntmps, [], 0⟩
set_option maxRecDepth 100000 in
theorem ev35 (l r : List SLine) (g : Nat) : callA Try.prog Orc.nil ann34 g Try.f35 (bodyOf Try.f35) [.c (.d (linesD l)), .c (.d (linesD r))] [] =
  (bif (↑(List.length l) : Int) != (↑(List.length r) : Int)
  then some (T.leaf (AV.c (C.d (D.v (Value.bool false))), []))
  else L35 l r g g ((0 : Int))) := by kernel_rfl
set_option maxRecDepth 100000 in
theorem st35 (l r : List SLine) (g m : Nat) (i : Int) : L35 l r g (m + 1) i =
  (bif decide (i < (↑(List.length l) : Int))
  then (bif decide ((0 : Int) ≤ i) && decide (i < (↑(List.length l) : Int))
    then (bif decide ((0 : Int) ≤ i) && decide (i < (↑(List.length r) : Int))
      then (bif !(ByteArray.toList (SLine.name (List.getD l (Int.toNat i) line0)) ==
      ByteArray.toList (SLine.name (List.getD r (Int.toNat i) line0)) &&
    (SLine.r1 (List.getD l (Int.toNat i) line0) == SLine.r1 (List.getD r (Int.toNat i) line0) &&
        (SLine.x1 (List.getD l (Int.toNat i) line0) == SLine.x1 (List.getD r (Int.toNat i) line0) && true) &&
      (SLine.r0 (List.getD l (Int.toNat i) line0) == SLine.r0 (List.getD r (Int.toNat i) line0) &&
          (SLine.x0 (List.getD l (Int.toNat i) line0) == SLine.x0 (List.getD r (Int.toNat i) line0) && true) &&
        true)))
        then some (T.leaf (AV.c (C.d (D.v (Value.bool false))), []))
        else L35 l r g m (IntKind.wrap IntKind.i64 (i + (1 : Int))))
      else none)
    else none)
  else some (T.leaf (AV.c (C.d (D.v (Value.bool true))), []))) := by kernel_rfl
noncomputable def L36 (l r : List SSrc) (g m : Nat) (i : Int) := LK Try.prog Orc.nil ann34 0 g Try.f36 4 m ⟨frm [(0, .c (.d (srcsD l))), (1, .c (.d (srcsD r))), (12, vI l.length), (13, vI i)] 0 Try.f36.ntmps, [], 0⟩
set_option maxRecDepth 100000 in
theorem ev36 (l r : List SSrc) (g : Nat) : callA Try.prog Orc.nil ann34 g Try.f36 (bodyOf Try.f36) [.c (.d (srcsD l)), .c (.d (srcsD r))] [] =
  (bif (↑(List.length l) : Int) != (↑(List.length r) : Int)
  then some (T.leaf (AV.c (C.d (D.v (Value.bool false))), []))
  else L36 l r g g ((0 : Int))) := by kernel_rfl
set_option maxRecDepth 100000 in
theorem st36 (l r : List SSrc) (g m : Nat) (i : Int) : L36 l r g (m + 1) i =
  (bif decide (i < (↑(List.length l) : Int))
  then (bif decide ((0 : Int) ≤ i) && decide (i < (↑(List.length l) : Int))
    then (bif decide ((0 : Int) ≤ i) && decide (i < (↑(List.length r) : Int))
      then (bif !(ByteArray.toList (SSrc.name (List.getD l (Int.toNat i) src0)) ==
      ByteArray.toList (SSrc.name (List.getD r (Int.toNat i) src0)) &&
    (SSrc.emf (List.getD l (Int.toNat i) src0) == SSrc.emf (List.getD r (Int.toNat i) src0) &&
      (SSrc.r1 (List.getD l (Int.toNat i) src0) == SSrc.r1 (List.getD r (Int.toNat i) src0) &&
          (SSrc.x1 (List.getD l (Int.toNat i) src0) == SSrc.x1 (List.getD r (Int.toNat i) src0) && true) &&
        (SSrc.r0 (List.getD l (Int.toNat i) src0) == SSrc.r0 (List.getD r (Int.toNat i) src0) &&
            (SSrc.x0 (List.getD l (Int.toNat i) src0) == SSrc.x0 (List.getD r (Int.toNat i) src0) && true) &&
          true))))
        then some (T.leaf (AV.c (C.d (D.v (Value.bool false))), []))
        else L36 l r g m (IntKind.wrap IntKind.i64 (i + (1 : Int))))
      else none)
    else none)
  else some (T.leaf (AV.c (C.d (D.v (Value.bool true))), []))) := by kernel_rfl
noncomputable def L56 (l r : List SLink) (g m : Nat) (i : Int) := LK Try.prog Orc.nil ann34 0 g Try.f56 4 m ⟨frm [(0, .c (.d (linksD l))), (1, .c (.d (linksD r))), (12, vI l.length), (13, vI i)] 0 Try.f56.ntmps, [], 0⟩
set_option maxRecDepth 100000 in
theorem ev56 (l r : List SLink) (g : Nat) : callA Try.prog Orc.nil ann34 g Try.f56 (bodyOf Try.f56) [.c (.d (linksD l)), .c (.d (linksD r))] [] =
  (bif (↑(List.length l) : Int) != (↑(List.length r) : Int)
  then some (T.leaf (AV.c (C.d (D.v (Value.bool false))), []))
  else L56 l r g g ((0 : Int))) := by kernel_rfl
set_option maxRecDepth 100000 in
theorem st56 (l r : List SLink) (g m : Nat) (i : Int) : L56 l r g (m + 1) i =
  (bif decide (i < (↑(List.length l) : Int))
  then (bif decide ((0 : Int) ≤ i) && decide (i < (↑(List.length l) : Int))
    then (bif decide ((0 : Int) ≤ i) && decide (i < (↑(List.length r) : Int))
      then (bif !(SLink.bus (List.getD l (Int.toNat i) link0) == SLink.bus (List.getD r (Int.toNat i) link0) &&
    (SLink.pos (List.getD l (Int.toNat i) link0) == SLink.pos (List.getD r (Int.toNat i) link0) && true))
        then some (T.leaf (AV.c (C.d (D.v (Value.bool false))), []))
        else L56 l r g m (IntKind.wrap IntKind.i64 (i + (1 : Int))))
      else none)
    else none)
  else some (T.leaf (AV.c (C.d (D.v (Value.bool true))), []))) := by kernel_rfl
noncomputable def ann7 := annOf [(4, ⟨[1, 3], []⟩)]
noncomputable def L7 (s : SSta) (g m : Nat) (i : Int) := LK Try.prog Orc.nil ann7 0 g Try.f7 4 m ⟨frm [(1, .c (.ptr 0 0)), (3, vI i)] 0 Try.f7.ntmps, [(0, .cells ((staC s).map .d) 27)], 1⟩
set_option maxRecDepth 100000 in
theorem ev7 (s : SSta) (g : Nat) : callA Try.prog Orc.nil ann7 g Try.f7 (bodyOf Try.f7) [aSta s] [] =
  (bif decide ((↑(List.length (SSta.buses s)) : Int) > (8 : Int))
  then some (T.leaf (AV.c (C.d (D.v (Value.bool true))), []))
  else (bif decide ((↑(List.length (SSta.lines s)) : Int) > (10 : Int))
    then some (T.leaf (AV.c (C.d (D.v (Value.bool true))), []))
    else (bif decide ((↑(List.length (SSta.srcs s)) : Int) > (8 : Int))
      then some (T.leaf (AV.c (C.d (D.v (Value.bool true))), []))
      else (bif decide ((↑(List.length (SSta.bays s)) : Int) > (20 : Int))
        then some (T.leaf (AV.c (C.d (D.v (Value.bool true))), []))
        else L7 s g g ((0 : Int)))))) := by kernel_rfl
set_option maxRecDepth 100000 in
theorem st7 (s : SSta) (g m : Nat) (i : Int) : L7 s g (m + 1) i =
  (bif decide (i < (↑(List.length (SSta.bays s)) : Int))
  then (bif decide ((0 : Int) ≤ i) && decide (i < (↑(List.length (SSta.bays s)) : Int))
    then (bif decide ((↑(List.length (SBay.links (List.getD (SSta.bays s) (Int.toNat i) bay0))) : Int) > (6 : Int))
      then some (T.leaf (AV.c (C.d (D.v (Value.bool true))), []))
      else L7 s g m (IntKind.wrap IntKind.i64 (i + (1 : Int))))
    else none)
  else some (T.leaf (AV.c (C.d (D.v (Value.bool false))), []))) := by kernel_rfl
end Go.Proofs.Ythmapnolgdpkbaa.st
