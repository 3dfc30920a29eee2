/-
  Count and Same, of the program and of the reference: what they compute. No condition.
-/
import Derived.Test.YtkmmkdeoamhpfaaZIt
import Derived.Test.YtkmmkdeoamhpfaaProg
import Derived.KernelRfl
namespace Go.Proofs.Ytkmmkdeoamhpfaa.ct
open Go.RowKit Go.Eb

/-- of two statements -/
noncomputable def ans2i (c : D → D → Bool) (g : Bool → Bool → D → D → D → D → AV) : (R : Type) → List AV → Hp → (AV → Hp → Option (T R)) → Option (T R) := fun _ args H k => match H, args with
  | [], [.agg [.d (.v (.int .i64 _)), .d w, .d (.v (.bool b)), .d ks], .agg [.d (.v (.int .i64 _)), .d w', .d (.v (.bool b')), .d ks']] => bif okW w && okW w' && okWs (theW w) && okWs (theW w') && c ks ks' then k (g b b' w w' ks ks') [] else none
  | _, _ => none

noncomputable def o9 (N : Nat) (cnt : List It → Int) : Orc := Orc.cons 9 (ans1 (fun x => okI x && okL (theI x) && decide (dep (theI x) < N)) fun x => vI (cnt (theI x))) Orc.nil
noncomputable def ann9 := annOf [(3, ⟨[3, 8, 9, 10], []⟩)]
noncomputable def L9 (N : Nat) (cnt : List It → Int) (l : List It) (g m : Nat) (n i : Int) := loopK Try.prog (o9 N cnt) ann9 0 g (sub [true, true, false, true, false, false] (bodyOf Try.f9)) m ⟨frm [(3, vI n), (8, aI l), (9, vI l.length), (10, vI i)] 0 Try.f9.ntmps, [], 0⟩ (kAt Try.prog (o9 N cnt) ann9 0 g [true, true, false, true, false] (bodyOf Try.f9) (kEnd Try.prog Try.f9 0))
set_option maxRecDepth 100000 in
theorem ev9 (N : Nat) (cnt : List It → Int) (l : List It) (g : Nat) : callA Try.prog (o9 N cnt) ann9 g Try.f9 (bodyOf Try.f9) [aI l] [] =
  L9 N cnt l g g ((↑(List.length l) : Int)) ((0 : Int)) := by kernel_rfl
set_option maxRecDepth 100000 in
theorem st9 (N : Nat) (cnt : List It → Int) (l : List It) (g m : Nat) (n i : Int) : L9 N cnt l g (m + 1) n i =
  (bif decide (i < (↑(List.length l) : Int))
  then (bif decide ((0 : Int) ≤ i) && decide (i < (↑(List.length l) : Int))
    then (bif okI (kidsD (List.getD l (Int.toNat i) i0)) && okL (theI (kidsD (List.getD l (Int.toNat i) i0))) &&
  decide (dep (theI (kidsD (List.getD l (Int.toNat i) i0))) < N)
      then L9 N cnt l g m (IntKind.wrap IntKind.i64
  (n + cnt (theI (kidsD (List.getD l (Int.toNat i) i0))))) (IntKind.wrap IntKind.i64 (i + (1 : Int)))
      else none)
    else none)
  else some (T.leaf (AV.c (C.d (D.v (Value.int IntKind.i64 n))), []))) := by kernel_rfl

noncomputable def o20 (N : Nat) (cnt : List It → Int) : Orc := Orc.cons 20 (ans1 (fun x => okI x && okL (theI x) && decide (dep (theI x) < N)) fun x => vI (cnt (theI x))) Orc.nil
noncomputable def ann20 := annOf [(3, ⟨[0, 3, 4], []⟩)]
noncomputable def L20 (N : Nat) (cnt : List It → Int) (l : List It) (g m : Nat) (n i : Int) := loopK Try.prog (o20 N cnt) ann20 0 g (sub [true, true, false, true, false, false] (bodyOf Try.f20)) m ⟨frm [(0, aI l), (3, vI n), (4, vI i)] 0 Try.f20.ntmps, [], 0⟩ (kAt Try.prog (o20 N cnt) ann20 0 g [true, true, false, true, false] (bodyOf Try.f20) (kEnd Try.prog Try.f20 0))
set_option maxRecDepth 100000 in
theorem ev20 (N : Nat) (cnt : List It → Int) (l : List It) (g : Nat) : callA Try.prog (o20 N cnt) ann20 g Try.f20 (bodyOf Try.f20) [aI l] [] =
  L20 N cnt l g g ((↑(List.length l) : Int)) ((0 : Int)) := by kernel_rfl
set_option maxRecDepth 100000 in
theorem st20 (N : Nat) (cnt : List It → Int) (l : List It) (g m : Nat) (n i : Int) : L20 N cnt l g (m + 1) n i =
  (bif decide (i < (↑(List.length l) : Int))
  then (bif decide ((0 : Int) ≤ i) && decide (i < (↑(List.length l) : Int))
    then (bif okI (kidsD (List.getD l (Int.toNat i) i0)) && okL (theI (kidsD (List.getD l (Int.toNat i) i0))) &&
  decide (dep (theI (kidsD (List.getD l (Int.toNat i) i0))) < N)
      then L20 N cnt l g m (IntKind.wrap IntKind.i64
  (n + cnt (theI (kidsD (List.getD l (Int.toNat i) i0))))) (IntKind.wrap IntKind.i64 (i + (1 : Int)))
      else none)
    else none)
  else some (T.leaf (AV.c (C.d (D.v (Value.int IntKind.i64 n))), []))) := by kernel_rfl

noncomputable def ann26 := annOf [(4, ⟨[0, 1, 12, 13], []⟩)]
noncomputable def L26 (l l' : List Wd) (g m : Nat) (i : Int) := loopK Try.prog Orc.nil ann26 0 g (sub [true, true, false, true, false, false] (bodyOf Try.f26)) m ⟨frm [(0, aW l), (1, aW l'), (12, vI l.length), (13, vI i)] 0 Try.f26.ntmps, [], 0⟩ (kAt Try.prog Orc.nil ann26 0 g [true, true, false, true, false] (bodyOf Try.f26) (kEnd Try.prog Try.f26 0))
set_option maxRecDepth 100000 in
theorem ev26 (l l' : List Wd) (g : Nat) : callA Try.prog Orc.nil ann26 g Try.f26 (bodyOf Try.f26) [aW l, aW l'] [] =
  (bif (↑(List.length l) : Int) != (↑(List.length l') : Int)
  then some (T.leaf (AV.c (C.d (D.v (Value.bool false))), []))
  else L26 l l' g g ((0 : Int))) := by kernel_rfl
set_option maxRecDepth 100000 in
theorem st26 (l l' : List Wd) (g m : Nat) (i : Int) : L26 l l' g (m + 1) i =
  (bif decide (i < (↑(List.length l) : Int))
  then (bif decide ((0 : Int) ≤ i) && decide (i < (↑(List.length l) : Int))
    then (bif decide ((0 : Int) ≤ i) && decide (i < (↑(List.length l') : Int))
      then (bif !(ByteArray.toList (Wd.text (List.getD l (Int.toNat i) w0)) ==
      ByteArray.toList (Wd.text (List.getD l' (Int.toNat i) w0)) &&
    (Wd.q (List.getD l (Int.toNat i) w0) == Wd.q (List.getD l' (Int.toNat i) w0) && true))
        then some (T.leaf (AV.c (C.d (D.v (Value.bool false))), []))
        else L26 l l' g m (IntKind.wrap IntKind.i64 (i + (1 : Int))))
      else none)
    else none)
  else some (T.leaf (AV.c (C.d (D.v (Value.bool true))), []))) := by kernel_rfl

noncomputable def o25 (N : Nat) (eqw : List Wd → List Wd → Bool) (sm : List It → List It → Bool) : Orc := Orc.cons 26 (ans2 (fun x y => okW x && okW y && okWs (theW x) && okWs (theW y)) fun x y => vB (eqw (theW x) (theW y))) (Orc.cons 10 (ans2 (fun x y => okI x && okI y && okL (theI x) && okL (theI y) && decide (dep (theI x) < N)) fun x y => vB (sm (theI x) (theI y))) Orc.nil)
set_option maxRecDepth 100000 in
theorem ev25 (N : Nat) (eqw : List Wd → List Wd → Bool) (sm : List It → List It → Bool) (x y : It) : callA Try.prog (o25 N eqw sm) na 1 Try.f25 (bodyOf Try.f25) [aT x, aT y] [] =
  (bif It.block x == It.block y
  then (bif okW (wordsD (It.words x)) && okW (wordsD (It.words y)) && okWs (theW (wordsD (It.words x))) &&
  okWs (theW (wordsD (It.words y)))
    then (bif eqw (theW (wordsD (It.words x))) (theW (wordsD (It.words y)))
      then (bif okI (kidsD x) && okI (kidsD y) && okL (theI (kidsD x)) && okL (theI (kidsD y)) &&
  decide (dep (theI (kidsD x)) < N)
        then some (T.leaf (AV.c (C.d (D.v (Value.bool (sm (theI (kidsD x)) (theI (kidsD y)))))), []))
        else none)
      else some (T.leaf (AV.c (C.d (D.v (Value.bool false))), [])))
    else none)
  else some (T.leaf (AV.c (C.d (D.v (Value.bool false))), []))) := by kernel_rfl

abbrev fn25 : AV := .c (.d (.v (.func (.func 25) #[] #[])))
noncomputable def o24 (sm1 : Bool → Bool → D → D → D → D → Bool) (c : D → D → Bool) : Orc := Orc.cons 25 (ans2i c fun b b' w w' ks ks' => vB (sm1 b b' w w' ks ks')) Orc.nil
noncomputable def ann24 := annOf [(4, ⟨[1, 2, 15, 16, 17], []⟩)]
noncomputable def L24 (sm1 : Bool → Bool → D → D → D → D → Bool) (c : D → D → Bool) (l l' : List It) (g m : Nat) (i : Int) := loopK Try.prog (o24 sm1 c) ann24 0 g (sub [true, true, false, true, false, false] (bodyOf Try.f24)) m ⟨frm [(1, aI l'), (2, fn25), (15, aI l), (16, vI l.length), (17, vI i)] 0 Try.f24.ntmps, [], 0⟩ (kAt Try.prog (o24 sm1 c) ann24 0 g [true, true, false, true, false] (bodyOf Try.f24) (kEnd Try.prog Try.f24 0))
set_option maxRecDepth 100000 in
theorem ev24 (sm1 : Bool → Bool → D → D → D → D → Bool) (c : D → D → Bool) (l l' : List It) (g : Nat) : callA Try.prog (o24 sm1 c) ann24 g Try.f24 (bodyOf Try.f24) [aI l, aI l', fn25] [] =
  (bif (↑(List.length l) : Int) != (↑(List.length l') : Int)
  then some (T.leaf (AV.c (C.d (D.v (Value.bool false))), []))
  else L24 sm1 c l l' g g ((0 : Int))) := by kernel_rfl
set_option maxRecDepth 100000 in
theorem st24 (sm1 : Bool → Bool → D → D → D → D → Bool) (c : D → D → Bool) (l l' : List It) (g m : Nat) (i : Int) : L24 sm1 c l l' g (m + 1) i =
  (bif decide (i < (↑(List.length l) : Int))
  then (bif decide ((0 : Int) ≤ i) && decide (i < (↑(List.length l) : Int))
    then (bif decide ((0 : Int) ≤ i) && decide (i < (↑(List.length l') : Int))
      then (bif okW (wordsD (It.words (List.getD l (Int.toNat i) i0))) &&
        okW (wordsD (It.words (List.getD l' (Int.toNat i) i0))) &&
      okWs (theW (wordsD (It.words (List.getD l (Int.toNat i) i0)))) &&
    okWs (theW (wordsD (It.words (List.getD l' (Int.toNat i) i0)))) &&
  c (kidsD (List.getD l (Int.toNat i) i0)) (kidsD (List.getD l' (Int.toNat i) i0))
        then (bif !sm1 (It.block (List.getD l (Int.toNat i) i0)) (It.block (List.getD l' (Int.toNat i) i0))
    (wordsD (It.words (List.getD l (Int.toNat i) i0))) (wordsD (It.words (List.getD l' (Int.toNat i) i0)))
    (kidsD (List.getD l (Int.toNat i) i0)) (kidsD (List.getD l' (Int.toNat i) i0))
          then some (T.leaf (AV.c (C.d (D.v (Value.bool false))), []))
          else L24 sm1 c l l' g m (IntKind.wrap IntKind.i64 (i + (1 : Int))))
        else none)
      else none)
    else none)
  else some (T.leaf (AV.c (C.d (D.v (Value.bool true))), []))) := by kernel_rfl

noncomputable def o10 (sm : List It → List It → Bool) (N : Nat) : Orc := Orc.cons 24 (ans2f 25 (fun x y => okI x && okI y && okL (theI x) && okL (theI y) && decide (dep (theI x) ≤ N)) fun x y => vB (sm (theI x) (theI y))) Orc.nil
set_option maxRecDepth 100000 in
theorem ev10 (sm : List It → List It → Bool) (N : Nat) (l l' : List It) : callA Try.prog (o10 sm N) na 1 Try.f10 (bodyOf Try.f10) [aI l, aI l'] [] =
  (bif okI (itemsD l) && okI (itemsD l') && okL (theI (itemsD l)) && okL (theI (itemsD l')) &&
  decide (dep (theI (itemsD l)) ≤ N)
  then some (T.leaf (AV.c (C.d (D.v (Value.bool (sm (theI (itemsD l)) (theI (itemsD l')))))), []))
  else none) := by kernel_rfl

noncomputable def o21 (N : Nat) (sm : List It → List It → Bool) : Orc := Orc.cons 21 (ans2 (fun x y => okI x && okI y && okL (theI x) && okL (theI y) && decide (dep (theI x) < N)) fun x y => vB (sm (theI x) (theI y))) Orc.nil
noncomputable def ann21 := annOf [(4, ⟨[0, 1, 5], []⟩), (9, ⟨[0, 1, 5, 6], []⟩)]
noncomputable def L21 (N : Nat) (sm : List It → List It → Bool) (l l' : List It) (g m : Nat) (i : Int) := loopK Try.prog (o21 N sm) ann21 0 g (sub [true, true, false, true, false, false] (bodyOf Try.f21)) m ⟨frm [(0, aI l), (1, aI l'), (5, vI i)] 0 Try.f21.ntmps, [], 0⟩ (kAt Try.prog (o21 N sm) ann21 0 g [true, true, false, true, false] (bodyOf Try.f21) (kEnd Try.prog Try.f21 0))
/-- the inner loop: m0 rounds of the outer one are left -/
noncomputable def J21 (N : Nat) (sm : List It → List It → Bool) (l l' : List It) (g m : Nat) (i : Int) (m1 : Nat) (k : Int) := loopK Try.prog (o21 N sm) ann21 0 g (sub [true, true, false, true, false, false, true, false, false, true, true, false, false] (bodyOf Try.f21)) m1 ⟨frm [(0, aI l), (1, aI l'), (5, vI i), (6, vI k)] 0 Try.f21.ntmps, [], 0⟩ (kAt Try.prog (o21 N sm) ann21 0 g [true, false, false, true, true, false] (sub [true, true, false, true, false, false] (bodyOf Try.f21)) (kIter Try.prog (o21 N sm) ann21 0 g (sub [true, true, false, true, false, false] (bodyOf Try.f21)) m (kAt Try.prog (o21 N sm) ann21 0 g [true, true, false, true, false] (bodyOf Try.f21) (kEnd Try.prog Try.f21 0))))
set_option maxRecDepth 100000 in
theorem ev21 (N : Nat) (sm : List It → List It → Bool) (l l' : List It) (g : Nat) : callA Try.prog (o21 N sm) ann21 g Try.f21 (bodyOf Try.f21) [aI l, aI l'] [] =
  (bif (↑(List.length l) : Int) != (↑(List.length l') : Int)
  then some (T.leaf (AV.c (C.d (D.v (Value.bool false))), []))
  else L21 N sm l l' g g ((0 : Int))) := by kernel_rfl
set_option maxRecDepth 100000 in
theorem st21 (N : Nat) (sm : List It → List It → Bool) (l l' : List It) (g m : Nat) (i : Int) : L21 N sm l l' g (m + 1) i =
  (bif decide (i < (↑(List.length l) : Int))
  then (bif decide ((0 : Int) ≤ i) && decide (i < (↑(List.length l) : Int))
    then (bif decide ((0 : Int) ≤ i) && decide (i < (↑(List.length l') : Int))
      then (bif !It.block (List.getD l (Int.toNat i) i0) == It.block (List.getD l' (Int.toNat i) i0)
        then some (T.leaf (AV.c (C.d (D.v (Value.bool false))), []))
        else (bif decide ((0 : Int) ≤ i) && decide (i < (↑(List.length l) : Int))
          then (bif decide ((0 : Int) ≤ i) && decide (i < (↑(List.length l') : Int))
            then (bif (↑(List.length (It.words (List.getD l (Int.toNat i) i0))) : Int) !=
  (↑(List.length (It.words (List.getD l' (Int.toNat i) i0))) : Int)
              then some (T.leaf (AV.c (C.d (D.v (Value.bool false))), []))
              else (bif decide ((0 : Int) ≤ i) && decide (i < (↑(List.length l) : Int))
                then (bif decide ((0 : Int) ≤ i) && decide (i < (↑(List.length l') : Int))
                  then (bif okI (kidsD (List.getD l (Int.toNat i) i0)) && okI (kidsD (List.getD l' (Int.toNat i) i0)) &&
      okL (theI (kidsD (List.getD l (Int.toNat i) i0))) &&
    okL (theI (kidsD (List.getD l' (Int.toNat i) i0))) &&
  decide (dep (theI (kidsD (List.getD l (Int.toNat i) i0))) < N)
                    then (bif !sm (theI (kidsD (List.getD l (Int.toNat i) i0)))
    (theI (kidsD (List.getD l' (Int.toNat i) i0)))
                      then some (T.leaf (AV.c (C.d (D.v (Value.bool false))), []))
                      else J21 N sm l l' g m i g ((0 : Int)))
                    else none)
                  else none)
                else none))
            else none)
          else none))
      else none)
    else none)
  else some (T.leaf (AV.c (C.d (D.v (Value.bool true))), []))) := by kernel_rfl
set_option maxRecDepth 100000 in
theorem sj21 (N : Nat) (sm : List It → List It → Bool) (l l' : List It) (g m : Nat) (i : Int) (m1 : Nat) (k : Int) : J21 N sm l l' g m i (m1 + 1) k =
  (bif decide ((0 : Int) ≤ i) && decide (i < (↑(List.length l) : Int))
  then (bif decide (k < (↑(List.length (It.words (List.getD l (Int.toNat i) i0))) : Int))
    then (bif decide ((0 : Int) ≤ i) && decide (i < (↑(List.length l) : Int))
      then (bif decide ((0 : Int) ≤ k) && decide (k < (↑(List.length (It.words (List.getD l (Int.toNat i) i0))) : Int))
        then (bif decide ((0 : Int) ≤ i) && decide (i < (↑(List.length l') : Int))
          then (bif decide ((0 : Int) ≤ k) &&
  decide (k < (↑(List.length (It.words (List.getD l' (Int.toNat i) i0))) : Int))
            then (bif !(ByteArray.toList
        (Wd.text (List.getD (It.words (List.getD l (Int.toNat i) i0)) (Int.toNat k) w0)) ==
      ByteArray.toList (Wd.text (List.getD (It.words (List.getD l' (Int.toNat i) i0)) (Int.toNat k) w0)) &&
    (Wd.q (List.getD (It.words (List.getD l (Int.toNat i) i0)) (Int.toNat k) w0) ==
        Wd.q (List.getD (It.words (List.getD l' (Int.toNat i) i0)) (Int.toNat k) w0) &&
      true))
              then some (T.leaf (AV.c (C.d (D.v (Value.bool false))), []))
              else J21 N sm l l' g m i m1 (IntKind.wrap IntKind.i64 (k + (1 : Int))))
            else none)
          else none)
        else none)
      else none)
    else L21 N sm l l' g m (IntKind.wrap IntKind.i64 (i + (1 : Int))))
  else none) := by kernel_rfl
end Go.Proofs.Ytkmmkdeoamhpfaa.ct
