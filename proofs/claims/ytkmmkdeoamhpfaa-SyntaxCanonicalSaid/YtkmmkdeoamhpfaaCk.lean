/-
  Check, of the program and of the reference, and what they call: what they compute. No condition.
-/
import Derived.Test.YtkmmkdeoamhpfaaZIt
import Derived.Test.YtkmmkdeoamhpfaaWe
namespace Go.Proofs.Ytkmmkdeoamhpfaa.ck
open Go.RowKit Go.Eb
open Go.Proofs.Ytkmmkdeoamhpfaa.wd (letter digit plainR plainS)

abbrev aWd (w : Wd) : AV := .agg ((wcells w).map .d)
def decWd : List AV → Option Wd
  | [.agg [.d (.v (.string s)), .d (.v (.bool q))]] => some ⟨s, q⟩
  | _ => none
def sB : Nat := 9223372036854775807

noncomputable def o49 : Orc := Orc.cons 46 (ansP dec32 fun r => vB (letter r)) Orc.nil
set_option maxRecDepth 100000 in
theorem ev49 (w : Wd) : callA Try.prog o49 na 1 Try.f49 (bodyOf Try.f49) [aWd w] [] =
  (bif !Wd.q w
  then (bif !ByteArray.toList (Wd.text w) == ByteArray.toList (ByteArray.mk #[])
    then (bif decide ((0 : Int) ≤ (0 : Int)) && decide ((0 : Int) < (↑(ByteArray.size (Wd.text w)) : Int))
      then some (T.leaf
  (AV.c
      (C.d
        (D.v
          (Value.bool
            (letter
              (IntKind.wrap IntKind.i32
                (↑(UInt8.toNat
                      (List.getD (Array.toList (ByteArray.data (Wd.text w))) (Int.toNat (0 : Int)) (0 : UInt8))) :
                  Int)))))),
    []))
      else none)
    else some (T.leaf (AV.c (C.d (D.v (Value.bool false))), [])))
  else some (T.leaf (AV.c (C.d (D.v (Value.bool false))), []))) := by kernel_rfl
noncomputable def o55 : Orc := Orc.cons 47 (ansP dec8 fun r => vB (letter r)) Orc.nil
set_option maxRecDepth 100000 in
theorem ev55 (w : Wd) : callA Try.prog o55 na 1 Try.f55 (bodyOf Try.f55) [aWd w] [] =
  (bif !Wd.q w
  then (bif !ByteArray.toList (Wd.text w) == ByteArray.toList (ByteArray.mk #[])
    then (bif decide ((0 : Int) ≤ (0 : Int)) && decide ((0 : Int) < (↑(ByteArray.size (Wd.text w)) : Int))
      then some (T.leaf
  (AV.c
      (C.d
        (D.v
          (Value.bool
            (letter
              (↑(UInt8.toNat
                    (List.getD (Array.toList (ByteArray.data (Wd.text w))) (Int.toNat (0 : Int)) (0 : UInt8))) :
                Int))))),
    []))
      else none)
    else some (T.leaf (AV.c (C.d (D.v (Value.bool false))), [])))
  else some (T.leaf (AV.c (C.d (D.v (Value.bool false))), []))) := by kernel_rfl

noncomputable def ann50 := annOf [(2, ⟨[0, 5, 6], []⟩)]
noncomputable def L50 (s : ByteArray) (g m : Nat) (i : Int) := loopK Try.prog Orc.nil ann50 0 g (sub [true, false, true, false, false] (bodyOf Try.f50)) m ⟨frm [(0, vS s), (5, vI s.size), (6, vI i)] 0 Try.f50.ntmps, [], 0⟩ (kAt Try.prog Orc.nil ann50 0 g [true, false, true, false] (bodyOf Try.f50) (kEnd Try.prog Try.f50 0))
set_option maxRecDepth 100000 in
theorem ev50 (s : ByteArray) (g : Nat) : callA Try.prog Orc.nil ann50 g Try.f50 (bodyOf Try.f50) [vS s] [] =
  L50 s g g ((0 : Int)) := by kernel_rfl
set_option maxRecDepth 100000 in
theorem st50 (s : ByteArray) (g m : Nat) (i : Int) : L50 s g (m + 1) i =
  (bif decide (i < (↑(ByteArray.size s) : Int))
  then (bif decide ((0 : Int) ≤ i) && decide (i < (↑(ByteArray.size s) : Int))
    then (bif decide
  ((↑(UInt8.toNat (List.getD (Array.toList (ByteArray.data s)) (Int.toNat i) (0 : UInt8))) : Int) < (32 : Int))
      then some (T.leaf (AV.c (C.d (D.v (Value.bool false))), []))
      else (bif decide ((0 : Int) ≤ i) && decide (i < (↑(ByteArray.size s) : Int))
        then (bif decide
  ((↑(UInt8.toNat (List.getD (Array.toList (ByteArray.data s)) (Int.toNat i) (0 : UInt8))) : Int) > (126 : Int))
          then some (T.leaf (AV.c (C.d (D.v (Value.bool false))), []))
          else (bif decide ((0 : Int) ≤ i) && decide (i < (↑(ByteArray.size s) : Int))
            then (bif (↑(UInt8.toNat (List.getD (Array.toList (ByteArray.data s)) (Int.toNat i) (0 : UInt8))) : Int) ==
  (34 : Int)
              then some (T.leaf (AV.c (C.d (D.v (Value.bool false))), []))
              else L50 s g m (IntKind.wrap IntKind.i64 (i + (1 : Int))))
            else none))
        else none))
    else none)
  else some (T.leaf (AV.c (C.d (D.v (Value.bool true))), []))) := by kernel_rfl

noncomputable def o37 (op : Wd → Bool) (qu : ByteArray → Bool) : Orc := Orc.cons 49 (ansP decWd fun w => vB (op w)) (Orc.cons 50 (ansC decS (fun s => decide (s.size ≤ sB)) fun s => vB (qu s)) (Orc.cons 13 (ansP decS fun s => vB (plainS s)) Orc.nil))
noncomputable def ann37 := annOf [(6, ⟨[1, 22, 23, 24], []⟩)]
noncomputable def L37 (op : Wd → Bool) (qu : ByteArray → Bool) (x : It) (g m : Nat) (i : Int) := loopK Try.prog (o37 op qu) ann37 0 g (sub [true, true, true, false, true, false, false] (bodyOf Try.f37)) m ⟨frm [(1, .c (.ptr 0 0)), (22, aW x.words), (23, vI x.words.length), (24, vI i)] 0 Try.f37.ntmps, [(0, .cells ((icells x).map .d) 38)], 1⟩ (kAt Try.prog (o37 op qu) ann37 0 g [true, true, true, false, true, false] (bodyOf Try.f37) (kEnd Try.prog Try.f37 0))
set_option maxRecDepth 100000 in
theorem ev37 (op : Wd → Bool) (qu : ByteArray → Bool) (x : It) (g : Nat) : callA Try.prog (o37 op qu) ann37 g Try.f37 (bodyOf Try.f37) [aT x] [] =
  (bif (↑(List.length (It.words x)) : Int) == (0 : Int)
  then some (T.leaf (AV.c (C.d (D.v (Value.int IntKind.i64 (6 : Int)))), []))
  else (bif decide ((0 : Int) ≤ (0 : Int)) && decide ((0 : Int) < (↑(List.length (It.words x)) : Int))
    then (bif !op
    (Wd.mk (Wd.text (List.getD (It.words x) (Int.toNat (0 : Int)) w0))
      (Wd.q (List.getD (It.words x) (Int.toNat (0 : Int)) w0)))
      then some (T.leaf (AV.c (C.d (D.v (Value.int IntKind.i64 (6 : Int)))), []))
      else (bif decide ((↑(List.length (It.words x)) : Int) > (40 : Int))
        then some (T.leaf (AV.c (C.d (D.v (Value.int IntKind.i64 (3 : Int)))), []))
        else L37 op qu x g g ((0 : Int))))
    else none)) := by kernel_rfl
set_option maxRecDepth 100000 in
theorem st37 (op : Wd → Bool) (qu : ByteArray → Bool) (x : It) (g m : Nat) (i : Int) : L37 op qu x g (m + 1) i =
  (bif decide (i < (↑(List.length (It.words x)) : Int))
  then (bif decide ((0 : Int) ≤ i) && decide (i < (↑(List.length (It.words x)) : Int))
    then (bif decide ((↑(ByteArray.size (Wd.text (List.getD (It.words x) (Int.toNat i) w0))) : Int) > (120 : Int))
      then some (T.leaf (AV.c (C.d (D.v (Value.int IntKind.i64 (4 : Int)))), []))
      else (bif Wd.q (List.getD (It.words x) (Int.toNat i) w0)
        then (bif decide (ByteArray.size (Wd.text (List.getD (It.words x) (Int.toNat i) w0)) ≤ sB)
          then (bif !qu (Wd.text (List.getD (It.words x) (Int.toNat i) w0))
            then some (T.leaf (AV.c (C.d (D.v (Value.int IntKind.i64 (5 : Int)))), []))
            else (bif !Wd.q (List.getD (It.words x) (Int.toNat i) w0)
              then (bif !plainS (Wd.text (List.getD (It.words x) (Int.toNat i) w0))
                then some (T.leaf (AV.c (C.d (D.v (Value.int IntKind.i64 (6 : Int)))), []))
                else L37 op qu x g m (IntKind.wrap IntKind.i64 (i + (1 : Int))))
              else L37 op qu x g m (IntKind.wrap IntKind.i64 (i + (1 : Int)))))
          else none)
        else (bif !Wd.q (List.getD (It.words x) (Int.toNat i) w0)
          then (bif !plainS (Wd.text (List.getD (It.words x) (Int.toNat i) w0))
            then some (T.leaf (AV.c (C.d (D.v (Value.int IntKind.i64 (6 : Int)))), []))
            else L37 op qu x g m (IntKind.wrap IntKind.i64 (i + (1 : Int))))
          else L37 op qu x g m (IntKind.wrap IntKind.i64 (i + (1 : Int))))))
    else none)
  else (bif !It.block x
    then (bif decide ((↑(List.length (It.kids x)) : Int) > (0 : Int))
      then some (T.leaf (AV.c (C.d (D.v (Value.int IntKind.i64 (12 : Int)))), []))
      else some (T.leaf (AV.c (C.d (D.v (Value.int IntKind.i64 (0 : Int)))), [])))
    else some (T.leaf (AV.c (C.d (D.v (Value.int IntKind.i64 (0 : Int)))), [])))) := by kernel_rfl

noncomputable def o56 : Orc := Orc.cons 14 (ansC decS (fun s => decide (s.size ≤ sB)) fun s => vB (plainS s)) Orc.nil
noncomputable def ann56 := annOf [(8, ⟨[1, 3], []⟩)]
noncomputable def L56 (w : Wd) (g m : Nat) (i : Int) := loopK Try.prog o56 ann56 0 g (sub [true, true, true, false, true, false, false] (bodyOf Try.f56)) m ⟨frm [(1, .c (.ptr 0 0)), (3, vI i)] 0 Try.f56.ntmps, [(0, .cells ((wcells w).map .d) 45)], 1⟩ (kAt Try.prog o56 ann56 0 g [true, true, true, false, true, false] (bodyOf Try.f56) (kEnd Try.prog Try.f56 0))
set_option maxRecDepth 100000 in
theorem ev56 (w : Wd) (g : Nat) : callA Try.prog o56 ann56 g Try.f56 (bodyOf Try.f56) [aWd w] [] =
  (bif decide ((↑(ByteArray.size (Wd.text w)) : Int) > (120 : Int))
  then some (T.leaf (AV.c (C.d (D.v (Value.int IntKind.i64 (4 : Int)))), []))
  else (bif !Wd.q w
    then (bif decide (ByteArray.size (Wd.text w) ≤ sB)
      then (bif !plainS (Wd.text w)
        then some (T.leaf (AV.c (C.d (D.v (Value.int IntKind.i64 (6 : Int)))), []))
        else some (T.leaf (AV.c (C.d (D.v (Value.int IntKind.i64 (0 : Int)))), [])))
      else none)
    else L56 w g g ((0 : Int)))) := by kernel_rfl
set_option maxRecDepth 100000 in
theorem st56 (w : Wd) (g m : Nat) (i : Int) : L56 w g (m + 1) i =
  (bif decide (i < (↑(ByteArray.size (Wd.text w)) : Int))
  then (bif decide ((0 : Int) ≤ i) && decide (i < (↑(ByteArray.size (Wd.text w)) : Int))
    then (bif decide
  ((↑(UInt8.toNat (List.getD (Array.toList (ByteArray.data (Wd.text w))) (Int.toNat i) (0 : UInt8))) : Int) <
    (32 : Int))
      then some (T.leaf (AV.c (C.d (D.v (Value.int IntKind.i64 (5 : Int)))), []))
      else (bif decide ((0 : Int) ≤ i) && decide (i < (↑(ByteArray.size (Wd.text w)) : Int))
        then (bif decide
  ((↑(UInt8.toNat (List.getD (Array.toList (ByteArray.data (Wd.text w))) (Int.toNat i) (0 : UInt8))) : Int) >
    (126 : Int))
          then some (T.leaf (AV.c (C.d (D.v (Value.int IntKind.i64 (5 : Int)))), []))
          else (bif decide ((0 : Int) ≤ i) && decide (i < (↑(ByteArray.size (Wd.text w)) : Int))
            then (bif (↑(UInt8.toNat
        (List.getD (Array.toList (ByteArray.data (Wd.text w))) (Int.toNat i) (0 : UInt8))) :
    Int) ==
  (34 : Int)
              then some (T.leaf (AV.c (C.d (D.v (Value.int IntKind.i64 (5 : Int)))), []))
              else L56 w g m (IntKind.wrap IntKind.i64 (i + (1 : Int))))
            else none))
        else none))
    else none)
  else some (T.leaf (AV.c (C.d (D.v (Value.int IntKind.i64 (0 : Int)))), []))) := by kernel_rfl

noncomputable def o51 (op : Wd → Bool) (cw : Wd → Int) : Orc := Orc.cons 55 (ansP decWd fun w => vB (op w)) (Orc.cons 56 (ansC decWd (fun w => decide (w.text.size ≤ sB)) fun w => vI (cw w)) Orc.nil)
noncomputable def ann51 := annOf [(6, ⟨[1, 3], []⟩)]
noncomputable def L51 (op : Wd → Bool) (cw : Wd → Int) (x : It) (g m : Nat) (i : Int) := loopK Try.prog (o51 op cw) ann51 0 g (sub [true, true, true, false, true, false, false] (bodyOf Try.f51)) m ⟨frm [(1, .c (.ptr 0 0)), (3, vI i)] 0 Try.f51.ntmps, [(0, .cells ((icells x).map .d) 38)], 1⟩ (kAt Try.prog (o51 op cw) ann51 0 g [true, true, true, false, true, false] (bodyOf Try.f51) (kEnd Try.prog Try.f51 0))
set_option maxRecDepth 100000 in
theorem ev51 (op : Wd → Bool) (cw : Wd → Int) (x : It) (g : Nat) : callA Try.prog (o51 op cw) ann51 g Try.f51 (bodyOf Try.f51) [aT x] [] =
  (bif (↑(List.length (It.words x)) : Int) == (0 : Int)
  then some (T.leaf (AV.c (C.d (D.v (Value.int IntKind.i64 (6 : Int)))), []))
  else (bif decide ((0 : Int) ≤ (0 : Int)) && decide ((0 : Int) < (↑(List.length (It.words x)) : Int))
    then (bif !op
    (Wd.mk (Wd.text (List.getD (It.words x) (Int.toNat (0 : Int)) w0))
      (Wd.q (List.getD (It.words x) (Int.toNat (0 : Int)) w0)))
      then some (T.leaf (AV.c (C.d (D.v (Value.int IntKind.i64 (6 : Int)))), []))
      else (bif decide ((↑(List.length (It.words x)) : Int) > (40 : Int))
        then some (T.leaf (AV.c (C.d (D.v (Value.int IntKind.i64 (3 : Int)))), []))
        else L51 op cw x g g ((0 : Int))))
    else none)) := by kernel_rfl
set_option maxRecDepth 100000 in
theorem st51 (op : Wd → Bool) (cw : Wd → Int) (x : It) (g m : Nat) (i : Int) : L51 op cw x g (m + 1) i =
  (bif decide (i < (↑(List.length (It.words x)) : Int))
  then (bif decide ((0 : Int) ≤ i) && decide (i < (↑(List.length (It.words x)) : Int))
    then (bif decide (ByteArray.size (Wd.text (List.getD (It.words x) (Int.toNat i) w0)) ≤ sB)
      then (bif cw
    (Wd.mk (Wd.text (List.getD (It.words x) (Int.toNat i) w0)) (Wd.q (List.getD (It.words x) (Int.toNat i) w0))) !=
  (0 : Int)
        then some (T.leaf
  (AV.c
      (C.d
        (D.v
          (Value.int IntKind.i64
            (cw
              (Wd.mk (Wd.text (List.getD (It.words x) (Int.toNat i) w0))
                (Wd.q (List.getD (It.words x) (Int.toNat i) w0))))))),
    []))
        else L51 op cw x g m (IntKind.wrap IntKind.i64 (i + (1 : Int))))
      else none)
    else none)
  else (bif !It.block x
    then (bif decide ((↑(List.length (It.kids x)) : Int) > (0 : Int))
      then some (T.leaf (AV.c (C.d (D.v (Value.int IntKind.i64 (12 : Int)))), []))
      else some (T.leaf (AV.c (C.d (D.v (Value.int IntKind.i64 (0 : Int)))), [])))
    else some (T.leaf (AV.c (C.d (D.v (Value.int IntKind.i64 (0 : Int)))), [])))) := by kernel_rfl

/-- a statement as an argument -/
noncomputable def ansT (g : Int → D → Bool → D → AV) : (R : Type) → List AV → Hp → (AV → Hp → Option (T R)) → Option (T R) := fun _ args H k => match H, args with
  | [], [.agg [.d (.v (.int .i64 n)), .d w, .d (.v (.bool b)), .d ks]] => bif okW w && okI ks && okWs (theW w) && okL (theI ks) then k (g n w b ks) [] else none
  | _, _ => none
/-- the counter and the function's own variable -/
abbrev H36 (n : Int) : Hp := [(0, .cells [.d (.v (.int .i64 n))] 3), (1, .cells [.fn 36 [] [.ptr 0 0, .ptr 1 0]] 70)]
def ans36 (c : D → Bool) (e : D → Int → Int → Int) (n' : D → Int → Int → Int) : (R : Type) → List AV → Hp → (AV → Hp → Option (T R)) → Option (T R) := fun _ args H k => match H, args with
  | [(0, .cells [.d (.v (.int .i64 n))] 3), (1, .cells [.fn 36 [] [.ptr 0 0, .ptr 1 0]] 70)], [.c (.d x), .c (.d (.v (.int .i64 d))), .c (.ptr 0 0), .c (.ptr 1 0)] => bif c x then k (vI (e x d n)) (H36 (n' x d n)) else none
  | _, _ => none
noncomputable def o36 (ci : Int → D → Bool → D → Int) (c : D → Bool) (e n' : D → Int → Int → Int) : Orc := Orc.cons 37 (ansT fun n w b ks => vI (ci n w b ks)) (Orc.cons 36 (ans36 c e n') Orc.nil)
noncomputable def ann36 := annOf [(2, ⟨[1, 2, 3, 11, 12, 13], []⟩)]
noncomputable def L36 (ci : Int → D → Bool → D → Int) (c : D → Bool) (e n' : D → Int → Int → Int) (l : List It) (d : Int) (g m : Nat) (n i : Int) := loopK Try.prog (o36 ci c e n') ann36 2 g (sub [true, false, true, false, false] (bodyOf Try.f36)) m ⟨frm [(1, vI d), (2, .c (.ptr 0 0)), (3, .c (.ptr 1 0)), (11, aI l), (12, vI l.length), (13, vI i)] 0 Try.f36.ntmps, H36 n, 2⟩ (kAt Try.prog (o36 ci c e n') ann36 2 g [true, false, true, false] (bodyOf Try.f36) (kEnd Try.prog Try.f36 2))
set_option maxRecDepth 100000 in
theorem ev36 (ci : Int → D → Bool → D → Int) (c : D → Bool) (e n' : D → Int → Int → Int) (l : List It) (d : Int) (g : Nat) (n : Int) : callA Try.prog (o36 ci c e n') ann36 g Try.f36 (bodyOf Try.f36) [aI l, vI d, .c (.ptr 0 0), .c (.ptr 1 0)] (H36 n) =
  L36 ci c e n' l d g g n ((0 : Int)) := by kernel_rfl
set_option maxRecDepth 100000 in
theorem st36 (ci : Int → D → Bool → D → Int) (c : D → Bool) (e n' : D → Int → Int → Int) (l : List It) (d : Int) (g m : Nat) (n i : Int) : L36 ci c e n' l d g (m + 1) n i =
  (bif decide (i < (↑(List.length l) : Int))
  then (bif decide ((0 : Int) ≤ i) && decide (i < (↑(List.length l) : Int))
    then (bif decide (IntKind.wrap IntKind.i64 (n + (1 : Int)) > (600 : Int))
      then some (T.leaf
  (AV.c (C.d (D.v (Value.int IntKind.i64 (3 : Int)))),
    [((0 : Nat), Blk.cells [C.d (D.v (Value.int IntKind.i64 (IntKind.wrap IntKind.i64 (n + (1 : Int)))))] ((3 : Nat))),
      ((1 : Nat),
        Blk.cells [C.fn ((36 : Nat)) [] [Rf.ptr ((0 : Nat)) ((0 : Nat)), Rf.ptr ((1 : Nat)) ((0 : Nat))]]
          ((70 : Nat)))]))
      else (bif decide (d > (4 : Int))
        then some (T.leaf
  (AV.c (C.d (D.v (Value.int IntKind.i64 (17 : Int)))),
    [((0 : Nat), Blk.cells [C.d (D.v (Value.int IntKind.i64 (IntKind.wrap IntKind.i64 (n + (1 : Int)))))] ((3 : Nat))),
      ((1 : Nat),
        Blk.cells [C.fn ((36 : Nat)) [] [Rf.ptr ((0 : Nat)) ((0 : Nat)), Rf.ptr ((1 : Nat)) ((0 : Nat))]]
          ((70 : Nat)))]))
        else (bif okW (wordsD (It.words (List.getD l (Int.toNat i) i0))) &&
      okI (kidsD (List.getD l (Int.toNat i) i0)) &&
    okWs (theW (wordsD (It.words (List.getD l (Int.toNat i) i0)))) &&
  okL (theI (kidsD (List.getD l (Int.toNat i) i0)))
          then (bif ci (It.line (List.getD l (Int.toNat i) i0)) (wordsD (It.words (List.getD l (Int.toNat i) i0)))
    (It.block (List.getD l (Int.toNat i) i0)) (kidsD (List.getD l (Int.toNat i) i0)) !=
  (0 : Int)
            then some (T.leaf
  (AV.c
      (C.d
        (D.v
          (Value.int IntKind.i64
            (ci (It.line (List.getD l (Int.toNat i) i0)) (wordsD (It.words (List.getD l (Int.toNat i) i0)))
              (It.block (List.getD l (Int.toNat i) i0)) (kidsD (List.getD l (Int.toNat i) i0)))))),
    [((0 : Nat), Blk.cells [C.d (D.v (Value.int IntKind.i64 (IntKind.wrap IntKind.i64 (n + (1 : Int)))))] ((3 : Nat))),
      ((1 : Nat),
        Blk.cells [C.fn ((36 : Nat)) [] [Rf.ptr ((0 : Nat)) ((0 : Nat)), Rf.ptr ((1 : Nat)) ((0 : Nat))]]
          ((70 : Nat)))]))
            else (bif c (kidsD (List.getD l (Int.toNat i) i0))
              then (bif e (kidsD (List.getD l (Int.toNat i) i0)) (IntKind.wrap IntKind.i64 (d + (1 : Int)))
    (IntKind.wrap IntKind.i64 (n + (1 : Int))) !=
  (0 : Int)
                then some (T.leaf
  (AV.c
      (C.d
        (D.v
          (Value.int IntKind.i64
            (e (kidsD (List.getD l (Int.toNat i) i0)) (IntKind.wrap IntKind.i64 (d + (1 : Int)))
              (IntKind.wrap IntKind.i64 (n + (1 : Int))))))),
    [((0 : Nat),
        Blk.cells
          [C.d
              (D.v
                (Value.int IntKind.i64
                  (n' (kidsD (List.getD l (Int.toNat i) i0)) (IntKind.wrap IntKind.i64 (d + (1 : Int)))
                    (IntKind.wrap IntKind.i64 (n + (1 : Int))))))]
          ((3 : Nat))),
      ((1 : Nat),
        Blk.cells [C.fn ((36 : Nat)) [] [Rf.ptr ((0 : Nat)) ((0 : Nat)), Rf.ptr ((1 : Nat)) ((0 : Nat))]]
          ((70 : Nat)))]))
                else L36 ci c e n' l d g m (n' (kidsD (List.getD l (Int.toNat i) i0))
  (IntKind.wrap IntKind.i64 (d + (1 : Int)))
  (IntKind.wrap IntKind.i64 (n + (1 : Int)))) (IntKind.wrap IntKind.i64 (i + (1 : Int))))
              else none))
          else none)))
    else none)
  else some (T.leaf
  (AV.c (C.d (D.v (Value.int IntKind.i64 (0 : Int)))),
    [((0 : Nat), Blk.cells [C.d (D.v (Value.int IntKind.i64 n))] ((3 : Nat))),
      ((1 : Nat),
        Blk.cells [C.fn ((36 : Nat)) [] [Rf.ptr ((0 : Nat)) ((0 : Nat)), Rf.ptr ((1 : Nat)) ((0 : Nat))]]
          ((70 : Nat)))]))) := by kernel_rfl
noncomputable def o16 (c : D → Bool) (e n' : D → Int → Int → Int) : Orc := Orc.cons 36 (ans36 c e n') Orc.nil
set_option maxRecDepth 100000 in
theorem ev16 (c : D → Bool) (e n' : D → Int → Int → Int) (l : List It) : callA Try.prog (o16 c e n') na 1 Try.f16 (bodyOf Try.f16) [aI l] [] =
  (bif c (itemsD l)
  then some (T.leaf (AV.c (C.d (D.v (Value.int IntKind.i64 (e (itemsD l) (0 : Int) (0 : Int))))), []))
  else none) := by kernel_rfl

noncomputable def o38 (ci : Int → D → Bool → D → Int) (c : D → Bool) (e n' : D → Int → Int → Int) : Orc := Orc.cons 51 (ansT fun n w b ks => vI (ci n w b ks)) (Orc.cons 38 (fun _ args H k => match H, args with | [], [.c (.d x), .c (.d (.v (.int .i64 d))), .c (.d (.v (.int .i64 n)))] => bif c x then k (.tup [pI (n' x d n), pI (e x d n)]) [] else none | _, _ => none) Orc.nil)
noncomputable def ann38 := annOf [(2, ⟨[0, 1, 2, 8], []⟩)]
noncomputable def L38 (ci : Int → D → Bool → D → Int) (c : D → Bool) (e n' : D → Int → Int → Int) (l : List It) (d : Int) (g m : Nat) (n i : Int) := loopK Try.prog (o38 ci c e n') ann38 0 g (sub [true, false, true, false, false] (bodyOf Try.f38)) m ⟨frm [(0, aI l), (1, vI d), (2, vI n), (8, vI i)] 0 Try.f38.ntmps, [], 0⟩ (kAt Try.prog (o38 ci c e n') ann38 0 g [true, false, true, false] (bodyOf Try.f38) (kEnd Try.prog Try.f38 0))
set_option maxRecDepth 100000 in
theorem ev38 (ci : Int → D → Bool → D → Int) (c : D → Bool) (e n' : D → Int → Int → Int) (l : List It) (d : Int) (g : Nat) (n : Int) : callA Try.prog (o38 ci c e n') ann38 g Try.f38 (bodyOf Try.f38) [aI l, vI d, vI n] [] =
  L38 ci c e n' l d g g n ((0 : Int)) := by kernel_rfl
set_option maxRecDepth 100000 in
theorem st38 (ci : Int → D → Bool → D → Int) (c : D → Bool) (e n' : D → Int → Int → Int) (l : List It) (d : Int) (g m : Nat) (n i : Int) : L38 ci c e n' l d g (m + 1) n i =
  (bif decide (i < (↑(List.length l) : Int))
  then (bif decide (n ≥ (600 : Int))
    then some (T.leaf
  (AV.tup [(false, [C.d (D.v (Value.int IntKind.i64 n))]), (false, [C.d (D.v (Value.int IntKind.i64 (3 : Int)))])], []))
    else (bif decide (d > (4 : Int))
      then some (T.leaf
  (AV.tup [(false, [C.d (D.v (Value.int IntKind.i64 n))]), (false, [C.d (D.v (Value.int IntKind.i64 (17 : Int)))])],
    []))
      else (bif decide ((0 : Int) ≤ i) && decide (i < (↑(List.length l) : Int))
        then (bif okW (wordsD (It.words (List.getD l (Int.toNat i) i0))) &&
      okI (kidsD (List.getD l (Int.toNat i) i0)) &&
    okWs (theW (wordsD (It.words (List.getD l (Int.toNat i) i0)))) &&
  okL (theI (kidsD (List.getD l (Int.toNat i) i0)))
          then (bif ci (It.line (List.getD l (Int.toNat i) i0)) (wordsD (It.words (List.getD l (Int.toNat i) i0)))
    (It.block (List.getD l (Int.toNat i) i0)) (kidsD (List.getD l (Int.toNat i) i0)) !=
  (0 : Int)
            then some (T.leaf
  (AV.tup
      [(false, [C.d (D.v (Value.int IntKind.i64 (IntKind.wrap IntKind.i64 (n + (1 : Int)))))]),
        (false,
          [C.d
              (D.v
                (Value.int IntKind.i64
                  (ci (It.line (List.getD l (Int.toNat i) i0)) (wordsD (It.words (List.getD l (Int.toNat i) i0)))
                    (It.block (List.getD l (Int.toNat i) i0)) (kidsD (List.getD l (Int.toNat i) i0)))))])],
    []))
            else (bif decide ((0 : Int) ≤ i) && decide (i < (↑(List.length l) : Int))
              then (bif c (kidsD (List.getD l (Int.toNat i) i0))
                then (bif e (kidsD (List.getD l (Int.toNat i) i0)) (IntKind.wrap IntKind.i64 (d + (1 : Int)))
    (IntKind.wrap IntKind.i64 (n + (1 : Int))) !=
  (0 : Int)
                  then some (T.leaf
  (AV.tup
      [(false,
          [C.d
              (D.v
                (Value.int IntKind.i64
                  (n' (kidsD (List.getD l (Int.toNat i) i0)) (IntKind.wrap IntKind.i64 (d + (1 : Int)))
                    (IntKind.wrap IntKind.i64 (n + (1 : Int))))))]),
        (false,
          [C.d
              (D.v
                (Value.int IntKind.i64
                  (e (kidsD (List.getD l (Int.toNat i) i0)) (IntKind.wrap IntKind.i64 (d + (1 : Int)))
                    (IntKind.wrap IntKind.i64 (n + (1 : Int))))))])],
    []))
                  else L38 ci c e n' l d g m (n' (kidsD (List.getD l (Int.toNat i) i0))
  (IntKind.wrap IntKind.i64 (d + (1 : Int)))
  (IntKind.wrap IntKind.i64 (n + (1 : Int)))) (IntKind.wrap IntKind.i64 (i + (1 : Int))))
                else none)
              else none))
          else none)
        else none)))
  else some (T.leaf
  (AV.tup [(false, [C.d (D.v (Value.int IntKind.i64 n))]), (false, [C.d (D.v (Value.int IntKind.i64 (0 : Int)))])],
    []))) := by kernel_rfl
noncomputable def o18 (c : D → Bool) (e n' : D → Int → Int → Int) : Orc := Orc.cons 38 (fun _ args H k => match H, args with | [], [.c (.d x), .c (.d (.v (.int .i64 d))), .c (.d (.v (.int .i64 n)))] => bif c x then k (.tup [pI (n' x d n), pI (e x d n)]) [] else none | _, _ => none) Orc.nil
set_option maxRecDepth 100000 in
theorem ev18 (c : D → Bool) (e n' : D → Int → Int → Int) (l : List It) : callA Try.prog (o18 c e n') na 1 Try.f18 (bodyOf Try.f18) [aI l] [] =
  (bif c (itemsD l)
  then some (T.leaf (AV.c (C.d (D.v (Value.int IntKind.i64 (e (itemsD l) (0 : Int) (0 : Int))))), []))
  else none) := by kernel_rfl

noncomputable def o17 (N : Nat) (dp : List It → Int → Bool) : Orc := Orc.cons 17 (fun _ args H k => match H, args with | [], [.c (.d x), .c (.d (.v (.int .i64 n)))] => bif okI x && okL (theI x) && decide (dep (theI x) < N) then k (vB (dp (theI x) n)) [] else none | _, _ => none) Orc.nil
noncomputable def ann17 := annOf [(2, ⟨[0, 1, 5], []⟩)]
noncomputable def L17 (N : Nat) (dp : List It → Int → Bool) (l : List It) (n : Int) (g m : Nat) (i : Int) := loopK Try.prog (o17 N dp) ann17 0 g (sub [true, false, true, false, false] (bodyOf Try.f17)) m ⟨frm [(0, aI l), (1, vI n), (5, vI i)] 0 Try.f17.ntmps, [], 0⟩ (kAt Try.prog (o17 N dp) ann17 0 g [true, false, true, false] (bodyOf Try.f17) (kEnd Try.prog Try.f17 0))
set_option maxRecDepth 100000 in
theorem ev17 (N : Nat) (dp : List It → Int → Bool) (l : List It) (n : Int) (g : Nat) : callA Try.prog (o17 N dp) ann17 g Try.f17 (bodyOf Try.f17) [aI l, vI n] [] =
  L17 N dp l n g g ((0 : Int)) := by kernel_rfl
set_option maxRecDepth 100000 in
theorem st17 (N : Nat) (dp : List It → Int → Bool) (l : List It) (n : Int) (g m : Nat) (i : Int) : L17 N dp l n g (m + 1) i =
  (bif decide (i < (↑(List.length l) : Int))
  then (bif decide (n < (0 : Int))
    then some (T.leaf (AV.c (C.d (D.v (Value.bool true))), []))
    else (bif decide ((0 : Int) ≤ i) && decide (i < (↑(List.length l) : Int))
      then (bif okI (kidsD (List.getD l (Int.toNat i) i0)) && okL (theI (kidsD (List.getD l (Int.toNat i) i0))) &&
  decide (dep (theI (kidsD (List.getD l (Int.toNat i) i0))) < N)
        then (bif dp (theI (kidsD (List.getD l (Int.toNat i) i0))) (IntKind.wrap IntKind.i64 (n - (1 : Int)))
          then some (T.leaf (AV.c (C.d (D.v (Value.bool true))), []))
          else L17 N dp l n g m (IntKind.wrap IntKind.i64 (i + (1 : Int))))
        else none)
      else none))
  else some (T.leaf (AV.c (C.d (D.v (Value.bool false))), []))) := by kernel_rfl
end Go.Proofs.Ytkmmkdeoamhpfaa.ck
