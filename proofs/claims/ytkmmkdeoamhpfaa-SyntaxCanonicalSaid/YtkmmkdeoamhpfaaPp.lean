/-
  Parse, by the depth of blocks: what its rounds compute. No condition.
-/
import Derived.Test.YtkmmkdeoamhpfaaPb
import Derived.Test.YtkmmkdeoamhpfaaCk
namespace Go.Proofs.Ytkmmkdeoamhpfaa.ps
open Go.RowKit Go.Eb
open Go.Proofs.Ytkmmkdeoamhpfaa.ck (decWd aWd)

noncomputable def o43 (op : Wd → Bool) : Orc := Orc.cons 49 (ansP decWd fun w => vB (op w)) Orc.nil
noncomputable def o23 (op : Wd → Bool) : Orc := Orc.cons 43 (inl Try.prog (o43 op) na 1 Try.f43) (Orc.cons 44 ansAd Orc.nil)
noncomputable def o8 (K : SK) (op : Wd → Bool) : Orc := Orc.cons 22 (ansTk K) (Orc.cons 23 (inl Try.prog (o23 op) na 1 Try.f23) Orc.nil)
noncomputable def ann8 := annOf [(8, ⟨[5, 6, 7], [(6, 1, 0, 0), (6, 1100, 4, 38), (6, 1101, 4, 38), (6, 1102, 4, 38), (6, 1103, 4, 38), (6, 1104, 4, 38), (6, 2, 0, 0), (6, 1201, 1000, 0), (6, 1205, 1000, 0), (6, 1209, 1000, 0), (6, 1213, 1000, 0), (6, 5, 2, 45)]⟩)]
noncomputable def L8n (K : SK) (op : Wd → Bool) (g m : Nat) (s : ByteArray) (a l c : Int) (bg : Bool) (ln : Int) (nw : Nat) (fw : FD) (n0 : Nat) (f0 : FD) (tk tl : Int) (tt : ByteArray) (tq : Bool) := gotoK (R := AV × Hp) Try.prog (o8 K op) ann8 0 g (sub [true, false] (bodyOf Try.f8)) 0 m ⟨frm [(5, .c (.ptr 0 0)), (6, .c (.ptr 1 0)), (7, .c (.ptr 5 0))] 0 Try.f8.ntmps, [(0, .cells [.d (.v (.string s)), .d (.v (.int .i64 a)), .d (.v (.int .i64 l))] 40), (1, .cells [.d (.v (.int .i64 c)), .row 2 1 1, .d (.v (.slice none 0 0)), .d (.v (.bool bg)), .d (.v (.int .i64 ln)), .row 4 2 nw, .d (.v (.bool false)), .d (.v (.slice none 0 0))] 43), (2, .cells [.row 3 4 n0] 23), (3, .row n0 f0 4 38), (4, .row nw fw 2 45), (5, .cells [.d (.v (.int .u8 tk)), .d (.v (.int .i64 tl)), .d (.v (.string tt)), .d (.v (.bool tq))] 47)], 6⟩ (kEnd Try.prog Try.f8 0)
noncomputable def L80 (K : SK) (op : Wd → Bool) (g m : Nat) (s : ByteArray) (a l c : Int) (bg : Bool) (ln : Int) (nw : Nat) (fw : FD) (n0 : Nat) (f0 : FD) (tk tl : Int) (tt : ByteArray) (tq : Bool) := gotoK (R := AV × Hp) Try.prog (o8 K op) ann8 0 g (sub [true, false] (bodyOf Try.f8)) 0 m ⟨frm [(5, .c (.ptr 0 0)), (6, .c (.ptr 1 0)), (7, .c (.ptr 6 0))] 0 Try.f8.ntmps, [(0, .cells [.d (.v (.string s)), .d (.v (.int .i64 a)), .d (.v (.int .i64 l))] 40), (1, .cells [.d (.v (.int .i64 c)), .row 2 1 1, .row 4 4 0, .d (.v (.bool bg)), .d (.v (.int .i64 ln)), .row 5 2 nw, .d (.v (.bool false)), .d (.v (.slice none 0 0))] 43), (2, .cells [.row 3 4 n0] 23), (3, .row n0 f0 4 38), (4, .cells [] 38), (5, .row nw fw 2 45), (6, .cells [.d (.v (.int .u8 tk)), .d (.v (.int .i64 tl)), .d (.v (.string tt)), .d (.v (.bool tq))] 47)], 7⟩ (kEnd Try.prog Try.f8 0)
noncomputable def L81 (K : SK) (op : Wd → Bool) (g m : Nat) (s : ByteArray) (a l c : Int) (bg : Bool) (ln : Int) (nw : Nat) (fw : FD) (n0 : Nat) (f0 : FD) (n1 : Nat) (f1 : FD) (b0 : Int) (w0 : D) (tk tl : Int) (tt : ByteArray) (tq : Bool) := gotoK (R := AV × Hp) Try.prog (o8 K op) ann8 0 g (sub [true, false] (bodyOf Try.f8)) 0 m ⟨frm [(5, .c (.ptr 0 0)), (6, .c (.ptr 1 0)), (7, .c (.ptr 7 0))] 0 Try.f8.ntmps, [(0, .cells [.d (.v (.string s)), .d (.v (.int .i64 a)), .d (.v (.int .i64 l))] 40), (1, .cells [.d (.v (.int .i64 c)), .row 2 1 2, .row 5 4 1, .d (.v (.bool bg)), .d (.v (.int .i64 ln)), .row 6 2 nw, .d (.v (.bool false)), .d (.v (.slice none 0 0))] 43), (2, .cells [.row 3 4 n0, .row 4 4 n1] 23), (3, .row n0 f0 4 38), (4, .row n1 f1 4 38), (5, .cells [.d (.v (.int .i64 b0)), .d w0, .d (.v (.bool true)), .d (.v (.slice none 0 0))] 38), (6, .row nw fw 2 45), (7, .cells [.d (.v (.int .u8 tk)), .d (.v (.int .i64 tl)), .d (.v (.string tt)), .d (.v (.bool tq))] 47)], 8⟩ (kEnd Try.prog Try.f8 0)
noncomputable def L82 (K : SK) (op : Wd → Bool) (g m : Nat) (s : ByteArray) (a l c : Int) (bg : Bool) (ln : Int) (nw : Nat) (fw : FD) (n0 : Nat) (f0 : FD) (n1 : Nat) (f1 : FD) (n2 : Nat) (f2 : FD) (b0 : Int) (w0 : D) (b1 : Int) (w1 : D) (tk tl : Int) (tt : ByteArray) (tq : Bool) := gotoK (R := AV × Hp) Try.prog (o8 K op) ann8 0 g (sub [true, false] (bodyOf Try.f8)) 0 m ⟨frm [(5, .c (.ptr 0 0)), (6, .c (.ptr 1 0)), (7, .c (.ptr 8 0))] 0 Try.f8.ntmps, [(0, .cells [.d (.v (.string s)), .d (.v (.int .i64 a)), .d (.v (.int .i64 l))] 40), (1, .cells [.d (.v (.int .i64 c)), .row 2 1 3, .row 6 4 2, .d (.v (.bool bg)), .d (.v (.int .i64 ln)), .row 7 2 nw, .d (.v (.bool false)), .d (.v (.slice none 0 0))] 43), (2, .cells [.row 3 4 n0, .row 4 4 n1, .row 5 4 n2] 23), (3, .row n0 f0 4 38), (4, .row n1 f1 4 38), (5, .row n2 f2 4 38), (6, .cells [.d (.v (.int .i64 b0)), .d w0, .d (.v (.bool true)), .d (.v (.slice none 0 0)), .d (.v (.int .i64 b1)), .d w1, .d (.v (.bool true)), .d (.v (.slice none 0 0))] 38), (7, .row nw fw 2 45), (8, .cells [.d (.v (.int .u8 tk)), .d (.v (.int .i64 tl)), .d (.v (.string tt)), .d (.v (.bool tq))] 47)], 9⟩ (kEnd Try.prog Try.f8 0)
noncomputable def L83 (K : SK) (op : Wd → Bool) (g m : Nat) (s : ByteArray) (a l c : Int) (bg : Bool) (ln : Int) (nw : Nat) (fw : FD) (n0 : Nat) (f0 : FD) (n1 : Nat) (f1 : FD) (n2 : Nat) (f2 : FD) (n3 : Nat) (f3 : FD) (b0 : Int) (w0 : D) (b1 : Int) (w1 : D) (b2 : Int) (w2 : D) (tk tl : Int) (tt : ByteArray) (tq : Bool) := gotoK (R := AV × Hp) Try.prog (o8 K op) ann8 0 g (sub [true, false] (bodyOf Try.f8)) 0 m ⟨frm [(5, .c (.ptr 0 0)), (6, .c (.ptr 1 0)), (7, .c (.ptr 9 0))] 0 Try.f8.ntmps, [(0, .cells [.d (.v (.string s)), .d (.v (.int .i64 a)), .d (.v (.int .i64 l))] 40), (1, .cells [.d (.v (.int .i64 c)), .row 2 1 4, .row 7 4 3, .d (.v (.bool bg)), .d (.v (.int .i64 ln)), .row 8 2 nw, .d (.v (.bool false)), .d (.v (.slice none 0 0))] 43), (2, .cells [.row 3 4 n0, .row 4 4 n1, .row 5 4 n2, .row 6 4 n3] 23), (3, .row n0 f0 4 38), (4, .row n1 f1 4 38), (5, .row n2 f2 4 38), (6, .row n3 f3 4 38), (7, .cells [.d (.v (.int .i64 b0)), .d w0, .d (.v (.bool true)), .d (.v (.slice none 0 0)), .d (.v (.int .i64 b1)), .d w1, .d (.v (.bool true)), .d (.v (.slice none 0 0)), .d (.v (.int .i64 b2)), .d w2, .d (.v (.bool true)), .d (.v (.slice none 0 0))] 38), (8, .row nw fw 2 45), (9, .cells [.d (.v (.int .u8 tk)), .d (.v (.int .i64 tl)), .d (.v (.string tt)), .d (.v (.bool tq))] 47)], 10⟩ (kEnd Try.prog Try.f8 0)
noncomputable def L84 (K : SK) (op : Wd → Bool) (g m : Nat) (s : ByteArray) (a l c : Int) (bg : Bool) (ln : Int) (nw : Nat) (fw : FD) (n0 : Nat) (f0 : FD) (n1 : Nat) (f1 : FD) (n2 : Nat) (f2 : FD) (n3 : Nat) (f3 : FD) (n4 : Nat) (f4 : FD) (b0 : Int) (w0 : D) (b1 : Int) (w1 : D) (b2 : Int) (w2 : D) (b3 : Int) (w3 : D) (tk tl : Int) (tt : ByteArray) (tq : Bool) := gotoK (R := AV × Hp) Try.prog (o8 K op) ann8 0 g (sub [true, false] (bodyOf Try.f8)) 0 m ⟨frm [(5, .c (.ptr 0 0)), (6, .c (.ptr 1 0)), (7, .c (.ptr 10 0))] 0 Try.f8.ntmps, [(0, .cells [.d (.v (.string s)), .d (.v (.int .i64 a)), .d (.v (.int .i64 l))] 40), (1, .cells [.d (.v (.int .i64 c)), .row 2 1 5, .row 8 4 4, .d (.v (.bool bg)), .d (.v (.int .i64 ln)), .row 9 2 nw, .d (.v (.bool false)), .d (.v (.slice none 0 0))] 43), (2, .cells [.row 3 4 n0, .row 4 4 n1, .row 5 4 n2, .row 6 4 n3, .row 7 4 n4] 23), (3, .row n0 f0 4 38), (4, .row n1 f1 4 38), (5, .row n2 f2 4 38), (6, .row n3 f3 4 38), (7, .row n4 f4 4 38), (8, .cells [.d (.v (.int .i64 b0)), .d w0, .d (.v (.bool true)), .d (.v (.slice none 0 0)), .d (.v (.int .i64 b1)), .d w1, .d (.v (.bool true)), .d (.v (.slice none 0 0)), .d (.v (.int .i64 b2)), .d w2, .d (.v (.bool true)), .d (.v (.slice none 0 0)), .d (.v (.int .i64 b3)), .d w3, .d (.v (.bool true)), .d (.v (.slice none 0 0))] 38), (9, .row nw fw 2 45), (10, .cells [.d (.v (.int .u8 tk)), .d (.v (.int .i64 tl)), .d (.v (.string tt)), .d (.v (.bool tq))] 47)], 11⟩ (kEnd Try.prog Try.f8 0)
set_option maxRecDepth 100000 in
theorem ev8 (K : SK) (op : Wd → Bool) (s : ByteArray) (g : Nat) : callA Try.prog (o8 K op) ann8 g Try.f8 (bodyOf Try.f8) [vS s] [] =
  (bif decide ((↑(ByteArray.size s) : Int) > (12000 : Int))
  then some (T.leaf
  (AV.tup
      [(false, [C.d (D.v (Value.slice none (0 : Nat) (0 : Nat)))]),
        (false, [C.d (D.v (Value.int IntKind.i64 (0 : Int)))]), (false, [C.d (D.v (Value.int IntKind.i64 (4 : Int)))])],
    []))
  else (bif SK.c K s (0 : Int) (1 : Int)
    then (bif tkEr (SK.t K s (0 : Int) (1 : Int)) != (0 : Int)
      then some (T.leaf
  (AV.tup
      [(false, [C.d (D.v (Value.slice none (0 : Nat) (0 : Nat)))]),
        (false,
          [C.d (D.v (Value.int IntKind.i64 (tkEl (SK.t K s (0 : Int) (1 : Int)) (SK.l K s (0 : Int) (1 : Int)))))]),
        (false, [C.d (D.v (Value.int IntKind.i64 (tkEr (SK.t K s (0 : Int) (1 : Int)))))])],
    []))
      else (bif tkKind (SK.t K s (0 : Int) (1 : Int)) == (0 : Int)
        then some (T.leaf
  (AV.tup
      [(false, [C.d (D.v (Value.slice none (0 : Nat) (0 : Nat)))]),
        (false, [C.d (D.v (Value.int IntKind.i64 (0 : Int)))]), (false, [C.d (D.v (Value.int IntKind.i64 (0 : Int)))])],
    []))
        else (bif tkKind (SK.t K s (0 : Int) (1 : Int)) == (119 : Int)
          then (bif !op (Wd.mk (tkTxt (SK.t K s (0 : Int) (1 : Int))) (tkQ (SK.t K s (0 : Int) (1 : Int))))
            then some (T.leaf
  (AV.tup
      [(false, [C.d (D.v (Value.slice none (0 : Nat) (0 : Nat)))]),
        (false,
          [C.d (D.v (Value.int IntKind.i64 (tkLn (SK.t K s (0 : Int) (1 : Int)) (SK.l K s (0 : Int) (1 : Int)))))]),
        (false, [C.d (D.v (Value.int IntKind.i64 (6 : Int)))])],
    []))
            else L8n K op g g s (SK.a K s (0 : Int)
  (1 :
    Int)) (SK.l K s (0 : Int)
  (1 :
    Int)) (IntKind.wrap IntKind.i64
  ((0 : Int) +
    (1 :
      Int))) true (tkLn (SK.t K s (0 : Int) (1 : Int))
  (SK.l K s (0 : Int)
    (1 :
      Int))) (1 : Nat) (chunk
  [D.v (Value.string (tkTxt (SK.t K s (0 : Int) (1 : Int)))), D.v (Value.bool (tkQ (SK.t K s (0 : Int) (1 : Int))))]
  (2 :
    Nat)) (0 : Nat) (fun x =>
  []) (tkKind
  (SK.t K s (0 : Int)
    (1 :
      Int))) (tkLn (SK.t K s (0 : Int) (1 : Int))
  (SK.l K s (0 : Int) (1 : Int))) (tkTxt (SK.t K s (0 : Int) (1 : Int))) (tkQ (SK.t K s (0 : Int) (1 : Int))))
          else (bif tkKind (SK.t K s (0 : Int) (1 : Int)) == (59 : Int)
            then some (T.leaf
  (AV.tup
      [(false, [C.d (D.v (Value.slice none (0 : Nat) (0 : Nat)))]),
        (false,
          [C.d (D.v (Value.int IntKind.i64 (tkLn (SK.t K s (0 : Int) (1 : Int)) (SK.l K s (0 : Int) (1 : Int)))))]),
        (false, [C.d (D.v (Value.int IntKind.i64 (6 : Int)))])],
    []))
            else (bif tkKind (SK.t K s (0 : Int) (1 : Int)) == (123 : Int)
              then some (T.leaf
  (AV.tup
      [(false, [C.d (D.v (Value.slice none (0 : Nat) (0 : Nat)))]),
        (false,
          [C.d (D.v (Value.int IntKind.i64 (tkLn (SK.t K s (0 : Int) (1 : Int)) (SK.l K s (0 : Int) (1 : Int)))))]),
        (false, [C.d (D.v (Value.int IntKind.i64 (6 : Int)))])],
    []))
              else some (T.leaf
  (AV.tup
      [(false, [C.d (D.v (Value.slice none (0 : Nat) (0 : Nat)))]),
        (false,
          [C.d (D.v (Value.int IntKind.i64 (tkLn (SK.t K s (0 : Int) (1 : Int)) (SK.l K s (0 : Int) (1 : Int)))))]),
        (false, [C.d (D.v (Value.int IntKind.i64 (6 : Int)))])],
    [])))))))
    else none)) := by kernel_rfl
set_option maxRecDepth 100000 in
theorem st8n (K : SK) (op : Wd → Bool) (g m : Nat) (s : ByteArray) (a l c : Int) (bg : Bool) (ln : Int) (nw : Nat) (fw : FD) (n0 : Nat) (f0 : FD) (tk tl : Int) (tt : ByteArray) (tq : Bool) : L8n K op g (m + 1) s a l c bg ln nw fw n0 f0 tk tl tt tq =
  (bif SK.c K s a l
  then (bif tkEr (SK.t K s a l) != (0 : Int)
    then some (T.leaf
  (AV.tup
      [(false, [C.d (D.v (Value.slice none (0 : Nat) (0 : Nat)))]),
        (false, [C.d (D.v (Value.int IntKind.i64 (tkEl (SK.t K s a l) (SK.l K s a l))))]),
        (false, [C.d (D.v (Value.int IntKind.i64 (tkEr (SK.t K s a l))))])],
    []))
    else (bif tkKind (SK.t K s a l) == (0 : Int)
      then (bif bg
        then some (T.leaf
  (AV.tup
      [(false, [C.d (D.v (Value.slice none (0 : Nat) (0 : Nat)))]),
        (false, [C.d (D.v (Value.int IntKind.i64 (SK.l K s a l)))]),
        (false, [C.d (D.v (Value.int IntKind.i64 (6 : Int)))])],
    []))
        else some (T.leaf
  (AV.tup
      [(false, [C.row ((0 : Nat)) ((4 : Nat)) n0]), (false, [C.d (D.v (Value.int IntKind.i64 (0 : Int)))]),
        (false, [C.d (D.v (Value.int IntKind.i64 (0 : Int)))])],
    [((0 : Nat), Blk.row n0 f0 ((4 : Nat)) ((38 : Nat)))])))
      else (bif tkKind (SK.t K s a l) == (119 : Int)
        then (bif !bg
          then (bif !op (Wd.mk (tkTxt (SK.t K s a l)) (tkQ (SK.t K s a l)))
            then some (T.leaf
  (AV.tup
      [(false, [C.d (D.v (Value.slice none (0 : Nat) (0 : Nat)))]),
        (false, [C.d (D.v (Value.int IntKind.i64 (tkLn (SK.t K s a l) (SK.l K s a l))))]),
        (false, [C.d (D.v (Value.int IntKind.i64 (6 : Int)))])],
    []))
            else (bif c == (600 : Int)
              then some (T.leaf
  (AV.tup
      [(false, [C.d (D.v (Value.slice none (0 : Nat) (0 : Nat)))]),
        (false, [C.d (D.v (Value.int IntKind.i64 (tkLn (SK.t K s a l) (SK.l K s a l))))]),
        (false, [C.d (D.v (Value.int IntKind.i64 (3 : Int)))])],
    []))
              else L8n K op g m s (SK.a K s a
  l) (SK.l K s a
  l) (IntKind.wrap IntKind.i64
  (c +
    (1 :
      Int))) true (tkLn (SK.t K s a l)
  (SK.l K s a
    l)) (1 : Nat) (chunk [D.v (Value.string (tkTxt (SK.t K s a l))), D.v (Value.bool (tkQ (SK.t K s a l)))]
  (2 :
    Nat)) n0 f0 (tkKind
  (SK.t K s a l)) (tkLn (SK.t K s a l) (SK.l K s a l)) (tkTxt (SK.t K s a l)) (tkQ (SK.t K s a l))))
          else (bif (↑nw : Int) == (40 : Int)
            then some (T.leaf
  (AV.tup
      [(false, [C.d (D.v (Value.slice none (0 : Nat) (0 : Nat)))]),
        (false, [C.d (D.v (Value.int IntKind.i64 (tkLn (SK.t K s a l) (SK.l K s a l))))]),
        (false, [C.d (D.v (Value.int IntKind.i64 (3 : Int)))])],
    []))
            else (bif decide ((nw + (1 : Nat)) * (24 : Nat) ≤ (140737488355328 : Nat)) &&
  decide (nw + (1 : Nat) ≤ (9223372036854775807 : Nat))
              then L8n K op g m s (SK.a K s a
  l) (SK.l K s a
  l) c bg ln (nw +
  (1 : Nat)) (appD (some ((0 : Nat) + (1 : Nat) + (1 : Nat) + (1 : Nat), nw))
  (dstLen (some ((0 : Nat) + (1 : Nat) + (1 : Nat) + (1 : Nat), nw))) fw
  (chunk [D.v (Value.string (tkTxt (SK.t K s a l))), D.v (Value.bool (tkQ (SK.t K s a l)))]
    ((1 : Nat) +
      (1 :
        Nat)))) n0 f0 (tkKind
  (SK.t K s a l)) (tkLn (SK.t K s a l) (SK.l K s a l)) (tkTxt (SK.t K s a l)) (tkQ (SK.t K s a l))
              else none)))
        else (bif tkKind (SK.t K s a l) == (59 : Int)
          then (bif !bg
            then some (T.leaf
  (AV.tup
      [(false, [C.d (D.v (Value.slice none (0 : Nat) (0 : Nat)))]),
        (false, [C.d (D.v (Value.int IntKind.i64 (tkLn (SK.t K s a l) (SK.l K s a l))))]),
        (false, [C.d (D.v (Value.int IntKind.i64 (6 : Int)))])],
    []))
            else (bif decide ((n0 + (1 : Nat)) * (64 : Nat) ≤ (140737488355328 : Nat))
              then L8n K op g m s (SK.a K s a
  l) (SK.l K s a
  l) c false ((0 :
  Int)) (0 : Nat) (fun x =>
  []) (n0 +
  (1 :
    Nat)) (apd n0 f0
  [D.v (Value.int IntKind.i64 ln), D.sl (2 : Nat) nw fw, D.v (Value.bool false),
    D.v
      (Value.slice none (0 : Nat)
        (0 :
          Nat))]) (tkKind
  (SK.t K s a l)) (tkLn (SK.t K s a l) (SK.l K s a l)) (tkTxt (SK.t K s a l)) (tkQ (SK.t K s a l))
              else none))
          else (bif tkKind (SK.t K s a l) == (123 : Int)
            then (bif !bg
              then some (T.leaf
  (AV.tup
      [(false, [C.d (D.v (Value.slice none (0 : Nat) (0 : Nat)))]),
        (false, [C.d (D.v (Value.int IntKind.i64 (tkLn (SK.t K s a l) (SK.l K s a l))))]),
        (false, [C.d (D.v (Value.int IntKind.i64 (6 : Int)))])],
    []))
              else L81 K op g m s (SK.a K s a
  l) (SK.l K s a
  l) c false ((0 :
  Int)) (0 : Nat) (fun x =>
  []) n0 f0 (0 : Nat) (fun x =>
  []) ln (D.sl ((2 : Nat)) nw
  fw) (tkKind (SK.t K s a l)) (tkLn (SK.t K s a l) (SK.l K s a l)) (tkTxt (SK.t K s a l)) (tkQ (SK.t K s a l)))
            else (bif bg
              then some (T.leaf
  (AV.tup
      [(false, [C.d (D.v (Value.slice none (0 : Nat) (0 : Nat)))]),
        (false, [C.d (D.v (Value.int IntKind.i64 (tkLn (SK.t K s a l) (SK.l K s a l))))]),
        (false, [C.d (D.v (Value.int IntKind.i64 (6 : Int)))])],
    []))
              else some (T.leaf
  (AV.tup
      [(false, [C.d (D.v (Value.slice none (0 : Nat) (0 : Nat)))]),
        (false, [C.d (D.v (Value.int IntKind.i64 (tkLn (SK.t K s a l) (SK.l K s a l))))]),
        (false, [C.d (D.v (Value.int IntKind.i64 (6 : Int)))])],
    []))))))))
  else none) := by kernel_rfl
end Go.Proofs.Ytkmmkdeoamhpfaa.ps

