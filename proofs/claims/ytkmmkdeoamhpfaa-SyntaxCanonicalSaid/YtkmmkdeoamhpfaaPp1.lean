/-
  Parse at depth 1: what a round computes. No condition.
-/
import Derived.Test.YtkmmkdeoamhpfaaPp
namespace Go.Proofs.Ytkmmkdeoamhpfaa.ps
open Go.RowKit Go.Eb
set_option maxRecDepth 100000 in
theorem st81 (K : SK) (op : Wd → Bool) (g m : Nat) (s : ByteArray) (a l c : Int) (bg : Bool) (ln : Int) (nw : Nat) (fw : FD) (n0 : Nat) (f0 : FD) (n1 : Nat) (f1 : FD) (b0 : Int) (w0 : D) (tk tl : Int) (tt : ByteArray) (tq : Bool) : L81 K op g (m + 1) s a l c bg ln nw fw n0 f0 n1 f1 b0 w0 tk tl tt tq =
  (bif SK.c K s a l
  then (bif tkEr (SK.t K s a l) != (0 : Int)
    then some (T.leaf
  (AV.tup
      [(false, [C.d (D.v (Value.slice none (0 : Nat) (0 : Nat)))]),
        (false, [C.d (D.v (Value.int IntKind.i64 (tkEl (SK.t K s a l) (SK.l K s a l))))]),
        (false, [C.d (D.v (Value.int IntKind.i64 (tkEr (SK.t K s a l))))])],
    []))
    else (bif tkKind (SK.t K s a l) == (0 : Int)
      then (bif bg
        then some (T.leaf
  (AV.tup
      [(false, [C.d (D.v (Value.slice none (0 : Nat) (0 : Nat)))]),
        (false, [C.d (D.v (Value.int IntKind.i64 (SK.l K s a l)))]),
        (false, [C.d (D.v (Value.int IntKind.i64 (6 : Int)))])],
    []))
        else some (T.leaf
  (AV.tup
      [(false, [C.d (D.v (Value.slice none (0 : Nat) (0 : Nat)))]),
        (false, [C.d (D.v (Value.int IntKind.i64 (SK.l K s a l)))]),
        (false, [C.d (D.v (Value.int IntKind.i64 (6 : Int)))])],
    [])))
      else (bif tkKind (SK.t K s a l) == (119 : Int)
        then (bif !bg
          then (bif !op (Wd.mk (tkTxt (SK.t K s a l)) (tkQ (SK.t K s a l)))
            then some (T.leaf
  (AV.tup
      [(false, [C.d (D.v (Value.slice none (0 : Nat) (0 : Nat)))]),
        (false, [C.d (D.v (Value.int IntKind.i64 (tkLn (SK.t K s a l) (SK.l K s a l))))]),
        (false, [C.d (D.v (Value.int IntKind.i64 (6 : Int)))])],
    []))
            else (bif c == (600 : Int)
              then some (T.leaf
  (AV.tup
      [(false, [C.d (D.v (Value.slice none (0 : Nat) (0 : Nat)))]),
        (false, [C.d (D.v (Value.int IntKind.i64 (tkLn (SK.t K s a l) (SK.l K s a l))))]),
        (false, [C.d (D.v (Value.int IntKind.i64 (3 : Int)))])],
    []))
              else L81 K op g m s (SK.a K s a
  l) (SK.l K s a
  l) (IntKind.wrap IntKind.i64
  (c +
    (1 :
      Int))) true (tkLn (SK.t K s a l)
  (SK.l K s a
    l)) (1 : Nat) (chunk [D.v (Value.string (tkTxt (SK.t K s a l))), D.v (Value.bool (tkQ (SK.t K s a l)))]
  (2 :
    Nat)) n0 f0 n1 f1 b0 w0 (tkKind
  (SK.t K s a l)) (tkLn (SK.t K s a l) (SK.l K s a l)) (tkTxt (SK.t K s a l)) (tkQ (SK.t K s a l))))
          else (bif (↑nw : Int) == (40 : Int)
            then some (T.leaf
  (AV.tup
      [(false, [C.d (D.v (Value.slice none (0 : Nat) (0 : Nat)))]),
        (false, [C.d (D.v (Value.int IntKind.i64 (tkLn (SK.t K s a l) (SK.l K s a l))))]),
        (false, [C.d (D.v (Value.int IntKind.i64 (3 : Int)))])],
    []))
            else (bif decide ((nw + (1 : Nat)) * (24 : Nat) ≤ (140737488355328 : Nat)) &&
  decide (nw + (1 : Nat) ≤ (9223372036854775807 : Nat))
              then L81 K op g m s (SK.a K s a
  l) (SK.l K s a
  l) c bg ln (nw +
  (1 : Nat)) (appD (some ((0 : Nat) + (1 : Nat) + (1 : Nat) + (1 : Nat) + (1 : Nat) + (1 : Nat), nw))
  (dstLen (some ((0 : Nat) + (1 : Nat) + (1 : Nat) + (1 : Nat) + (1 : Nat) + (1 : Nat), nw))) fw
  (chunk [D.v (Value.string (tkTxt (SK.t K s a l))), D.v (Value.bool (tkQ (SK.t K s a l)))]
    ((1 : Nat) +
      (1 :
        Nat)))) n0 f0 n1 f1 b0 w0 (tkKind
  (SK.t K s a l)) (tkLn (SK.t K s a l) (SK.l K s a l)) (tkTxt (SK.t K s a l)) (tkQ (SK.t K s a l))
              else none)))
        else (bif tkKind (SK.t K s a l) == (59 : Int)
          then (bif !bg
            then some (T.leaf
  (AV.tup
      [(false, [C.d (D.v (Value.slice none (0 : Nat) (0 : Nat)))]),
        (false, [C.d (D.v (Value.int IntKind.i64 (tkLn (SK.t K s a l) (SK.l K s a l))))]),
        (false, [C.d (D.v (Value.int IntKind.i64 (6 : Int)))])],
    []))
            else (bif decide ((n1 + (1 : Nat)) * (64 : Nat) ≤ (140737488355328 : Nat))
              then L81 K op g m s (SK.a K s a
  l) (SK.l K s a
  l) c false ((0 :
  Int)) (0 : Nat) (fun x =>
  []) n0 f0 (n1 +
  (1 :
    Nat)) (apd n1 f1
  [D.v (Value.int IntKind.i64 ln), D.sl (2 : Nat) nw fw, D.v (Value.bool false),
    D.v
      (Value.slice none (0 : Nat)
        (0 :
          Nat))]) b0 w0 (tkKind
  (SK.t K s a l)) (tkLn (SK.t K s a l) (SK.l K s a l)) (tkTxt (SK.t K s a l)) (tkQ (SK.t K s a l))
              else none))
          else (bif tkKind (SK.t K s a l) == (123 : Int)
            then (bif !bg
              then some (T.leaf
  (AV.tup
      [(false, [C.d (D.v (Value.slice none (0 : Nat) (0 : Nat)))]),
        (false, [C.d (D.v (Value.int IntKind.i64 (tkLn (SK.t K s a l) (SK.l K s a l))))]),
        (false, [C.d (D.v (Value.int IntKind.i64 (6 : Int)))])],
    []))
              else L82 K op g m s (SK.a K s a
  l) (SK.l K s a
  l) c false ((0 :
  Int)) (0 : Nat) (fun x =>
  []) n0 f0 n1 f1 (0 : Nat) (fun x =>
  []) b0 w0 ln (D.sl ((2 : Nat)) nw
  fw) (tkKind (SK.t K s a l)) (tkLn (SK.t K s a l) (SK.l K s a l)) (tkTxt (SK.t K s a l)) (tkQ (SK.t K s a l)))
            else (bif bg
              then some (T.leaf
  (AV.tup
      [(false, [C.d (D.v (Value.slice none (0 : Nat) (0 : Nat)))]),
        (false, [C.d (D.v (Value.int IntKind.i64 (tkLn (SK.t K s a l) (SK.l K s a l))))]),
        (false, [C.d (D.v (Value.int IntKind.i64 (6 : Int)))])],
    []))
              else (bif decide ((n0 + (1 : Nat)) * (64 : Nat) ≤ (140737488355328 : Nat))
                then L80 K op g m s (SK.a K s a
  l) (SK.l K s a
  l) c false ((0 :
  Int)) (0 : Nat) (fun x =>
  []) (n0 +
  (1 :
    Nat)) (apd n0 f0
  [D.v (Value.int IntKind.i64 b0), w0, D.v (Value.bool true),
    D.sl (4 : Nat) n1
      f1]) (tkKind (SK.t K s a l)) (tkLn (SK.t K s a l) (SK.l K s a l)) (tkTxt (SK.t K s a l)) (tkQ (SK.t K s a l))
                else none)))))))
  else none) := by kernel_rfl
end Go.Proofs.Ytkmmkdeoamhpfaa.ps
