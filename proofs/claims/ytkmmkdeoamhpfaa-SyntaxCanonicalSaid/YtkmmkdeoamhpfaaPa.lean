/-
  The parser's add, by the depth of blocks: what it computes. No condition.
-/
import Derived.Test.YtkmmkdeoamhpfaaEb
import Derived.Test.YtkmmkdeoamhpfaaPs
namespace Go.Proofs.Ytkmmkdeoamhpfaa.ps
open Go.RowKit Go.Eb

abbrev FD := Nat → List D
/-- a row with one more element -/
def apd (n : Nat) (f : FD) (x : List D) : FD := fun j => bif Nat.beq j n then x else f j

set_option maxRecDepth 100000 in
theorem adns (c : Int) (bg : Bool) (ln : Int) (nw : Nat) (bk : Bool) (m0 n0 : Nat) (f0 : FD) (kw : Nat) (fw : FD) (ln2 : Int) (nw2 : Nat) (bk2 : Bool) : callA Try.prog Orc.nil na 1 Try.f44 (bodyOf Try.f44) [.c (.ptr 0 0), .agg [.d (.v (.int .i64 ln2)), .row 3 2 nw2, .d (.v (.bool bk2)), .d (.v (.slice none 0 0))]] [(0, .cells [.d (.v (.int .i64 c)), .row 1 1 1, .d (.v (.slice none 0 0)), .d (.v (.bool bg)), .d (.v (.int .i64 ln)), .row 3 2 nw, .d (.v (.bool bk)), .d (.v (.slice none 0 0))] 43), (1, .cells [.row 2 4 m0] 23), (2, .row n0 f0 4 38), (3, .row kw fw 2 45)] =
  both ((bif decide ((m0 + (1 : Nat)) * (64 : Nat) ≤ (140737488355328 : Nat)) &&
  decide (m0 + (1 : Nat) ≤ (9223372036854775807 : Nat))
    then some (T.leaf
  (AV.tup [],
    [((0 : Nat),
        Blk.cells
          [C.d (D.v (Value.int IntKind.i64 c)), C.row ((1 : Nat)) ((1 : Nat)) ((1 : Nat)),
            C.d (D.v (Value.slice none (0 : Nat) (0 : Nat))), C.d (D.v (Value.bool bg)),
            C.d (D.v (Value.int IntKind.i64 ln)), C.row ((3 : Nat)) ((2 : Nat)) nw, C.d (D.v (Value.bool bk)),
            C.d (D.v (Value.slice none (0 : Nat) (0 : Nat)))]
          ((43 : Nat))),
      ((1 : Nat), Blk.cells [C.row ((4 : Nat)) ((4 : Nat)) (m0 + (1 : Nat))] ((23 : Nat))), ((2 : Nat), Blk.dead),
      ((3 : Nat), Blk.dead),
      ((4 : Nat),
        Blk.row (m0 + (1 : Nat))
          (appD (some ((2 : Nat), m0)) (dstLen (some ((2 : Nat), m0))) f0
            (chunk
              [D.v (Value.int IntKind.i64 ln2), D.sl (2 : Nat) nw2 fw, D.v (Value.bool bk2),
                D.v (Value.slice none (0 : Nat) (0 : Nat))]
              ((3 : Nat) + (1 : Nat))))
          ((4 : Nat)) ((38 : Nat)))]))
    else none))
  ((bif decide ((m0 + (1 : Nat)) * (64 : Nat) ≤ (140737488355328 : Nat)) &&
  decide (m0 + (1 : Nat) ≤ (9223372036854775807 : Nat))
    then (bif decide ((0 : Int) ≤ (↑m0 : Int)) && decide ((↑m0 : Int) < (↑(m0 + (1 : Nat)) : Int))
      then some (T.leaf
  (AV.tup [],
    [((0 : Nat),
        Blk.cells
          [C.d (D.v (Value.int IntKind.i64 c)), C.row ((1 : Nat)) ((1 : Nat)) ((1 : Nat)),
            C.d (D.v (Value.slice none (0 : Nat) (0 : Nat))), C.d (D.v (Value.bool bg)),
            C.d (D.v (Value.int IntKind.i64 ln)), C.row ((3 : Nat)) ((2 : Nat)) nw, C.d (D.v (Value.bool bk)),
            C.d (D.v (Value.slice none (0 : Nat) (0 : Nat)))]
          ((43 : Nat))),
      ((1 : Nat), Blk.cells [C.row ((4 : Nat)) ((4 : Nat)) (m0 + (1 : Nat))] ((23 : Nat))), ((2 : Nat), Blk.dead),
      ((3 : Nat), Blk.dead),
      ((4 : Nat),
        Blk.row (m0 + (1 : Nat))
          (fun j =>
            bif Nat.beq j (Int.toNat (↑m0 : Int)) then
              splice
                (appD (some ((2 : Nat), m0)) (dstLen (some ((2 : Nat), m0))) f0
                  (chunk
                    [D.v (Value.int IntKind.i64 (0 : Int)), D.v (Value.slice none (0 : Nat) (0 : Nat)),
                      D.v (Value.bool false), D.v (Value.slice none (0 : Nat) (0 : Nat))]
                    ((3 : Nat) + (1 : Nat)))
                  j)
                (0 : Nat)
                [D.v (Value.int IntKind.i64 ln2), D.sl (2 : Nat) nw2 fw, D.v (Value.bool bk2),
                  D.v (Value.slice none (0 : Nat) (0 : Nat))]
            else
              appD (some ((2 : Nat), m0)) (dstLen (some ((2 : Nat), m0))) f0
                (chunk
                  [D.v (Value.int IntKind.i64 (0 : Int)), D.v (Value.slice none (0 : Nat) (0 : Nat)),
                    D.v (Value.bool false), D.v (Value.slice none (0 : Nat) (0 : Nat))]
                  ((3 : Nat) + (1 : Nat)))
                j)
          ((4 : Nat)) ((38 : Nat)))]))
      else none)
    else none)) := by kernel_rfl
set_option maxRecDepth 100000 in
theorem ad0s (c : Int) (bg : Bool) (ln : Int) (nw : Nat) (bk : Bool) (m0 n0 : Nat) (f0 : FD) (kw : Nat) (fw : FD) (ln2 : Int) (nw2 : Nat) (bk2 : Bool) : callA Try.prog Orc.nil na 1 Try.f44 (bodyOf Try.f44) [.c (.ptr 0 0), .agg [.d (.v (.int .i64 ln2)), .row 4 2 nw2, .d (.v (.bool bk2)), .d (.v (.slice none 0 0))]] [(0, .cells [.d (.v (.int .i64 c)), .row 1 1 1, .row 3 4 0, .d (.v (.bool bg)), .d (.v (.int .i64 ln)), .row 4 2 nw, .d (.v (.bool bk)), .d (.v (.slice none 0 0))] 43), (1, .cells [.row 2 4 m0] 23), (2, .row n0 f0 4 38), (3, .cells [] 38), (4, .row kw fw 2 45)] =
  both ((bif decide ((m0 + (1 : Nat)) * (64 : Nat) ≤ (140737488355328 : Nat)) &&
  decide (m0 + (1 : Nat) ≤ (9223372036854775807 : Nat))
    then some (T.leaf
  (AV.tup [],
    [((0 : Nat),
        Blk.cells
          [C.d (D.v (Value.int IntKind.i64 c)), C.row ((1 : Nat)) ((1 : Nat)) ((1 : Nat)),
            C.row ((3 : Nat)) ((4 : Nat)) ((0 : Nat)), C.d (D.v (Value.bool bg)), C.d (D.v (Value.int IntKind.i64 ln)),
            C.row ((4 : Nat)) ((2 : Nat)) nw, C.d (D.v (Value.bool bk)),
            C.d (D.v (Value.slice none (0 : Nat) (0 : Nat)))]
          ((43 : Nat))),
      ((1 : Nat), Blk.cells [C.row ((5 : Nat)) ((4 : Nat)) (m0 + (1 : Nat))] ((23 : Nat))), ((2 : Nat), Blk.dead),
      ((3 : Nat), Blk.cells [] ((38 : Nat))), ((4 : Nat), Blk.dead),
      ((5 : Nat),
        Blk.row (m0 + (1 : Nat))
          (appD (some ((2 : Nat), m0)) (dstLen (some ((2 : Nat), m0))) f0
            (chunk
              [D.v (Value.int IntKind.i64 ln2), D.sl (2 : Nat) nw2 fw, D.v (Value.bool bk2),
                D.v (Value.slice none (0 : Nat) (0 : Nat))]
              ((3 : Nat) + (1 : Nat))))
          ((4 : Nat)) ((38 : Nat)))]))
    else none))
  ((bif decide ((m0 + (1 : Nat)) * (64 : Nat) ≤ (140737488355328 : Nat)) &&
  decide (m0 + (1 : Nat) ≤ (9223372036854775807 : Nat))
    then (bif decide ((0 : Int) ≤ (↑m0 : Int)) && decide ((↑m0 : Int) < (↑(m0 + (1 : Nat)) : Int))
      then some (T.leaf
  (AV.tup [],
    [((0 : Nat),
        Blk.cells
          [C.d (D.v (Value.int IntKind.i64 c)), C.row ((1 : Nat)) ((1 : Nat)) ((1 : Nat)),
            C.row ((3 : Nat)) ((4 : Nat)) ((0 : Nat)), C.d (D.v (Value.bool bg)), C.d (D.v (Value.int IntKind.i64 ln)),
            C.row ((4 : Nat)) ((2 : Nat)) nw, C.d (D.v (Value.bool bk)),
            C.d (D.v (Value.slice none (0 : Nat) (0 : Nat)))]
          ((43 : Nat))),
      ((1 : Nat), Blk.cells [C.row ((5 : Nat)) ((4 : Nat)) (m0 + (1 : Nat))] ((23 : Nat))), ((2 : Nat), Blk.dead),
      ((3 : Nat), Blk.cells [] ((38 : Nat))), ((4 : Nat), Blk.dead),
      ((5 : Nat),
        Blk.row (m0 + (1 : Nat))
          (fun j =>
            bif Nat.beq j (Int.toNat (↑m0 : Int)) then
              splice
                (appD (some ((2 : Nat), m0)) (dstLen (some ((2 : Nat), m0))) f0
                  (chunk
                    [D.v (Value.int IntKind.i64 (0 : Int)), D.v (Value.slice none (0 : Nat) (0 : Nat)),
                      D.v (Value.bool false), D.v (Value.slice none (0 : Nat) (0 : Nat))]
                    ((3 : Nat) + (1 : Nat)))
                  j)
                (0 : Nat)
                [D.v (Value.int IntKind.i64 ln2), D.sl (2 : Nat) nw2 fw, D.v (Value.bool bk2),
                  D.v (Value.slice none (0 : Nat) (0 : Nat))]
            else
              appD (some ((2 : Nat), m0)) (dstLen (some ((2 : Nat), m0))) f0
                (chunk
                  [D.v (Value.int IntKind.i64 (0 : Int)), D.v (Value.slice none (0 : Nat) (0 : Nat)),
                    D.v (Value.bool false), D.v (Value.slice none (0 : Nat) (0 : Nat))]
                  ((3 : Nat) + (1 : Nat)))
                j)
          ((4 : Nat)) ((38 : Nat)))]))
      else none)
    else none)) := by kernel_rfl
set_option maxRecDepth 100000 in
theorem ad1s (c : Int) (bg : Bool) (ln : Int) (nw : Nat) (bk : Bool) (m0 n0 : Nat) (f0 : FD) (m1 n1 : Nat) (f1 : FD) (x0 y0 z0 u0 : D) (kw : Nat) (fw : FD) (ln2 : Int) (nw2 : Nat) (bk2 : Bool) : callA Try.prog Orc.nil na 1 Try.f44 (bodyOf Try.f44) [.c (.ptr 0 0), .agg [.d (.v (.int .i64 ln2)), .row 5 2 nw2, .d (.v (.bool bk2)), .d (.v (.slice none 0 0))]] [(0, .cells [.d (.v (.int .i64 c)), .row 1 1 2, .row 4 4 1, .d (.v (.bool bg)), .d (.v (.int .i64 ln)), .row 5 2 nw, .d (.v (.bool bk)), .d (.v (.slice none 0 0))] 43), (1, .cells [.row 2 4 m0, .row 3 4 m1] 23), (2, .row n0 f0 4 38), (3, .row n1 f1 4 38), (4, .cells [.d x0, .d y0, .d z0, .d u0] 38), (5, .row kw fw 2 45)] =
  both ((bif decide ((m1 + (1 : Nat)) * (64 : Nat) ≤ (140737488355328 : Nat)) &&
  decide (m1 + (1 : Nat) ≤ (9223372036854775807 : Nat))
    then some (T.leaf
  (AV.tup [],
    [((0 : Nat),
        Blk.cells
          [C.d (D.v (Value.int IntKind.i64 c)), C.row ((1 : Nat)) ((1 : Nat)) ((2 : Nat)),
            C.row ((4 : Nat)) ((4 : Nat)) ((1 : Nat)), C.d (D.v (Value.bool bg)), C.d (D.v (Value.int IntKind.i64 ln)),
            C.row ((5 : Nat)) ((2 : Nat)) nw, C.d (D.v (Value.bool bk)),
            C.d (D.v (Value.slice none (0 : Nat) (0 : Nat)))]
          ((43 : Nat))),
      ((1 : Nat),
        Blk.cells [C.row ((2 : Nat)) ((4 : Nat)) m0, C.row ((6 : Nat)) ((4 : Nat)) (m1 + (1 : Nat))] ((23 : Nat))),
      ((2 : Nat), Blk.row n0 f0 ((4 : Nat)) ((38 : Nat))), ((3 : Nat), Blk.dead),
      ((4 : Nat), Blk.cells [C.d x0, C.d y0, C.d z0, C.d u0] ((38 : Nat))), ((5 : Nat), Blk.dead),
      ((6 : Nat),
        Blk.row (m1 + (1 : Nat))
          (appD (some ((3 : Nat), m1)) (dstLen (some ((3 : Nat), m1))) f1
            (chunk
              [D.v (Value.int IntKind.i64 ln2), D.sl (2 : Nat) nw2 fw, D.v (Value.bool bk2),
                D.v (Value.slice none (0 : Nat) (0 : Nat))]
              ((3 : Nat) + (1 : Nat))))
          ((4 : Nat)) ((38 : Nat)))]))
    else none))
  ((bif decide ((m1 + (1 : Nat)) * (64 : Nat) ≤ (140737488355328 : Nat)) &&
  decide (m1 + (1 : Nat) ≤ (9223372036854775807 : Nat))
    then (bif decide ((0 : Int) ≤ (↑m1 : Int)) && decide ((↑m1 : Int) < (↑(m1 + (1 : Nat)) : Int))
      then some (T.leaf
  (AV.tup [],
    [((0 : Nat),
        Blk.cells
          [C.d (D.v (Value.int IntKind.i64 c)), C.row ((1 : Nat)) ((1 : Nat)) ((2 : Nat)),
            C.row ((4 : Nat)) ((4 : Nat)) ((1 : Nat)), C.d (D.v (Value.bool bg)), C.d (D.v (Value.int IntKind.i64 ln)),
            C.row ((5 : Nat)) ((2 : Nat)) nw, C.d (D.v (Value.bool bk)),
            C.d (D.v (Value.slice none (0 : Nat) (0 : Nat)))]
          ((43 : Nat))),
      ((1 : Nat),
        Blk.cells [C.row ((2 : Nat)) ((4 : Nat)) m0, C.row ((6 : Nat)) ((4 : Nat)) (m1 + (1 : Nat))] ((23 : Nat))),
      ((2 : Nat), Blk.row n0 f0 ((4 : Nat)) ((38 : Nat))), ((3 : Nat), Blk.dead),
      ((4 : Nat), Blk.cells [C.d x0, C.d y0, C.d z0, C.d u0] ((38 : Nat))), ((5 : Nat), Blk.dead),
      ((6 : Nat),
        Blk.row (m1 + (1 : Nat))
          (fun j =>
            bif Nat.beq j (Int.toNat (↑m1 : Int)) then
              splice
                (appD (some ((3 : Nat), m1)) (dstLen (some ((3 : Nat), m1))) f1
                  (chunk
                    [D.v (Value.int IntKind.i64 (0 : Int)), D.v (Value.slice none (0 : Nat) (0 : Nat)),
                      D.v (Value.bool false), D.v (Value.slice none (0 : Nat) (0 : Nat))]
                    ((3 : Nat) + (1 : Nat)))
                  j)
                (0 : Nat)
                [D.v (Value.int IntKind.i64 ln2), D.sl (2 : Nat) nw2 fw, D.v (Value.bool bk2),
                  D.v (Value.slice none (0 : Nat) (0 : Nat))]
            else
              appD (some ((3 : Nat), m1)) (dstLen (some ((3 : Nat), m1))) f1
                (chunk
                  [D.v (Value.int IntKind.i64 (0 : Int)), D.v (Value.slice none (0 : Nat) (0 : Nat)),
                    D.v (Value.bool false), D.v (Value.slice none (0 : Nat) (0 : Nat))]
                  ((3 : Nat) + (1 : Nat)))
                j)
          ((4 : Nat)) ((38 : Nat)))]))
      else none)
    else none)) := by kernel_rfl
set_option maxRecDepth 100000 in
theorem ad1c (c : Int) (bg : Bool) (ln : Int) (nw : Nat) (bk : Bool) (m0 n0 : Nat) (f0 : FD) (m1 n1 : Nat) (f1 : FD) (x0 y0 z0 u0 : D) (kw : Nat) (fw : FD) (x y z : D) (mk : Nat) : callA Try.prog Orc.nil na 1 Try.f44 (bodyOf Try.f44) [.c (.ptr 0 0), .agg [.d x, .d y, .d z, .row 3 4 mk]] [(0, .cells [.d (.v (.int .i64 c)), .row 1 1 1, .row 4 4 0, .d (.v (.bool bg)), .d (.v (.int .i64 ln)), .row 5 2 nw, .d (.v (.bool bk)), .d (.v (.slice none 0 0))] 43), (1, .cells [.row 2 4 m0, .row 3 4 m1] 23), (2, .row n0 f0 4 38), (3, .row n1 f1 4 38), (4, .cells [.d x0, .d y0, .d z0, .d u0] 38), (5, .row kw fw 2 45)] =
  both ((bif decide ((m0 + (1 : Nat)) * (64 : Nat) ≤ (140737488355328 : Nat)) &&
  decide (m0 + (1 : Nat) ≤ (9223372036854775807 : Nat))
    then some (T.leaf
  (AV.tup [],
    [((0 : Nat),
        Blk.cells
          [C.d (D.v (Value.int IntKind.i64 c)), C.row ((1 : Nat)) ((1 : Nat)) ((1 : Nat)),
            C.row ((4 : Nat)) ((4 : Nat)) ((0 : Nat)), C.d (D.v (Value.bool bg)), C.d (D.v (Value.int IntKind.i64 ln)),
            C.row ((5 : Nat)) ((2 : Nat)) nw, C.d (D.v (Value.bool bk)),
            C.d (D.v (Value.slice none (0 : Nat) (0 : Nat)))]
          ((43 : Nat))),
      ((1 : Nat),
        Blk.cells [C.row ((6 : Nat)) ((4 : Nat)) (m0 + (1 : Nat)), C.row ((3 : Nat)) ((4 : Nat)) m1] ((23 : Nat))),
      ((2 : Nat), Blk.dead), ((3 : Nat), Blk.dead),
      ((4 : Nat), Blk.cells [C.d x0, C.d y0, C.d z0, C.d u0] ((38 : Nat))),
      ((5 : Nat), Blk.row kw fw ((2 : Nat)) ((45 : Nat))),
      ((6 : Nat),
        Blk.row (m0 + (1 : Nat))
          (appD (some ((2 : Nat), m0)) (dstLen (some ((2 : Nat), m0))) f0
            (chunk [x, y, z, D.sl (4 : Nat) mk f1] ((3 : Nat) + (1 : Nat))))
          ((4 : Nat)) ((38 : Nat)))]))
    else none))
  ((bif decide ((m0 + (1 : Nat)) * (64 : Nat) ≤ (140737488355328 : Nat)) &&
  decide (m0 + (1 : Nat) ≤ (9223372036854775807 : Nat))
    then (bif decide ((0 : Int) ≤ (↑m0 : Int)) && decide ((↑m0 : Int) < (↑(m0 + (1 : Nat)) : Int))
      then some (T.leaf
  (AV.tup [],
    [((0 : Nat),
        Blk.cells
          [C.d (D.v (Value.int IntKind.i64 c)), C.row ((1 : Nat)) ((1 : Nat)) ((1 : Nat)),
            C.row ((4 : Nat)) ((4 : Nat)) ((0 : Nat)), C.d (D.v (Value.bool bg)), C.d (D.v (Value.int IntKind.i64 ln)),
            C.row ((5 : Nat)) ((2 : Nat)) nw, C.d (D.v (Value.bool bk)),
            C.d (D.v (Value.slice none (0 : Nat) (0 : Nat)))]
          ((43 : Nat))),
      ((1 : Nat),
        Blk.cells [C.row ((6 : Nat)) ((4 : Nat)) (m0 + (1 : Nat)), C.row ((3 : Nat)) ((4 : Nat)) m1] ((23 : Nat))),
      ((2 : Nat), Blk.dead), ((3 : Nat), Blk.dead),
      ((4 : Nat), Blk.cells [C.d x0, C.d y0, C.d z0, C.d u0] ((38 : Nat))),
      ((5 : Nat), Blk.row kw fw ((2 : Nat)) ((45 : Nat))),
      ((6 : Nat),
        Blk.row (m0 + (1 : Nat))
          (fun j =>
            bif Nat.beq j (Int.toNat (↑m0 : Int)) then
              splice
                (appD (some ((2 : Nat), m0)) (dstLen (some ((2 : Nat), m0))) f0
                  (chunk
                    [D.v (Value.int IntKind.i64 (0 : Int)), D.v (Value.slice none (0 : Nat) (0 : Nat)),
                      D.v (Value.bool false), D.v (Value.slice none (0 : Nat) (0 : Nat))]
                    ((3 : Nat) + (1 : Nat)))
                  j)
                (0 : Nat) [x, y, z, D.sl (4 : Nat) mk f1]
            else
              appD (some ((2 : Nat), m0)) (dstLen (some ((2 : Nat), m0))) f0
                (chunk
                  [D.v (Value.int IntKind.i64 (0 : Int)), D.v (Value.slice none (0 : Nat) (0 : Nat)),
                    D.v (Value.bool false), D.v (Value.slice none (0 : Nat) (0 : Nat))]
                  ((3 : Nat) + (1 : Nat)))
                j)
          ((4 : Nat)) ((38 : Nat)))]))
      else none)
    else none)) := by kernel_rfl
set_option maxRecDepth 100000 in
theorem ad2s (c : Int) (bg : Bool) (ln : Int) (nw : Nat) (bk : Bool) (m0 n0 : Nat) (f0 : FD) (m1 n1 : Nat) (f1 : FD) (m2 n2 : Nat) (f2 : FD) (x0 y0 z0 u0 : D) (x1 y1 z1 u1 : D) (kw : Nat) (fw : FD) (ln2 : Int) (nw2 : Nat) (bk2 : Bool) : callA Try.prog Orc.nil na 1 Try.f44 (bodyOf Try.f44) [.c (.ptr 0 0), .agg [.d (.v (.int .i64 ln2)), .row 6 2 nw2, .d (.v (.bool bk2)), .d (.v (.slice none 0 0))]] [(0, .cells [.d (.v (.int .i64 c)), .row 1 1 3, .row 5 4 2, .d (.v (.bool bg)), .d (.v (.int .i64 ln)), .row 6 2 nw, .d (.v (.bool bk)), .d (.v (.slice none 0 0))] 43), (1, .cells [.row 2 4 m0, .row 3 4 m1, .row 4 4 m2] 23), (2, .row n0 f0 4 38), (3, .row n1 f1 4 38), (4, .row n2 f2 4 38), (5, .cells [.d x0, .d y0, .d z0, .d u0, .d x1, .d y1, .d z1, .d u1] 38), (6, .row kw fw 2 45)] =
  both ((bif decide ((m2 + (1 : Nat)) * (64 : Nat) ≤ (140737488355328 : Nat)) &&
  decide (m2 + (1 : Nat) ≤ (9223372036854775807 : Nat))
    then some (T.leaf
  (AV.tup [],
    [((0 : Nat),
        Blk.cells
          [C.d (D.v (Value.int IntKind.i64 c)), C.row ((1 : Nat)) ((1 : Nat)) ((3 : Nat)),
            C.row ((5 : Nat)) ((4 : Nat)) ((2 : Nat)), C.d (D.v (Value.bool bg)), C.d (D.v (Value.int IntKind.i64 ln)),
            C.row ((6 : Nat)) ((2 : Nat)) nw, C.d (D.v (Value.bool bk)),
            C.d (D.v (Value.slice none (0 : Nat) (0 : Nat)))]
          ((43 : Nat))),
      ((1 : Nat),
        Blk.cells
          [C.row ((2 : Nat)) ((4 : Nat)) m0, C.row ((3 : Nat)) ((4 : Nat)) m1,
            C.row ((7 : Nat)) ((4 : Nat)) (m2 + (1 : Nat))]
          ((23 : Nat))),
      ((2 : Nat), Blk.row n0 f0 ((4 : Nat)) ((38 : Nat))), ((3 : Nat), Blk.row n1 f1 ((4 : Nat)) ((38 : Nat))),
      ((4 : Nat), Blk.dead),
      ((5 : Nat), Blk.cells [C.d x0, C.d y0, C.d z0, C.d u0, C.d x1, C.d y1, C.d z1, C.d u1] ((38 : Nat))),
      ((6 : Nat), Blk.dead),
      ((7 : Nat),
        Blk.row (m2 + (1 : Nat))
          (appD (some ((4 : Nat), m2)) (dstLen (some ((4 : Nat), m2))) f2
            (chunk
              [D.v (Value.int IntKind.i64 ln2), D.sl (2 : Nat) nw2 fw, D.v (Value.bool bk2),
                D.v (Value.slice none (0 : Nat) (0 : Nat))]
              ((3 : Nat) + (1 : Nat))))
          ((4 : Nat)) ((38 : Nat)))]))
    else none))
  ((bif decide ((m2 + (1 : Nat)) * (64 : Nat) ≤ (140737488355328 : Nat)) &&
  decide (m2 + (1 : Nat) ≤ (9223372036854775807 : Nat))
    then (bif decide ((0 : Int) ≤ (↑m2 : Int)) && decide ((↑m2 : Int) < (↑(m2 + (1 : Nat)) : Int))
      then some (T.leaf
  (AV.tup [],
    [((0 : Nat),
        Blk.cells
          [C.d (D.v (Value.int IntKind.i64 c)), C.row ((1 : Nat)) ((1 : Nat)) ((3 : Nat)),
            C.row ((5 : Nat)) ((4 : Nat)) ((2 : Nat)), C.d (D.v (Value.bool bg)), C.d (D.v (Value.int IntKind.i64 ln)),
            C.row ((6 : Nat)) ((2 : Nat)) nw, C.d (D.v (Value.bool bk)),
            C.d (D.v (Value.slice none (0 : Nat) (0 : Nat)))]
          ((43 : Nat))),
      ((1 : Nat),
        Blk.cells
          [C.row ((2 : Nat)) ((4 : Nat)) m0, C.row ((3 : Nat)) ((4 : Nat)) m1,
            C.row ((7 : Nat)) ((4 : Nat)) (m2 + (1 : Nat))]
          ((23 : Nat))),
      ((2 : Nat), Blk.row n0 f0 ((4 : Nat)) ((38 : Nat))), ((3 : Nat), Blk.row n1 f1 ((4 : Nat)) ((38 : Nat))),
      ((4 : Nat), Blk.dead),
      ((5 : Nat), Blk.cells [C.d x0, C.d y0, C.d z0, C.d u0, C.d x1, C.d y1, C.d z1, C.d u1] ((38 : Nat))),
      ((6 : Nat), Blk.dead),
      ((7 : Nat),
        Blk.row (m2 + (1 : Nat))
          (fun j =>
            bif Nat.beq j (Int.toNat (↑m2 : Int)) then
              splice
                (appD (some ((4 : Nat), m2)) (dstLen (some ((4 : Nat), m2))) f2
                  (chunk
                    [D.v (Value.int IntKind.i64 (0 : Int)), D.v (Value.slice none (0 : Nat) (0 : Nat)),
                      D.v (Value.bool false), D.v (Value.slice none (0 : Nat) (0 : Nat))]
                    ((3 : Nat) + (1 : Nat)))
                  j)
                (0 : Nat)
                [D.v (Value.int IntKind.i64 ln2), D.sl (2 : Nat) nw2 fw, D.v (Value.bool bk2),
                  D.v (Value.slice none (0 : Nat) (0 : Nat))]
            else
              appD (some ((4 : Nat), m2)) (dstLen (some ((4 : Nat), m2))) f2
                (chunk
                  [D.v (Value.int IntKind.i64 (0 : Int)), D.v (Value.slice none (0 : Nat) (0 : Nat)),
                    D.v (Value.bool false), D.v (Value.slice none (0 : Nat) (0 : Nat))]
                  ((3 : Nat) + (1 : Nat)))
                j)
          ((4 : Nat)) ((38 : Nat)))]))
      else none)
    else none)) := by kernel_rfl
set_option maxRecDepth 100000 in
theorem ad2c (c : Int) (bg : Bool) (ln : Int) (nw : Nat) (bk : Bool) (m0 n0 : Nat) (f0 : FD) (m1 n1 : Nat) (f1 : FD) (m2 n2 : Nat) (f2 : FD) (x0 y0 z0 u0 : D) (x1 y1 z1 u1 : D) (kw : Nat) (fw : FD) (x y z : D) (mk : Nat) : callA Try.prog Orc.nil na 1 Try.f44 (bodyOf Try.f44) [.c (.ptr 0 0), .agg [.d x, .d y, .d z, .row 4 4 mk]] [(0, .cells [.d (.v (.int .i64 c)), .row 1 1 2, .row 5 4 1, .d (.v (.bool bg)), .d (.v (.int .i64 ln)), .row 6 2 nw, .d (.v (.bool bk)), .d (.v (.slice none 0 0))] 43), (1, .cells [.row 2 4 m0, .row 3 4 m1, .row 4 4 m2] 23), (2, .row n0 f0 4 38), (3, .row n1 f1 4 38), (4, .row n2 f2 4 38), (5, .cells [.d x0, .d y0, .d z0, .d u0, .d x1, .d y1, .d z1, .d u1] 38), (6, .row kw fw 2 45)] =
  both ((bif decide ((m1 + (1 : Nat)) * (64 : Nat) ≤ (140737488355328 : Nat)) &&
  decide (m1 + (1 : Nat) ≤ (9223372036854775807 : Nat))
    then some (T.leaf
  (AV.tup [],
    [((0 : Nat),
        Blk.cells
          [C.d (D.v (Value.int IntKind.i64 c)), C.row ((1 : Nat)) ((1 : Nat)) ((2 : Nat)),
            C.row ((5 : Nat)) ((4 : Nat)) ((1 : Nat)), C.d (D.v (Value.bool bg)), C.d (D.v (Value.int IntKind.i64 ln)),
            C.row ((6 : Nat)) ((2 : Nat)) nw, C.d (D.v (Value.bool bk)),
            C.d (D.v (Value.slice none (0 : Nat) (0 : Nat)))]
          ((43 : Nat))),
      ((1 : Nat),
        Blk.cells
          [C.row ((2 : Nat)) ((4 : Nat)) m0, C.row ((7 : Nat)) ((4 : Nat)) (m1 + (1 : Nat)),
            C.row ((4 : Nat)) ((4 : Nat)) m2]
          ((23 : Nat))),
      ((2 : Nat), Blk.row n0 f0 ((4 : Nat)) ((38 : Nat))), ((3 : Nat), Blk.dead), ((4 : Nat), Blk.dead),
      ((5 : Nat), Blk.cells [C.d x0, C.d y0, C.d z0, C.d u0, C.d x1, C.d y1, C.d z1, C.d u1] ((38 : Nat))),
      ((6 : Nat), Blk.row kw fw ((2 : Nat)) ((45 : Nat))),
      ((7 : Nat),
        Blk.row (m1 + (1 : Nat))
          (appD (some ((3 : Nat), m1)) (dstLen (some ((3 : Nat), m1))) f1
            (chunk [x, y, z, D.sl (4 : Nat) mk f2] ((3 : Nat) + (1 : Nat))))
          ((4 : Nat)) ((38 : Nat)))]))
    else none))
  ((bif decide ((m1 + (1 : Nat)) * (64 : Nat) ≤ (140737488355328 : Nat)) &&
  decide (m1 + (1 : Nat) ≤ (9223372036854775807 : Nat))
    then (bif decide ((0 : Int) ≤ (↑m1 : Int)) && decide ((↑m1 : Int) < (↑(m1 + (1 : Nat)) : Int))
      then some (T.leaf
  (AV.tup [],
    [((0 : Nat),
        Blk.cells
          [C.d (D.v (Value.int IntKind.i64 c)), C.row ((1 : Nat)) ((1 : Nat)) ((2 : Nat)),
            C.row ((5 : Nat)) ((4 : Nat)) ((1 : Nat)), C.d (D.v (Value.bool bg)), C.d (D.v (Value.int IntKind.i64 ln)),
            C.row ((6 : Nat)) ((2 : Nat)) nw, C.d (D.v (Value.bool bk)),
            C.d (D.v (Value.slice none (0 : Nat) (0 : Nat)))]
          ((43 : Nat))),
      ((1 : Nat),
        Blk.cells
          [C.row ((2 : Nat)) ((4 : Nat)) m0, C.row ((7 : Nat)) ((4 : Nat)) (m1 + (1 : Nat)),
            C.row ((4 : Nat)) ((4 : Nat)) m2]
          ((23 : Nat))),
      ((2 : Nat), Blk.row n0 f0 ((4 : Nat)) ((38 : Nat))), ((3 : Nat), Blk.dead), ((4 : Nat), Blk.dead),
      ((5 : Nat), Blk.cells [C.d x0, C.d y0, C.d z0, C.d u0, C.d x1, C.d y1, C.d z1, C.d u1] ((38 : Nat))),
      ((6 : Nat), Blk.row kw fw ((2 : Nat)) ((45 : Nat))),
      ((7 : Nat),
        Blk.row (m1 + (1 : Nat))
          (fun j =>
            bif Nat.beq j (Int.toNat (↑m1 : Int)) then
              splice
                (appD (some ((3 : Nat), m1)) (dstLen (some ((3 : Nat), m1))) f1
                  (chunk
                    [D.v (Value.int IntKind.i64 (0 : Int)), D.v (Value.slice none (0 : Nat) (0 : Nat)),
                      D.v (Value.bool false), D.v (Value.slice none (0 : Nat) (0 : Nat))]
                    ((3 : Nat) + (1 : Nat)))
                  j)
                (0 : Nat) [x, y, z, D.sl (4 : Nat) mk f2]
            else
              appD (some ((3 : Nat), m1)) (dstLen (some ((3 : Nat), m1))) f1
                (chunk
                  [D.v (Value.int IntKind.i64 (0 : Int)), D.v (Value.slice none (0 : Nat) (0 : Nat)),
                    D.v (Value.bool false), D.v (Value.slice none (0 : Nat) (0 : Nat))]
                  ((3 : Nat) + (1 : Nat)))
                j)
          ((4 : Nat)) ((38 : Nat)))]))
      else none)
    else none)) := by kernel_rfl
set_option maxRecDepth 100000 in
theorem ad3s (c : Int) (bg : Bool) (ln : Int) (nw : Nat) (bk : Bool) (m0 n0 : Nat) (f0 : FD) (m1 n1 : Nat) (f1 : FD) (m2 n2 : Nat) (f2 : FD) (m3 n3 : Nat) (f3 : FD) (x0 y0 z0 u0 : D) (x1 y1 z1 u1 : D) (x2 y2 z2 u2 : D) (kw : Nat) (fw : FD) (ln2 : Int) (nw2 : Nat) (bk2 : Bool) : callA Try.prog Orc.nil na 1 Try.f44 (bodyOf Try.f44) [.c (.ptr 0 0), .agg [.d (.v (.int .i64 ln2)), .row 7 2 nw2, .d (.v (.bool bk2)), .d (.v (.slice none 0 0))]] [(0, .cells [.d (.v (.int .i64 c)), .row 1 1 4, .row 6 4 3, .d (.v (.bool bg)), .d (.v (.int .i64 ln)), .row 7 2 nw, .d (.v (.bool bk)), .d (.v (.slice none 0 0))] 43), (1, .cells [.row 2 4 m0, .row 3 4 m1, .row 4 4 m2, .row 5 4 m3] 23), (2, .row n0 f0 4 38), (3, .row n1 f1 4 38), (4, .row n2 f2 4 38), (5, .row n3 f3 4 38), (6, .cells [.d x0, .d y0, .d z0, .d u0, .d x1, .d y1, .d z1, .d u1, .d x2, .d y2, .d z2, .d u2] 38), (7, .row kw fw 2 45)] =
  both ((bif decide ((m3 + (1 : Nat)) * (64 : Nat) ≤ (140737488355328 : Nat)) &&
  decide (m3 + (1 : Nat) ≤ (9223372036854775807 : Nat))
    then some (T.leaf
  (AV.tup [],
    [((0 : Nat),
        Blk.cells
          [C.d (D.v (Value.int IntKind.i64 c)), C.row ((1 : Nat)) ((1 : Nat)) ((4 : Nat)),
            C.row ((6 : Nat)) ((4 : Nat)) ((3 : Nat)), C.d (D.v (Value.bool bg)), C.d (D.v (Value.int IntKind.i64 ln)),
            C.row ((7 : Nat)) ((2 : Nat)) nw, C.d (D.v (Value.bool bk)),
            C.d (D.v (Value.slice none (0 : Nat) (0 : Nat)))]
          ((43 : Nat))),
      ((1 : Nat),
        Blk.cells
          [C.row ((2 : Nat)) ((4 : Nat)) m0, C.row ((3 : Nat)) ((4 : Nat)) m1, C.row ((4 : Nat)) ((4 : Nat)) m2,
            C.row ((8 : Nat)) ((4 : Nat)) (m3 + (1 : Nat))]
          ((23 : Nat))),
      ((2 : Nat), Blk.row n0 f0 ((4 : Nat)) ((38 : Nat))), ((3 : Nat), Blk.row n1 f1 ((4 : Nat)) ((38 : Nat))),
      ((4 : Nat), Blk.row n2 f2 ((4 : Nat)) ((38 : Nat))), ((5 : Nat), Blk.dead),
      ((6 : Nat),
        Blk.cells [C.d x0, C.d y0, C.d z0, C.d u0, C.d x1, C.d y1, C.d z1, C.d u1, C.d x2, C.d y2, C.d z2, C.d u2]
          ((38 : Nat))),
      ((7 : Nat), Blk.dead),
      ((8 : Nat),
        Blk.row (m3 + (1 : Nat))
          (appD (some ((5 : Nat), m3)) (dstLen (some ((5 : Nat), m3))) f3
            (chunk
              [D.v (Value.int IntKind.i64 ln2), D.sl (2 : Nat) nw2 fw, D.v (Value.bool bk2),
                D.v (Value.slice none (0 : Nat) (0 : Nat))]
              ((3 : Nat) + (1 : Nat))))
          ((4 : Nat)) ((38 : Nat)))]))
    else none))
  ((bif decide ((m3 + (1 : Nat)) * (64 : Nat) ≤ (140737488355328 : Nat)) &&
  decide (m3 + (1 : Nat) ≤ (9223372036854775807 : Nat))
    then (bif decide ((0 : Int) ≤ (↑m3 : Int)) && decide ((↑m3 : Int) < (↑(m3 + (1 : Nat)) : Int))
      then some (T.leaf
  (AV.tup [],
    [((0 : Nat),
        Blk.cells
          [C.d (D.v (Value.int IntKind.i64 c)), C.row ((1 : Nat)) ((1 : Nat)) ((4 : Nat)),
            C.row ((6 : Nat)) ((4 : Nat)) ((3 : Nat)), C.d (D.v (Value.bool bg)), C.d (D.v (Value.int IntKind.i64 ln)),
            C.row ((7 : Nat)) ((2 : Nat)) nw, C.d (D.v (Value.bool bk)),
            C.d (D.v (Value.slice none (0 : Nat) (0 : Nat)))]
          ((43 : Nat))),
      ((1 : Nat),
        Blk.cells
          [C.row ((2 : Nat)) ((4 : Nat)) m0, C.row ((3 : Nat)) ((4 : Nat)) m1, C.row ((4 : Nat)) ((4 : Nat)) m2,
            C.row ((8 : Nat)) ((4 : Nat)) (m3 + (1 : Nat))]
          ((23 : Nat))),
      ((2 : Nat), Blk.row n0 f0 ((4 : Nat)) ((38 : Nat))), ((3 : Nat), Blk.row n1 f1 ((4 : Nat)) ((38 : Nat))),
      ((4 : Nat), Blk.row n2 f2 ((4 : Nat)) ((38 : Nat))), ((5 : Nat), Blk.dead),
      ((6 : Nat),
        Blk.cells [C.d x0, C.d y0, C.d z0, C.d u0, C.d x1, C.d y1, C.d z1, C.d u1, C.d x2, C.d y2, C.d z2, C.d u2]
          ((38 : Nat))),
      ((7 : Nat), Blk.dead),
      ((8 : Nat),
        Blk.row (m3 + (1 : Nat))
          (fun j =>
            bif Nat.beq j (Int.toNat (↑m3 : Int)) then
              splice
                (appD (some ((5 : Nat), m3)) (dstLen (some ((5 : Nat), m3))) f3
                  (chunk
                    [D.v (Value.int IntKind.i64 (0 : Int)), D.v (Value.slice none (0 : Nat) (0 : Nat)),
                      D.v (Value.bool false), D.v (Value.slice none (0 : Nat) (0 : Nat))]
                    ((3 : Nat) + (1 : Nat)))
                  j)
                (0 : Nat)
                [D.v (Value.int IntKind.i64 ln2), D.sl (2 : Nat) nw2 fw, D.v (Value.bool bk2),
                  D.v (Value.slice none (0 : Nat) (0 : Nat))]
            else
              appD (some ((5 : Nat), m3)) (dstLen (some ((5 : Nat), m3))) f3
                (chunk
                  [D.v (Value.int IntKind.i64 (0 : Int)), D.v (Value.slice none (0 : Nat) (0 : Nat)),
                    D.v (Value.bool false), D.v (Value.slice none (0 : Nat) (0 : Nat))]
                  ((3 : Nat) + (1 : Nat)))
                j)
          ((4 : Nat)) ((38 : Nat)))]))
      else none)
    else none)) := by kernel_rfl
set_option maxRecDepth 100000 in
theorem ad3c (c : Int) (bg : Bool) (ln : Int) (nw : Nat) (bk : Bool) (m0 n0 : Nat) (f0 : FD) (m1 n1 : Nat) (f1 : FD) (m2 n2 : Nat) (f2 : FD) (m3 n3 : Nat) (f3 : FD) (x0 y0 z0 u0 : D) (x1 y1 z1 u1 : D) (x2 y2 z2 u2 : D) (kw : Nat) (fw : FD) (x y z : D) (mk : Nat) : callA Try.prog Orc.nil na 1 Try.f44 (bodyOf Try.f44) [.c (.ptr 0 0), .agg [.d x, .d y, .d z, .row 5 4 mk]] [(0, .cells [.d (.v (.int .i64 c)), .row 1 1 3, .row 6 4 2, .d (.v (.bool bg)), .d (.v (.int .i64 ln)), .row 7 2 nw, .d (.v (.bool bk)), .d (.v (.slice none 0 0))] 43), (1, .cells [.row 2 4 m0, .row 3 4 m1, .row 4 4 m2, .row 5 4 m3] 23), (2, .row n0 f0 4 38), (3, .row n1 f1 4 38), (4, .row n2 f2 4 38), (5, .row n3 f3 4 38), (6, .cells [.d x0, .d y0, .d z0, .d u0, .d x1, .d y1, .d z1, .d u1, .d x2, .d y2, .d z2, .d u2] 38), (7, .row kw fw 2 45)] =
  both ((bif decide ((m2 + (1 : Nat)) * (64 : Nat) ≤ (140737488355328 : Nat)) &&
  decide (m2 + (1 : Nat) ≤ (9223372036854775807 : Nat))
    then some (T.leaf
  (AV.tup [],
    [((0 : Nat),
        Blk.cells
          [C.d (D.v (Value.int IntKind.i64 c)), C.row ((1 : Nat)) ((1 : Nat)) ((3 : Nat)),
            C.row ((6 : Nat)) ((4 : Nat)) ((2 : Nat)), C.d (D.v (Value.bool bg)), C.d (D.v (Value.int IntKind.i64 ln)),
            C.row ((7 : Nat)) ((2 : Nat)) nw, C.d (D.v (Value.bool bk)),
            C.d (D.v (Value.slice none (0 : Nat) (0 : Nat)))]
          ((43 : Nat))),
      ((1 : Nat),
        Blk.cells
          [C.row ((2 : Nat)) ((4 : Nat)) m0, C.row ((3 : Nat)) ((4 : Nat)) m1,
            C.row ((8 : Nat)) ((4 : Nat)) (m2 + (1 : Nat)), C.row ((5 : Nat)) ((4 : Nat)) m3]
          ((23 : Nat))),
      ((2 : Nat), Blk.row n0 f0 ((4 : Nat)) ((38 : Nat))), ((3 : Nat), Blk.row n1 f1 ((4 : Nat)) ((38 : Nat))),
      ((4 : Nat), Blk.dead), ((5 : Nat), Blk.dead),
      ((6 : Nat),
        Blk.cells [C.d x0, C.d y0, C.d z0, C.d u0, C.d x1, C.d y1, C.d z1, C.d u1, C.d x2, C.d y2, C.d z2, C.d u2]
          ((38 : Nat))),
      ((7 : Nat), Blk.row kw fw ((2 : Nat)) ((45 : Nat))),
      ((8 : Nat),
        Blk.row (m2 + (1 : Nat))
          (appD (some ((4 : Nat), m2)) (dstLen (some ((4 : Nat), m2))) f2
            (chunk [x, y, z, D.sl (4 : Nat) mk f3] ((3 : Nat) + (1 : Nat))))
          ((4 : Nat)) ((38 : Nat)))]))
    else none))
  ((bif decide ((m2 + (1 : Nat)) * (64 : Nat) ≤ (140737488355328 : Nat)) &&
  decide (m2 + (1 : Nat) ≤ (9223372036854775807 : Nat))
    then (bif decide ((0 : Int) ≤ (↑m2 : Int)) && decide ((↑m2 : Int) < (↑(m2 + (1 : Nat)) : Int))
      then some (T.leaf
  (AV.tup [],
    [((0 : Nat),
        Blk.cells
          [C.d (D.v (Value.int IntKind.i64 c)), C.row ((1 : Nat)) ((1 : Nat)) ((3 : Nat)),
            C.row ((6 : Nat)) ((4 : Nat)) ((2 : Nat)), C.d (D.v (Value.bool bg)), C.d (D.v (Value.int IntKind.i64 ln)),
            C.row ((7 : Nat)) ((2 : Nat)) nw, C.d (D.v (Value.bool bk)),
            C.d (D.v (Value.slice none (0 : Nat) (0 : Nat)))]
          ((43 : Nat))),
      ((1 : Nat),
        Blk.cells
          [C.row ((2 : Nat)) ((4 : Nat)) m0, C.row ((3 : Nat)) ((4 : Nat)) m1,
            C.row ((8 : Nat)) ((4 : Nat)) (m2 + (1 : Nat)), C.row ((5 : Nat)) ((4 : Nat)) m3]
          ((23 : Nat))),
      ((2 : Nat), Blk.row n0 f0 ((4 : Nat)) ((38 : Nat))), ((3 : Nat), Blk.row n1 f1 ((4 : Nat)) ((38 : Nat))),
      ((4 : Nat), Blk.dead), ((5 : Nat), Blk.dead),
      ((6 : Nat),
        Blk.cells [C.d x0, C.d y0, C.d z0, C.d u0, C.d x1, C.d y1, C.d z1, C.d u1, C.d x2, C.d y2, C.d z2, C.d u2]
          ((38 : Nat))),
      ((7 : Nat), Blk.row kw fw ((2 : Nat)) ((45 : Nat))),
      ((8 : Nat),
        Blk.row (m2 + (1 : Nat))
          (fun j =>
            bif Nat.beq j (Int.toNat (↑m2 : Int)) then
              splice
                (appD (some ((4 : Nat), m2)) (dstLen (some ((4 : Nat), m2))) f2
                  (chunk
                    [D.v (Value.int IntKind.i64 (0 : Int)), D.v (Value.slice none (0 : Nat) (0 : Nat)),
                      D.v (Value.bool false), D.v (Value.slice none (0 : Nat) (0 : Nat))]
                    ((3 : Nat) + (1 : Nat)))
                  j)
                (0 : Nat) [x, y, z, D.sl (4 : Nat) mk f3]
            else
              appD (some ((4 : Nat), m2)) (dstLen (some ((4 : Nat), m2))) f2
                (chunk
                  [D.v (Value.int IntKind.i64 (0 : Int)), D.v (Value.slice none (0 : Nat) (0 : Nat)),
                    D.v (Value.bool false), D.v (Value.slice none (0 : Nat) (0 : Nat))]
                  ((3 : Nat) + (1 : Nat)))
                j)
          ((4 : Nat)) ((38 : Nat)))]))
      else none)
    else none)) := by kernel_rfl
set_option maxRecDepth 100000 in
theorem ad4s (c : Int) (bg : Bool) (ln : Int) (nw : Nat) (bk : Bool) (m0 n0 : Nat) (f0 : FD) (m1 n1 : Nat) (f1 : FD) (m2 n2 : Nat) (f2 : FD) (m3 n3 : Nat) (f3 : FD) (m4 n4 : Nat) (f4 : FD) (x0 y0 z0 u0 : D) (x1 y1 z1 u1 : D) (x2 y2 z2 u2 : D) (x3 y3 z3 u3 : D) (kw : Nat) (fw : FD) (ln2 : Int) (nw2 : Nat) (bk2 : Bool) : callA Try.prog Orc.nil na 1 Try.f44 (bodyOf Try.f44) [.c (.ptr 0 0), .agg [.d (.v (.int .i64 ln2)), .row 8 2 nw2, .d (.v (.bool bk2)), .d (.v (.slice none 0 0))]] [(0, .cells [.d (.v (.int .i64 c)), .row 1 1 5, .row 7 4 4, .d (.v (.bool bg)), .d (.v (.int .i64 ln)), .row 8 2 nw, .d (.v (.bool bk)), .d (.v (.slice none 0 0))] 43), (1, .cells [.row 2 4 m0, .row 3 4 m1, .row 4 4 m2, .row 5 4 m3, .row 6 4 m4] 23), (2, .row n0 f0 4 38), (3, .row n1 f1 4 38), (4, .row n2 f2 4 38), (5, .row n3 f3 4 38), (6, .row n4 f4 4 38), (7, .cells [.d x0, .d y0, .d z0, .d u0, .d x1, .d y1, .d z1, .d u1, .d x2, .d y2, .d z2, .d u2, .d x3, .d y3, .d z3, .d u3] 38), (8, .row kw fw 2 45)] =
  both ((bif decide ((m4 + (1 : Nat)) * (64 : Nat) ≤ (140737488355328 : Nat)) &&
  decide (m4 + (1 : Nat) ≤ (9223372036854775807 : Nat))
    then some (T.leaf
  (AV.tup [],
    [((0 : Nat),
        Blk.cells
          [C.d (D.v (Value.int IntKind.i64 c)), C.row ((1 : Nat)) ((1 : Nat)) ((5 : Nat)),
            C.row ((7 : Nat)) ((4 : Nat)) ((4 : Nat)), C.d (D.v (Value.bool bg)), C.d (D.v (Value.int IntKind.i64 ln)),
            C.row ((8 : Nat)) ((2 : Nat)) nw, C.d (D.v (Value.bool bk)),
            C.d (D.v (Value.slice none (0 : Nat) (0 : Nat)))]
          ((43 : Nat))),
      ((1 : Nat),
        Blk.cells
          [C.row ((2 : Nat)) ((4 : Nat)) m0, C.row ((3 : Nat)) ((4 : Nat)) m1, C.row ((4 : Nat)) ((4 : Nat)) m2,
            C.row ((5 : Nat)) ((4 : Nat)) m3, C.row ((9 : Nat)) ((4 : Nat)) (m4 + (1 : Nat))]
          ((23 : Nat))),
      ((2 : Nat), Blk.row n0 f0 ((4 : Nat)) ((38 : Nat))), ((3 : Nat), Blk.row n1 f1 ((4 : Nat)) ((38 : Nat))),
      ((4 : Nat), Blk.row n2 f2 ((4 : Nat)) ((38 : Nat))), ((5 : Nat), Blk.row n3 f3 ((4 : Nat)) ((38 : Nat))),
      ((6 : Nat), Blk.dead),
      ((7 : Nat),
        Blk.cells
          [C.d x0, C.d y0, C.d z0, C.d u0, C.d x1, C.d y1, C.d z1, C.d u1, C.d x2, C.d y2, C.d z2, C.d u2, C.d x3,
            C.d y3, C.d z3, C.d u3]
          ((38 : Nat))),
      ((8 : Nat), Blk.dead),
      ((9 : Nat),
        Blk.row (m4 + (1 : Nat))
          (appD (some ((6 : Nat), m4)) (dstLen (some ((6 : Nat), m4))) f4
            (chunk
              [D.v (Value.int IntKind.i64 ln2), D.sl (2 : Nat) nw2 fw, D.v (Value.bool bk2),
                D.v (Value.slice none (0 : Nat) (0 : Nat))]
              ((3 : Nat) + (1 : Nat))))
          ((4 : Nat)) ((38 : Nat)))]))
    else none))
  ((bif decide ((m4 + (1 : Nat)) * (64 : Nat) ≤ (140737488355328 : Nat)) &&
  decide (m4 + (1 : Nat) ≤ (9223372036854775807 : Nat))
    then (bif decide ((0 : Int) ≤ (↑m4 : Int)) && decide ((↑m4 : Int) < (↑(m4 + (1 : Nat)) : Int))
      then some (T.leaf
  (AV.tup [],
    [((0 : Nat),
        Blk.cells
          [C.d (D.v (Value.int IntKind.i64 c)), C.row ((1 : Nat)) ((1 : Nat)) ((5 : Nat)),
            C.row ((7 : Nat)) ((4 : Nat)) ((4 : Nat)), C.d (D.v (Value.bool bg)), C.d (D.v (Value.int IntKind.i64 ln)),
            C.row ((8 : Nat)) ((2 : Nat)) nw, C.d (D.v (Value.bool bk)),
            C.d (D.v (Value.slice none (0 : Nat) (0 : Nat)))]
          ((43 : Nat))),
      ((1 : Nat),
        Blk.cells
          [C.row ((2 : Nat)) ((4 : Nat)) m0, C.row ((3 : Nat)) ((4 : Nat)) m1, C.row ((4 : Nat)) ((4 : Nat)) m2,
            C.row ((5 : Nat)) ((4 : Nat)) m3, C.row ((9 : Nat)) ((4 : Nat)) (m4 + (1 : Nat))]
          ((23 : Nat))),
      ((2 : Nat), Blk.row n0 f0 ((4 : Nat)) ((38 : Nat))), ((3 : Nat), Blk.row n1 f1 ((4 : Nat)) ((38 : Nat))),
      ((4 : Nat), Blk.row n2 f2 ((4 : Nat)) ((38 : Nat))), ((5 : Nat), Blk.row n3 f3 ((4 : Nat)) ((38 : Nat))),
      ((6 : Nat), Blk.dead),
      ((7 : Nat),
        Blk.cells
          [C.d x0, C.d y0, C.d z0, C.d u0, C.d x1, C.d y1, C.d z1, C.d u1, C.d x2, C.d y2, C.d z2, C.d u2, C.d x3,
            C.d y3, C.d z3, C.d u3]
          ((38 : Nat))),
      ((8 : Nat), Blk.dead),
      ((9 : Nat),
        Blk.row (m4 + (1 : Nat))
          (fun j =>
            bif Nat.beq j (Int.toNat (↑m4 : Int)) then
              splice
                (appD (some ((6 : Nat), m4)) (dstLen (some ((6 : Nat), m4))) f4
                  (chunk
                    [D.v (Value.int IntKind.i64 (0 : Int)), D.v (Value.slice none (0 : Nat) (0 : Nat)),
                      D.v (Value.bool false), D.v (Value.slice none (0 : Nat) (0 : Nat))]
                    ((3 : Nat) + (1 : Nat)))
                  j)
                (0 : Nat)
                [D.v (Value.int IntKind.i64 ln2), D.sl (2 : Nat) nw2 fw, D.v (Value.bool bk2),
                  D.v (Value.slice none (0 : Nat) (0 : Nat))]
            else
              appD (some ((6 : Nat), m4)) (dstLen (some ((6 : Nat), m4))) f4
                (chunk
                  [D.v (Value.int IntKind.i64 (0 : Int)), D.v (Value.slice none (0 : Nat) (0 : Nat)),
                    D.v (Value.bool false), D.v (Value.slice none (0 : Nat) (0 : Nat))]
                  ((3 : Nat) + (1 : Nat)))
                j)
          ((4 : Nat)) ((38 : Nat)))]))
      else none)
    else none)) := by kernel_rfl
set_option maxRecDepth 100000 in
theorem ad4c (c : Int) (bg : Bool) (ln : Int) (nw : Nat) (bk : Bool) (m0 n0 : Nat) (f0 : FD) (m1 n1 : Nat) (f1 : FD) (m2 n2 : Nat) (f2 : FD) (m3 n3 : Nat) (f3 : FD) (m4 n4 : Nat) (f4 : FD) (x0 y0 z0 u0 : D) (x1 y1 z1 u1 : D) (x2 y2 z2 u2 : D) (x3 y3 z3 u3 : D) (kw : Nat) (fw : FD) (x y z : D) (mk : Nat) : callA Try.prog Orc.nil na 1 Try.f44 (bodyOf Try.f44) [.c (.ptr 0 0), .agg [.d x, .d y, .d z, .row 6 4 mk]] [(0, .cells [.d (.v (.int .i64 c)), .row 1 1 4, .row 7 4 3, .d (.v (.bool bg)), .d (.v (.int .i64 ln)), .row 8 2 nw, .d (.v (.bool bk)), .d (.v (.slice none 0 0))] 43), (1, .cells [.row 2 4 m0, .row 3 4 m1, .row 4 4 m2, .row 5 4 m3, .row 6 4 m4] 23), (2, .row n0 f0 4 38), (3, .row n1 f1 4 38), (4, .row n2 f2 4 38), (5, .row n3 f3 4 38), (6, .row n4 f4 4 38), (7, .cells [.d x0, .d y0, .d z0, .d u0, .d x1, .d y1, .d z1, .d u1, .d x2, .d y2, .d z2, .d u2, .d x3, .d y3, .d z3, .d u3] 38), (8, .row kw fw 2 45)] =
  both ((bif decide ((m3 + (1 : Nat)) * (64 : Nat) ≤ (140737488355328 : Nat)) &&
  decide (m3 + (1 : Nat) ≤ (9223372036854775807 : Nat))
    then some (T.leaf
  (AV.tup [],
    [((0 : Nat),
        Blk.cells
          [C.d (D.v (Value.int IntKind.i64 c)), C.row ((1 : Nat)) ((1 : Nat)) ((4 : Nat)),
            C.row ((7 : Nat)) ((4 : Nat)) ((3 : Nat)), C.d (D.v (Value.bool bg)), C.d (D.v (Value.int IntKind.i64 ln)),
            C.row ((8 : Nat)) ((2 : Nat)) nw, C.d (D.v (Value.bool bk)),
            C.d (D.v (Value.slice none (0 : Nat) (0 : Nat)))]
          ((43 : Nat))),
      ((1 : Nat),
        Blk.cells
          [C.row ((2 : Nat)) ((4 : Nat)) m0, C.row ((3 : Nat)) ((4 : Nat)) m1, C.row ((4 : Nat)) ((4 : Nat)) m2,
            C.row ((9 : Nat)) ((4 : Nat)) (m3 + (1 : Nat)), C.row ((6 : Nat)) ((4 : Nat)) m4]
          ((23 : Nat))),
      ((2 : Nat), Blk.row n0 f0 ((4 : Nat)) ((38 : Nat))), ((3 : Nat), Blk.row n1 f1 ((4 : Nat)) ((38 : Nat))),
      ((4 : Nat), Blk.row n2 f2 ((4 : Nat)) ((38 : Nat))), ((5 : Nat), Blk.dead), ((6 : Nat), Blk.dead),
      ((7 : Nat),
        Blk.cells
          [C.d x0, C.d y0, C.d z0, C.d u0, C.d x1, C.d y1, C.d z1, C.d u1, C.d x2, C.d y2, C.d z2, C.d u2, C.d x3,
            C.d y3, C.d z3, C.d u3]
          ((38 : Nat))),
      ((8 : Nat), Blk.row kw fw ((2 : Nat)) ((45 : Nat))),
      ((9 : Nat),
        Blk.row (m3 + (1 : Nat))
          (appD (some ((5 : Nat), m3)) (dstLen (some ((5 : Nat), m3))) f3
            (chunk [x, y, z, D.sl (4 : Nat) mk f4] ((3 : Nat) + (1 : Nat))))
          ((4 : Nat)) ((38 : Nat)))]))
    else none))
  ((bif decide ((m3 + (1 : Nat)) * (64 : Nat) ≤ (140737488355328 : Nat)) &&
  decide (m3 + (1 : Nat) ≤ (9223372036854775807 : Nat))
    then (bif decide ((0 : Int) ≤ (↑m3 : Int)) && decide ((↑m3 : Int) < (↑(m3 + (1 : Nat)) : Int))
      then some (T.leaf
  (AV.tup [],
    [((0 : Nat),
        Blk.cells
          [C.d (D.v (Value.int IntKind.i64 c)), C.row ((1 : Nat)) ((1 : Nat)) ((4 : Nat)),
            C.row ((7 : Nat)) ((4 : Nat)) ((3 : Nat)), C.d (D.v (Value.bool bg)), C.d (D.v (Value.int IntKind.i64 ln)),
            C.row ((8 : Nat)) ((2 : Nat)) nw, C.d (D.v (Value.bool bk)),
            C.d (D.v (Value.slice none (0 : Nat) (0 : Nat)))]
          ((43 : Nat))),
      ((1 : Nat),
        Blk.cells
          [C.row ((2 : Nat)) ((4 : Nat)) m0, C.row ((3 : Nat)) ((4 : Nat)) m1, C.row ((4 : Nat)) ((4 : Nat)) m2,
            C.row ((9 : Nat)) ((4 : Nat)) (m3 + (1 : Nat)), C.row ((6 : Nat)) ((4 : Nat)) m4]
          ((23 : Nat))),
      ((2 : Nat), Blk.row n0 f0 ((4 : Nat)) ((38 : Nat))), ((3 : Nat), Blk.row n1 f1 ((4 : Nat)) ((38 : Nat))),
      ((4 : Nat), Blk.row n2 f2 ((4 : Nat)) ((38 : Nat))), ((5 : Nat), Blk.dead), ((6 : Nat), Blk.dead),
      ((7 : Nat),
        Blk.cells
          [C.d x0, C.d y0, C.d z0, C.d u0, C.d x1, C.d y1, C.d z1, C.d u1, C.d x2, C.d y2, C.d z2, C.d u2, C.d x3,
            C.d y3, C.d z3, C.d u3]
          ((38 : Nat))),
      ((8 : Nat), Blk.row kw fw ((2 : Nat)) ((45 : Nat))),
      ((9 : Nat),
        Blk.row (m3 + (1 : Nat))
          (fun j =>
            bif Nat.beq j (Int.toNat (↑m3 : Int)) then
              splice
                (appD (some ((5 : Nat), m3)) (dstLen (some ((5 : Nat), m3))) f3
                  (chunk
                    [D.v (Value.int IntKind.i64 (0 : Int)), D.v (Value.slice none (0 : Nat) (0 : Nat)),
                      D.v (Value.bool false), D.v (Value.slice none (0 : Nat) (0 : Nat))]
                    ((3 : Nat) + (1 : Nat)))
                  j)
                (0 : Nat) [x, y, z, D.sl (4 : Nat) mk f4]
            else
              appD (some ((5 : Nat), m3)) (dstLen (some ((5 : Nat), m3))) f3
                (chunk
                  [D.v (Value.int IntKind.i64 (0 : Int)), D.v (Value.slice none (0 : Nat) (0 : Nat)),
                    D.v (Value.bool false), D.v (Value.slice none (0 : Nat) (0 : Nat))]
                  ((3 : Nat) + (1 : Nat)))
                j)
          ((4 : Nat)) ((38 : Nat)))]))
      else none)
    else none)) := by kernel_rfl
end Go.Proofs.Ytkmmkdeoamhpfaa.ps

