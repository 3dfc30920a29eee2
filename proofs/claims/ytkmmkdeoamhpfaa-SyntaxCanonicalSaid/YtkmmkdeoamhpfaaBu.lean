/-
  strings.Builder: what its methods compute. No condition.
-/
import Derived.Test.YtkmmkdeoamhpfaaZBu
import Derived.Test.YtkmmkdeoamhpfaaZIt
import Derived.Test.YtkmmkdeoamhpfaaProg
namespace Go.Proofs.Ytkmmkdeoamhpfaa.bu
open Go.RowKit Go.Eb

noncomputable def o48 : Orc := Orc.cons 54 ansId Orc.nil
set_option maxRecDepth 100000 in
theorem ev48a (_u : Unit) : callA Try.prog o48 na 1 Try.f48 (bodyOf Try.f48) [.c (.ptr 0 0)] (HB0 61) =
  some (T.leaf
  (AV.tup [],
    [((0 : Nat),
        Blk.cells [C.ptr ((0 : Nat)) ((0 : Nat)), C.d (D.v (Value.slice none (0 : Nat) (0 : Nat)))] ((61 : Nat)))])) := by kernel_rfl
set_option maxRecDepth 100000 in
theorem ev48b (b : ByteArray) : callA Try.prog o48 na 1 Try.f48 (bodyOf Try.f48) [.c (.ptr 0 0)] (HB 61 5 b) =
  some (T.leaf
  (AV.tup [],
    [((0 : Nat),
        Blk.cells [C.ptr ((0 : Nat)) ((0 : Nat)), C.row ((1 : Nat)) ((1 : Nat)) (ByteArray.size b)] ((61 : Nat))),
      ((1 : Nat), Blk.row (ByteArray.size b) (bF b) ((1 : Nat)) ((5 : Nat)))])) := by kernel_rfl
noncomputable def o32 : Orc := Orc.cons 48 (fun _ args H k => match args, H with
  | [.c (.ptr 0 0)], [(0, .cells [.d (.v (.pointer none)), .d (.v (.slice none 0 0))] 61)] => k (.tup []) [(0, .cells [.ptr 0 0, .d (.v (.slice none 0 0))] 61)]
  | [.c (.ptr 0 0)], [(0, .cells [.ptr 0 0, .row 1 1 n] 61), (1, .row m f 1 5)] => k (.tup []) [(0, .cells [.ptr 0 0, .row 1 1 n] 61), (1, .row m f 1 5)]
  | _, _ => none) Orc.nil
set_option maxRecDepth 100000 in
theorem ev32a (s : ByteArray) : callA Try.prog o32 na 1 Try.f32 (bodyOf Try.f32) [.c (.ptr 0 0), vS s] (HB0 61) =
  (bif decide
    (((0 : Nat) + ByteArray.size s) * TypeInfo.bytes (Tables.types (Program.toTables Try.prog))[(5 : Nat)] ≤
      (140737488355328 : Nat)) &&
  decide ((0 : Nat) + ByteArray.size s ≤ (9223372036854775807 : Nat))
  then some (T.leaf
  (AV.tup
      [(false, [C.d (D.v (Value.int IntKind.i64 (↑(ByteArray.size s) : Int)))]), (false, [C.d (D.v Value.nilIface)])],
    [((0 : Nat),
        Blk.cells [C.ptr ((0 : Nat)) ((0 : Nat)), C.row ((1 : Nat)) ((1 : Nat)) (dstLen none + srcLen (Src.str s))]
          ((61 : Nat))),
      ((1 : Nat),
        Blk.row (dstLen none + srcLen (Src.str s))
          (appD none (dstLen none) (chunk [] ((0 : Nat) + (1 : Nat))) fun i =>
            bif Nat.blt i (ByteArray.size s) then
              [D.v
                  (Value.int IntKind.u8
                    (↑(UInt8.toNat (List.getD (Array.toList (ByteArray.data s)) i (0 : UInt8))) : Int))]
            else [])
          ((1 : Nat)) ((5 : Nat)))]))
  else none) := by kernel_rfl
set_option maxRecDepth 100000 in
theorem ev32b (s b : ByteArray) : callA Try.prog o32 na 1 Try.f32 (bodyOf Try.f32) [.c (.ptr 0 0), vS s] (HB 61 5 b) =
  (bif decide
    ((ByteArray.size b + ByteArray.size s) * TypeInfo.bytes (Tables.types (Program.toTables Try.prog))[(5 : Nat)] ≤
      (140737488355328 : Nat)) &&
  decide (ByteArray.size b + ByteArray.size s ≤ (9223372036854775807 : Nat))
  then some (T.leaf
  (AV.tup
      [(false, [C.d (D.v (Value.int IntKind.i64 (↑(ByteArray.size s) : Int)))]), (false, [C.d (D.v Value.nilIface)])],
    [((0 : Nat),
        Blk.cells
          [C.ptr ((0 : Nat)) ((0 : Nat)),
            C.row ((2 : Nat)) ((1 : Nat)) (dstLen (some ((1 : Nat), ByteArray.size b)) + srcLen (Src.str s))]
          ((61 : Nat))),
      ((1 : Nat), Blk.dead),
      ((2 : Nat),
        Blk.row (dstLen (some ((1 : Nat), ByteArray.size b)) + srcLen (Src.str s))
          (appD (some ((1 : Nat), ByteArray.size b)) (dstLen (some ((1 : Nat), ByteArray.size b))) (bF b) fun i =>
            bif Nat.blt i (ByteArray.size s) then
              [D.v
                  (Value.int IntKind.u8
                    (↑(UInt8.toNat (List.getD (Array.toList (ByteArray.data s)) i (0 : UInt8))) : Int))]
            else [])
          ((1 : Nat)) ((5 : Nat)))]))
  else none) := by kernel_rfl
set_option maxRecDepth 100000 in
theorem ev33b (c : Int) (b : ByteArray) : callA Try.prog o32 na 1 Try.f33 (bodyOf Try.f33) [.c (.ptr 0 0), v8 c] (HB 61 5 b) =
  (bif decide
    ((ByteArray.size b + (1 : Nat)) * TypeInfo.bytes (Tables.types (Program.toTables Try.prog))[(5 : Nat)] ≤
      (140737488355328 : Nat)) &&
  decide (ByteArray.size b + (1 : Nat) ≤ (9223372036854775807 : Nat))
  then some (T.leaf
  (AV.c (C.d (D.v Value.nilIface)),
    [((0 : Nat),
        Blk.cells
          [C.ptr ((0 : Nat)) ((0 : Nat)),
            C.row ((2 : Nat)) ((1 : Nat))
              (dstLen (some ((1 : Nat), ByteArray.size b)) +
                srcLen
                  (Src.own
                    (List.length (HB (61 : TypeId) (5 : TypeId) b) +
                          (16 : Nat) *
                            Array.size
                              #[Oper.mk (some (4 : Nat)) (Op.assign (Operand.const Value.nilIface)) (64 : Nat)
                                  "builder.go:95" #[] none] +
                        (16 : Nat) *
                          Array.size
                            #[Oper.mk (some (5 : Nat)) (Op.move (Operand.tmp (0 : Nat))) (58 : Nat) "builder.go:96" #[]
                                none,
                              Oper.mk (some (6 : Nat))
                                (Op.call
                                  (Call.mk (Callee.value (Operand.func (48 : Nat))) #[Operand.tmp (5 : Nat)]
                                    #[(58 : Nat)]))
                                (0 : Nat) "builder.go:96" #[Edge.mk (0 : Nat) Ground.data] none] +
                      (16 : Nat) * (6 : Nat))
                    ((0 : Nat) + (1 : Nat)) (1 : Nat)))]
          ((61 : Nat))),
      ((1 : Nat), Blk.dead),
      ((2 : Nat),
        Blk.row
          (dstLen (some ((1 : Nat), ByteArray.size b)) +
            srcLen
              (Src.own
                (List.length (HB (61 : TypeId) (5 : TypeId) b) +
                      (16 : Nat) *
                        Array.size
                          #[Oper.mk (some (4 : Nat)) (Op.assign (Operand.const Value.nilIface)) (64 : Nat)
                              "builder.go:95" #[] none] +
                    (16 : Nat) *
                      Array.size
                        #[Oper.mk (some (5 : Nat)) (Op.move (Operand.tmp (0 : Nat))) (58 : Nat) "builder.go:96" #[]
                            none,
                          Oper.mk (some (6 : Nat))
                            (Op.call
                              (Call.mk (Callee.value (Operand.func (48 : Nat))) #[Operand.tmp (5 : Nat)] #[(58 : Nat)]))
                            (0 : Nat) "builder.go:96" #[Edge.mk (0 : Nat) Ground.data] none] +
                  (16 : Nat) * (6 : Nat))
                ((0 : Nat) + (1 : Nat)) (1 : Nat)))
          (appD (some ((1 : Nat), ByteArray.size b)) (dstLen (some ((1 : Nat), ByteArray.size b))) (bF b)
            (chunk [D.v (Value.int IntKind.u8 c)] ((0 : Nat) + (1 : Nat))))
          ((1 : Nat)) ((5 : Nat)))]))
  else none) := by kernel_rfl
set_option maxRecDepth 100000 in
theorem ev35a (_u : Unit) : callA Try.prog Orc.nil na 1 Try.f35 (bodyOf Try.f35) [.c (.ptr 0 0)] (HB0 61) =
  some (T.leaf
  (AV.c (C.d (D.v (Value.string ByteArray.empty))),
    [((0 : Nat),
        Blk.cells [C.d (D.v (Value.pointer none)), C.d (D.v (Value.slice none (0 : Nat) (0 : Nat)))] ((61 : Nat)))])) := by kernel_rfl
set_option maxRecDepth 100000 in
theorem ev35b (b : ByteArray) : callA Try.prog Orc.nil na 1 Try.f35 (bodyOf Try.f35) [.c (.ptr 0 0)] (HB 61 5 b) =
  (bif decide ((0 : Nat) < ByteArray.size b)
  then (bif decide ((0 : Int) ≤ (↑(ByteArray.size b) : Int)) &&
  decide ((↑(ByteArray.size b) : Int) ≤ (9223372036854775807 : Int))
    then (bif Nat.ble (Int.toNat (↑(ByteArray.size b) : Int)) (ByteArray.size b) && Nat.beq (1 : Nat) (1 : Nat) &&
    Nat.beq (5 : TypeId) (5 : Nat) &&
  bytesOk (Int.toNat (↑(ByteArray.size b) : Int)) (bF b)
      then some (T.leaf
  (AV.c (C.d (D.v (Value.string (bytesS (Int.toNat (↑(ByteArray.size b) : Int)) (bF b))))),
    [((0 : Nat),
        Blk.cells [C.ptr ((0 : Nat)) ((0 : Nat)), C.row ((1 : Nat)) ((1 : Nat)) (ByteArray.size b)] ((61 : Nat))),
      ((1 : Nat), Blk.dead)]))
      else none)
    else none)
  else none) := by kernel_rfl
set_option maxRecDepth 100000 in
theorem ev34 (w : Wd) : callA Try.prog Orc.nil na 1 Try.f34 (bodyOf Try.f34) [.agg ((wcells w).map .d)] [] =
  (bif Wd.q w
  then (bif decide
  (ByteArray.size (ByteArray.mk #[(34 : UInt8)]) + ByteArray.size (Wd.text w) ≤ (9223372036854775807 : Nat))
    then (bif decide
  (ByteArray.size (ByteArray.mk #[(34 : UInt8)] ++ Wd.text w) + ByteArray.size (ByteArray.mk #[(34 : UInt8)]) ≤
    (9223372036854775807 : Nat))
      then some (T.leaf
  (AV.c (C.d (D.v (Value.string (ByteArray.mk #[(34 : UInt8)] ++ Wd.text w ++ ByteArray.mk #[(34 : UInt8)])))), []))
      else none)
    else none)
  else some (T.leaf (AV.c (C.d (D.v (Value.string (Wd.text w)))), []))) := by kernel_rfl
end Go.Proofs.Ytkmmkdeoamhpfaa.bu
