/-
  Format, of the program and of the reference: what they compute. No condition.
-/
import Derived.Test.YtkmmkdeoamhpfaaBv
import Derived.Test.YtkmmkdeoamhpfaaCk
namespace Go.Proofs.Ytkmmkdeoamhpfaa.fo
open Go.RowKit Go.Eb
open Go.Proofs.Ytkmmkdeoamhpfaa.bu (rS rE)
open Go.Proofs.Ytkmmkdeoamhpfaa.ck (decWd aWd)

abbrev W1 : Nat × Blk := (1, .cells [.fn 31 [] [.ptr 0 0, .ptr 1 0]] 62)
abbrev W2 : Nat × Blk := (2, .cells [.fn 31 [] [.ptr 0 0, .ptr 2 0]] 62)
/-- memory of a call: a fresh builder; one that was written to; behind a write -/
abbrev HA0 : Hp := [(0, .cells [.d (.v (.pointer none)), .d (.v (.slice none 0 0))] 61), W1]
abbrev HC0 (G : BG) (b : ByteArray) : Hp := [(0, .cells [.ptr 0 0, .row 1 1 (G.sz b)] 61), (1, .row (G.sz b) (G.fn b) 1 5), W2]
abbrev HA (G : BG) (b : ByteArray) : Hp := [(0, .cells [.ptr 0 0, .row 2 1 (G.sz b)] 61), W1, (2, .row (G.sz b) (G.fn b) 1 5)]
abbrev HC (G : BG) (b : ByteArray) : Hp := [(0, .cells [.ptr 0 0, .row 3 1 (G.sz b)] 61), (1, .dead), W2, (3, .row (G.sz b) (G.fn b) 1 5)]
/-- what callees answer -/
structure FP where
  G : BG
  c : D → ByteArray → Nat → Nat → (Nat → List D) → Bool
  emp : D → Bool
  fm : D → ByteArray → ByteArray → ByteArray
  sr : Wd → ByteArray
  cw : Wd → Bool
def ans31 (Z : FP) : (R : Type) → List AV → Hp → (AV → Hp → Option (T R)) → Option (T R) := fun _ args H k => match args, H with
  | [.c (.d x), .c (.d (.v (.string ind))), .c (.ptr 0 0), .c (.ptr 2 0)], [(0, .cells [.ptr 0 0, .row 1 1 n] 61), (1, .row m f 1 5), (2, .cells [.fn 31 [] [.ptr 0 0, .ptr 2 0]] 62)] =>
    bif Z.c x ind n m f then (bif Z.emp x then k (.tup []) (HC0 Z.G (Z.G.of n f)) else k (.tup []) (HC Z.G (Z.fm x ind (Z.G.of n f)))) else none
  | _, _ => none
noncomputable def o31 (Z : FP) : Orc := Orc.cons 32 (ansWr true Z.G 61 5 argS rS) (Orc.cons 33 (ansWr false Z.G 61 5 arg8 fun _ => rE) (Orc.cons 34 (ansC decWd Z.cw fun w => vS (Z.sr w)) (Orc.cons 31 (ans31 Z) Orc.nil)))
noncomputable def ann31 := annOf [(1, ⟨[1, 2, 3, 10, 11, 12], []⟩), (5, ⟨[1, 2, 3, 7, 10, 11, 12, 19, 20, 21], []⟩)]
noncomputable abbrev lb31 : Code := sub [true, false, false] (bodyOf Try.f31)
noncomputable abbrev li31 : Code := sub [true, true, false, false, true, true, false, true, false, false] lb31
noncomputable def LA (Z : FP) (l : List It) (ind : ByteArray) (g m : Nat) (b : ByteArray) (i : Int) := loopK Try.prog (o31 Z) ann31 2 g lb31 m ⟨frm [(1, vS ind), (2, .c (.ptr 0 0)), (3, .c (.ptr 1 0)), (10, aI l), (11, vI l.length), (12, vI i)] 0 Try.f31.ntmps, HA Z.G b, 3⟩ (kAt Try.prog (o31 Z) ann31 2 g [true, false] (bodyOf Try.f31) (kEnd Try.prog Try.f31 2))
noncomputable def IA (Z : FP) (l : List It) (ind : ByteArray) (x : It) (g m m1 : Nat) (b : ByteArray) (i j : Int) := loopK Try.prog (o31 Z) ann31 2 g li31 m1 ⟨frm [(1, vS ind), (2, .c (.ptr 0 0)), (3, .c (.ptr 1 0)), (7, .c (.ptr 3 0)), (10, aI l), (11, vI l.length), (12, vI i), (19, aW x.words), (20, vI x.words.length), (21, vI j)] 0 Try.f31.ntmps, HA Z.G b ++ [(3, .cells ((icells x).map .d) 38)], 4⟩ (kAt Try.prog (o31 Z) ann31 2 g [true, true, false, false, true, true, false, true, false] lb31 (kIter Try.prog (o31 Z) ann31 2 g lb31 m (kAt Try.prog (o31 Z) ann31 2 g [true, false] (bodyOf Try.f31) (kEnd Try.prog Try.f31 2))))
set_option maxRecDepth 100000 in
theorem stA (Z : FP) (l : List It) (ind : ByteArray) (g m : Nat) (b : ByteArray) (i : Int) : LA Z l ind g (m + 1) b i =
  (bif decide (i < (↑(List.length l) : Int))
  then (bif decide ((0 : Int) ≤ i) && decide (i < (↑(List.length l) : Int))
    then (bif Nat.beq (61 : TypeId) (61 : TypeId) && Nat.beq (5 : TypeId) (5 : TypeId) &&
  BG.ok (FP.G Z) (BG.sz (FP.G Z) b) (BG.sz (FP.G Z) b) (BG.fn (FP.G Z) b) ind
      then IA Z l ind (List.getD l (Int.toNat i)
  i0) g m g (BG.ap (FP.G Z) (BG.of (FP.G Z) (BG.sz (FP.G Z) b) (BG.fn (FP.G Z) b)) ind) i ((0 : Int))
      else none)
    else none)
  else some (T.leaf
  (AV.tup [],
    [((0 : Nat),
        Blk.cells [C.ptr ((0 : Nat)) ((0 : Nat)), C.row ((2 : Nat)) ((1 : Nat)) (BG.sz (FP.G Z) b)] ((61 : Nat))),
      ((1 : Nat),
        Blk.cells [C.fn ((31 : Nat)) [] [Rf.ptr ((0 : Nat)) ((0 : Nat)), Rf.ptr ((1 : Nat)) ((0 : Nat))]] ((62 : Nat))),
      ((2 : Nat), Blk.row (BG.sz (FP.G Z) b) (BG.fn (FP.G Z) b) ((1 : Nat)) ((5 : Nat)))]))) := by kernel_rfl
set_option maxRecDepth 100000 in
theorem siA (Z : FP) (l : List It) (ind : ByteArray) (x : It) (g m m1 : Nat) (b : ByteArray) (i j : Int) : IA Z l ind x g m (m1 + 1) b i j =
  (bif decide (j < (↑(List.length (It.words x)) : Int))
  then (bif decide ((0 : Int) ≤ j) && decide (j < (↑(List.length (It.words x)) : Int))
    then (bif decide (j > (0 : Int))
      then (bif Nat.beq (61 : TypeId) (61 : TypeId) && Nat.beq (5 : TypeId) (5 : TypeId) &&
  BG.ok (FP.G Z) (BG.sz (FP.G Z) b) (BG.sz (FP.G Z) b) (BG.fn (FP.G Z) b)
    (ByteArray.mk #[Nat.toUInt8 (Int.toNat (32 : Int))])
        then (bif FP.cw Z
  (Wd.mk (Wd.text (List.getD (It.words x) (Int.toNat j) w0)) (Wd.q (List.getD (It.words x) (Int.toNat j) w0)))
          then (bif Nat.beq (61 : TypeId) (61 : TypeId) && Nat.beq (5 : TypeId) (5 : TypeId) &&
  BG.ok (FP.G Z)
    (BG.sz (FP.G Z)
      (BG.ap (FP.G Z) (BG.of (FP.G Z) (BG.sz (FP.G Z) b) (BG.fn (FP.G Z) b))
        (ByteArray.mk #[Nat.toUInt8 (Int.toNat (32 : Int))])))
    (BG.sz (FP.G Z)
      (BG.ap (FP.G Z) (BG.of (FP.G Z) (BG.sz (FP.G Z) b) (BG.fn (FP.G Z) b))
        (ByteArray.mk #[Nat.toUInt8 (Int.toNat (32 : Int))])))
    (BG.fn (FP.G Z)
      (BG.ap (FP.G Z) (BG.of (FP.G Z) (BG.sz (FP.G Z) b) (BG.fn (FP.G Z) b))
        (ByteArray.mk #[Nat.toUInt8 (Int.toNat (32 : Int))])))
    (FP.sr Z
      (Wd.mk (Wd.text (List.getD (It.words x) (Int.toNat j) w0)) (Wd.q (List.getD (It.words x) (Int.toNat j) w0))))
            then IA Z l ind x g m m1 (BG.ap (FP.G Z)
  (BG.of (FP.G Z)
    (BG.sz (FP.G Z)
      (BG.ap (FP.G Z) (BG.of (FP.G Z) (BG.sz (FP.G Z) b) (BG.fn (FP.G Z) b))
        (ByteArray.mk #[Nat.toUInt8 (Int.toNat (32 : Int))])))
    (BG.fn (FP.G Z)
      (BG.ap (FP.G Z) (BG.of (FP.G Z) (BG.sz (FP.G Z) b) (BG.fn (FP.G Z) b))
        (ByteArray.mk #[Nat.toUInt8 (Int.toNat (32 : Int))]))))
  (FP.sr Z
    (Wd.mk (Wd.text (List.getD (It.words x) (Int.toNat j) w0))
      (Wd.q (List.getD (It.words x) (Int.toNat j) w0))))) i (IntKind.wrap IntKind.i64 (j + (1 : Int)))
            else none)
          else none)
        else none)
      else (bif FP.cw Z
  (Wd.mk (Wd.text (List.getD (It.words x) (Int.toNat j) w0)) (Wd.q (List.getD (It.words x) (Int.toNat j) w0)))
        then (bif Nat.beq (61 : TypeId) (61 : TypeId) && Nat.beq (5 : TypeId) (5 : TypeId) &&
  BG.ok (FP.G Z) (BG.sz (FP.G Z) b) (BG.sz (FP.G Z) b) (BG.fn (FP.G Z) b)
    (FP.sr Z
      (Wd.mk (Wd.text (List.getD (It.words x) (Int.toNat j) w0)) (Wd.q (List.getD (It.words x) (Int.toNat j) w0))))
          then IA Z l ind x g m m1 (BG.ap (FP.G Z) (BG.of (FP.G Z) (BG.sz (FP.G Z) b) (BG.fn (FP.G Z) b))
  (FP.sr Z
    (Wd.mk (Wd.text (List.getD (It.words x) (Int.toNat j) w0))
      (Wd.q (List.getD (It.words x) (Int.toNat j) w0))))) i (IntKind.wrap IntKind.i64 (j + (1 : Int)))
          else none)
        else none))
    else none)
  else (bif !It.block x
    then (bif Nat.beq (61 : TypeId) (61 : TypeId) && Nat.beq (5 : TypeId) (5 : TypeId) &&
  BG.ok (FP.G Z) (BG.sz (FP.G Z) b) (BG.sz (FP.G Z) b) (BG.fn (FP.G Z) b) (ByteArray.mk #[(59 : UInt8), (10 : UInt8)])
      then LA Z l ind g m (BG.ap (FP.G Z) (BG.of (FP.G Z) (BG.sz (FP.G Z) b) (BG.fn (FP.G Z) b))
  (ByteArray.mk #[(59 : UInt8), (10 : UInt8)])) (IntKind.wrap IntKind.i64 (i + (1 : Int)))
      else none)
    else (bif Nat.beq (61 : TypeId) (61 : TypeId) && Nat.beq (5 : TypeId) (5 : TypeId) &&
  BG.ok (FP.G Z) (BG.sz (FP.G Z) b) (BG.sz (FP.G Z) b) (BG.fn (FP.G Z) b)
    (ByteArray.mk #[(32 : UInt8), (123 : UInt8), (10 : UInt8)])
      then (bif decide
  (ByteArray.size ind + ByteArray.size (ByteArray.mk #[(32 : UInt8), (32 : UInt8)]) ≤ (9223372036854775807 : Nat))
        then (bif FP.c Z (kidsD x) (ind ++ ByteArray.mk #[(32 : UInt8), (32 : UInt8)])
  (BG.sz (FP.G Z)
    (BG.ap (FP.G Z) (BG.of (FP.G Z) (BG.sz (FP.G Z) b) (BG.fn (FP.G Z) b))
      (ByteArray.mk #[(32 : UInt8), (123 : UInt8), (10 : UInt8)])))
  (BG.sz (FP.G Z)
    (BG.ap (FP.G Z) (BG.of (FP.G Z) (BG.sz (FP.G Z) b) (BG.fn (FP.G Z) b))
      (ByteArray.mk #[(32 : UInt8), (123 : UInt8), (10 : UInt8)])))
  (BG.fn (FP.G Z)
    (BG.ap (FP.G Z) (BG.of (FP.G Z) (BG.sz (FP.G Z) b) (BG.fn (FP.G Z) b))
      (ByteArray.mk #[(32 : UInt8), (123 : UInt8), (10 : UInt8)])))
          then (bif FP.emp Z (kidsD x)
            then (bif decide
  (ByteArray.size ind + ByteArray.size (ByteArray.mk #[(125 : UInt8), (10 : UInt8)]) ≤ (9223372036854775807 : Nat))
              then (bif Nat.beq (61 : TypeId) (61 : TypeId) && Nat.beq (5 : TypeId) (5 : TypeId) &&
  BG.ok (FP.G Z)
    (BG.sz (FP.G Z)
      (BG.of (FP.G Z)
        (BG.sz (FP.G Z)
          (BG.ap (FP.G Z) (BG.of (FP.G Z) (BG.sz (FP.G Z) b) (BG.fn (FP.G Z) b))
            (ByteArray.mk #[(32 : UInt8), (123 : UInt8), (10 : UInt8)])))
        (BG.fn (FP.G Z)
          (BG.ap (FP.G Z) (BG.of (FP.G Z) (BG.sz (FP.G Z) b) (BG.fn (FP.G Z) b))
            (ByteArray.mk #[(32 : UInt8), (123 : UInt8), (10 : UInt8)])))))
    (BG.sz (FP.G Z)
      (BG.of (FP.G Z)
        (BG.sz (FP.G Z)
          (BG.ap (FP.G Z) (BG.of (FP.G Z) (BG.sz (FP.G Z) b) (BG.fn (FP.G Z) b))
            (ByteArray.mk #[(32 : UInt8), (123 : UInt8), (10 : UInt8)])))
        (BG.fn (FP.G Z)
          (BG.ap (FP.G Z) (BG.of (FP.G Z) (BG.sz (FP.G Z) b) (BG.fn (FP.G Z) b))
            (ByteArray.mk #[(32 : UInt8), (123 : UInt8), (10 : UInt8)])))))
    (BG.fn (FP.G Z)
      (BG.of (FP.G Z)
        (BG.sz (FP.G Z)
          (BG.ap (FP.G Z) (BG.of (FP.G Z) (BG.sz (FP.G Z) b) (BG.fn (FP.G Z) b))
            (ByteArray.mk #[(32 : UInt8), (123 : UInt8), (10 : UInt8)])))
        (BG.fn (FP.G Z)
          (BG.ap (FP.G Z) (BG.of (FP.G Z) (BG.sz (FP.G Z) b) (BG.fn (FP.G Z) b))
            (ByteArray.mk #[(32 : UInt8), (123 : UInt8), (10 : UInt8)])))))
    (ind ++ ByteArray.mk #[(125 : UInt8), (10 : UInt8)])
                then LA Z l ind g m (BG.ap (FP.G Z)
  (BG.of (FP.G Z)
    (BG.sz (FP.G Z)
      (BG.of (FP.G Z)
        (BG.sz (FP.G Z)
          (BG.ap (FP.G Z) (BG.of (FP.G Z) (BG.sz (FP.G Z) b) (BG.fn (FP.G Z) b))
            (ByteArray.mk #[(32 : UInt8), (123 : UInt8), (10 : UInt8)])))
        (BG.fn (FP.G Z)
          (BG.ap (FP.G Z) (BG.of (FP.G Z) (BG.sz (FP.G Z) b) (BG.fn (FP.G Z) b))
            (ByteArray.mk #[(32 : UInt8), (123 : UInt8), (10 : UInt8)])))))
    (BG.fn (FP.G Z)
      (BG.of (FP.G Z)
        (BG.sz (FP.G Z)
          (BG.ap (FP.G Z) (BG.of (FP.G Z) (BG.sz (FP.G Z) b) (BG.fn (FP.G Z) b))
            (ByteArray.mk #[(32 : UInt8), (123 : UInt8), (10 : UInt8)])))
        (BG.fn (FP.G Z)
          (BG.ap (FP.G Z) (BG.of (FP.G Z) (BG.sz (FP.G Z) b) (BG.fn (FP.G Z) b))
            (ByteArray.mk #[(32 : UInt8), (123 : UInt8), (10 : UInt8)]))))))
  (ind ++ ByteArray.mk #[(125 : UInt8), (10 : UInt8)])) (IntKind.wrap IntKind.i64 (i + (1 : Int)))
                else none)
              else none)
            else (bif decide
  (ByteArray.size ind + ByteArray.size (ByteArray.mk #[(125 : UInt8), (10 : UInt8)]) ≤ (9223372036854775807 : Nat))
              then (bif Nat.beq (61 : TypeId) (61 : TypeId) && Nat.beq (5 : TypeId) (5 : TypeId) &&
  BG.ok (FP.G Z)
    (BG.sz (FP.G Z)
      (FP.fm Z (kidsD x) (ind ++ ByteArray.mk #[(32 : UInt8), (32 : UInt8)])
        (BG.of (FP.G Z)
          (BG.sz (FP.G Z)
            (BG.ap (FP.G Z) (BG.of (FP.G Z) (BG.sz (FP.G Z) b) (BG.fn (FP.G Z) b))
              (ByteArray.mk #[(32 : UInt8), (123 : UInt8), (10 : UInt8)])))
          (BG.fn (FP.G Z)
            (BG.ap (FP.G Z) (BG.of (FP.G Z) (BG.sz (FP.G Z) b) (BG.fn (FP.G Z) b))
              (ByteArray.mk #[(32 : UInt8), (123 : UInt8), (10 : UInt8)]))))))
    (BG.sz (FP.G Z)
      (FP.fm Z (kidsD x) (ind ++ ByteArray.mk #[(32 : UInt8), (32 : UInt8)])
        (BG.of (FP.G Z)
          (BG.sz (FP.G Z)
            (BG.ap (FP.G Z) (BG.of (FP.G Z) (BG.sz (FP.G Z) b) (BG.fn (FP.G Z) b))
              (ByteArray.mk #[(32 : UInt8), (123 : UInt8), (10 : UInt8)])))
          (BG.fn (FP.G Z)
            (BG.ap (FP.G Z) (BG.of (FP.G Z) (BG.sz (FP.G Z) b) (BG.fn (FP.G Z) b))
              (ByteArray.mk #[(32 : UInt8), (123 : UInt8), (10 : UInt8)]))))))
    (BG.fn (FP.G Z)
      (FP.fm Z (kidsD x) (ind ++ ByteArray.mk #[(32 : UInt8), (32 : UInt8)])
        (BG.of (FP.G Z)
          (BG.sz (FP.G Z)
            (BG.ap (FP.G Z) (BG.of (FP.G Z) (BG.sz (FP.G Z) b) (BG.fn (FP.G Z) b))
              (ByteArray.mk #[(32 : UInt8), (123 : UInt8), (10 : UInt8)])))
          (BG.fn (FP.G Z)
            (BG.ap (FP.G Z) (BG.of (FP.G Z) (BG.sz (FP.G Z) b) (BG.fn (FP.G Z) b))
              (ByteArray.mk #[(32 : UInt8), (123 : UInt8), (10 : UInt8)]))))))
    (ind ++ ByteArray.mk #[(125 : UInt8), (10 : UInt8)])
                then LA Z l ind g m (BG.ap (FP.G Z)
  (BG.of (FP.G Z)
    (BG.sz (FP.G Z)
      (FP.fm Z (kidsD x) (ind ++ ByteArray.mk #[(32 : UInt8), (32 : UInt8)])
        (BG.of (FP.G Z)
          (BG.sz (FP.G Z)
            (BG.ap (FP.G Z) (BG.of (FP.G Z) (BG.sz (FP.G Z) b) (BG.fn (FP.G Z) b))
              (ByteArray.mk #[(32 : UInt8), (123 : UInt8), (10 : UInt8)])))
          (BG.fn (FP.G Z)
            (BG.ap (FP.G Z) (BG.of (FP.G Z) (BG.sz (FP.G Z) b) (BG.fn (FP.G Z) b))
              (ByteArray.mk #[(32 : UInt8), (123 : UInt8), (10 : UInt8)]))))))
    (BG.fn (FP.G Z)
      (FP.fm Z (kidsD x) (ind ++ ByteArray.mk #[(32 : UInt8), (32 : UInt8)])
        (BG.of (FP.G Z)
          (BG.sz (FP.G Z)
            (BG.ap (FP.G Z) (BG.of (FP.G Z) (BG.sz (FP.G Z) b) (BG.fn (FP.G Z) b))
              (ByteArray.mk #[(32 : UInt8), (123 : UInt8), (10 : UInt8)])))
          (BG.fn (FP.G Z)
            (BG.ap (FP.G Z) (BG.of (FP.G Z) (BG.sz (FP.G Z) b) (BG.fn (FP.G Z) b))
              (ByteArray.mk #[(32 : UInt8), (123 : UInt8), (10 : UInt8)])))))))
  (ind ++ ByteArray.mk #[(125 : UInt8), (10 : UInt8)])) (IntKind.wrap IntKind.i64 (i + (1 : Int)))
                else none)
              else none))
          else none)
        else none)
      else none))) := by kernel_rfl
noncomputable def FA (Z : FP) (l : List It) (ind : ByteArray) (g m : Nat) (i : Int) := loopK Try.prog (o31 Z) ann31 2 g lb31 m ⟨frm [(1, vS ind), (2, .c (.ptr 0 0)), (3, .c (.ptr 1 0)), (10, aI l), (11, vI l.length), (12, vI i)] 0 Try.f31.ntmps, HA0, 2⟩ (kAt Try.prog (o31 Z) ann31 2 g [true, false] (bodyOf Try.f31) (kEnd Try.prog Try.f31 2))
set_option maxRecDepth 100000 in
theorem evA (Z : FP) (l : List It) (ind : ByteArray) (g : Nat) : callA Try.prog (o31 Z) ann31 g Try.f31 (bodyOf Try.f31) [aI l, vS ind, .c (.ptr 0 0), .c (.ptr 1 0)] (HA0) =
  FA Z l ind g g ((0 : Int)) := by kernel_rfl
set_option maxRecDepth 100000 in
theorem sfA (Z : FP) (l : List It) (ind : ByteArray) (g m : Nat) (i : Int) : FA Z l ind g (m + 1) i =
  (bif decide (i < (↑(List.length l) : Int))
  then (bif decide ((0 : Int) ≤ i) && decide (i < (↑(List.length l) : Int))
    then (bif true && Nat.beq (61 : TypeId) (61 : TypeId) && BG.ok (FP.G Z) (0 : Nat) (0 : Nat) (fun x => []) ind
      then IA Z l ind (List.getD l (Int.toNat i) i0) g m g ind i ((0 : Int))
      else none)
    else none)
  else some (T.leaf
  (AV.tup [],
    [((0 : Nat),
        Blk.cells [C.d (D.v (Value.pointer none)), C.d (D.v (Value.slice none (0 : Nat) (0 : Nat)))] ((61 : Nat))),
      ((1 : Nat),
        Blk.cells [C.fn ((31 : Nat)) [] [Rf.ptr ((0 : Nat)) ((0 : Nat)), Rf.ptr ((1 : Nat)) ((0 : Nat))]]
          ((62 : Nat)))]))) := by kernel_rfl
noncomputable def LC (Z : FP) (l : List It) (ind : ByteArray) (g m : Nat) (b : ByteArray) (i : Int) := loopK Try.prog (o31 Z) ann31 3 g lb31 m ⟨frm [(1, vS ind), (2, .c (.ptr 0 0)), (3, .c (.ptr 2 0)), (10, aI l), (11, vI l.length), (12, vI i)] 0 Try.f31.ntmps, HC Z.G b, 4⟩ (kAt Try.prog (o31 Z) ann31 3 g [true, false] (bodyOf Try.f31) (kEnd Try.prog Try.f31 3))
noncomputable def IC (Z : FP) (l : List It) (ind : ByteArray) (x : It) (g m m1 : Nat) (b : ByteArray) (i j : Int) := loopK Try.prog (o31 Z) ann31 3 g li31 m1 ⟨frm [(1, vS ind), (2, .c (.ptr 0 0)), (3, .c (.ptr 2 0)), (7, .c (.ptr 4 0)), (10, aI l), (11, vI l.length), (12, vI i), (19, aW x.words), (20, vI x.words.length), (21, vI j)] 0 Try.f31.ntmps, HC Z.G b ++ [(4, .cells ((icells x).map .d) 38)], 5⟩ (kAt Try.prog (o31 Z) ann31 3 g [true, true, false, false, true, true, false, true, false] lb31 (kIter Try.prog (o31 Z) ann31 3 g lb31 m (kAt Try.prog (o31 Z) ann31 3 g [true, false] (bodyOf Try.f31) (kEnd Try.prog Try.f31 3))))
set_option maxRecDepth 100000 in
theorem stC (Z : FP) (l : List It) (ind : ByteArray) (g m : Nat) (b : ByteArray) (i : Int) : LC Z l ind g (m + 1) b i =
  (bif decide (i < (↑(List.length l) : Int))
  then (bif decide ((0 : Int) ≤ i) && decide (i < (↑(List.length l) : Int))
    then (bif Nat.beq (61 : TypeId) (61 : TypeId) && Nat.beq (5 : TypeId) (5 : TypeId) &&
  BG.ok (FP.G Z) (BG.sz (FP.G Z) b) (BG.sz (FP.G Z) b) (BG.fn (FP.G Z) b) ind
      then IC Z l ind (List.getD l (Int.toNat i)
  i0) g m g (BG.ap (FP.G Z) (BG.of (FP.G Z) (BG.sz (FP.G Z) b) (BG.fn (FP.G Z) b)) ind) i ((0 : Int))
      else none)
    else none)
  else some (T.leaf
  (AV.tup [],
    [((0 : Nat),
        Blk.cells [C.ptr ((0 : Nat)) ((0 : Nat)), C.row ((3 : Nat)) ((1 : Nat)) (BG.sz (FP.G Z) b)] ((61 : Nat))),
      ((1 : Nat), Blk.dead),
      ((2 : Nat),
        Blk.cells [C.fn ((31 : Nat)) [] [Rf.ptr ((0 : Nat)) ((0 : Nat)), Rf.ptr ((2 : Nat)) ((0 : Nat))]] ((62 : Nat))),
      ((3 : Nat), Blk.row (BG.sz (FP.G Z) b) (BG.fn (FP.G Z) b) ((1 : Nat)) ((5 : Nat)))]))) := by kernel_rfl
set_option maxRecDepth 100000 in
theorem siC (Z : FP) (l : List It) (ind : ByteArray) (x : It) (g m m1 : Nat) (b : ByteArray) (i j : Int) : IC Z l ind x g m (m1 + 1) b i j =
  (bif decide (j < (↑(List.length (It.words x)) : Int))
  then (bif decide ((0 : Int) ≤ j) && decide (j < (↑(List.length (It.words x)) : Int))
    then (bif decide (j > (0 : Int))
      then (bif Nat.beq (61 : TypeId) (61 : TypeId) && Nat.beq (5 : TypeId) (5 : TypeId) &&
  BG.ok (FP.G Z) (BG.sz (FP.G Z) b) (BG.sz (FP.G Z) b) (BG.fn (FP.G Z) b)
    (ByteArray.mk #[Nat.toUInt8 (Int.toNat (32 : Int))])
        then (bif FP.cw Z
  (Wd.mk (Wd.text (List.getD (It.words x) (Int.toNat j) w0)) (Wd.q (List.getD (It.words x) (Int.toNat j) w0)))
          then (bif Nat.beq (61 : TypeId) (61 : TypeId) && Nat.beq (5 : TypeId) (5 : TypeId) &&
  BG.ok (FP.G Z)
    (BG.sz (FP.G Z)
      (BG.ap (FP.G Z) (BG.of (FP.G Z) (BG.sz (FP.G Z) b) (BG.fn (FP.G Z) b))
        (ByteArray.mk #[Nat.toUInt8 (Int.toNat (32 : Int))])))
    (BG.sz (FP.G Z)
      (BG.ap (FP.G Z) (BG.of (FP.G Z) (BG.sz (FP.G Z) b) (BG.fn (FP.G Z) b))
        (ByteArray.mk #[Nat.toUInt8 (Int.toNat (32 : Int))])))
    (BG.fn (FP.G Z)
      (BG.ap (FP.G Z) (BG.of (FP.G Z) (BG.sz (FP.G Z) b) (BG.fn (FP.G Z) b))
        (ByteArray.mk #[Nat.toUInt8 (Int.toNat (32 : Int))])))
    (FP.sr Z
      (Wd.mk (Wd.text (List.getD (It.words x) (Int.toNat j) w0)) (Wd.q (List.getD (It.words x) (Int.toNat j) w0))))
            then IC Z l ind x g m m1 (BG.ap (FP.G Z)
  (BG.of (FP.G Z)
    (BG.sz (FP.G Z)
      (BG.ap (FP.G Z) (BG.of (FP.G Z) (BG.sz (FP.G Z) b) (BG.fn (FP.G Z) b))
        (ByteArray.mk #[Nat.toUInt8 (Int.toNat (32 : Int))])))
    (BG.fn (FP.G Z)
      (BG.ap (FP.G Z) (BG.of (FP.G Z) (BG.sz (FP.G Z) b) (BG.fn (FP.G Z) b))
        (ByteArray.mk #[Nat.toUInt8 (Int.toNat (32 : Int))]))))
  (FP.sr Z
    (Wd.mk (Wd.text (List.getD (It.words x) (Int.toNat j) w0))
      (Wd.q (List.getD (It.words x) (Int.toNat j) w0))))) i (IntKind.wrap IntKind.i64 (j + (1 : Int)))
            else none)
          else none)
        else none)
      else (bif FP.cw Z
  (Wd.mk (Wd.text (List.getD (It.words x) (Int.toNat j) w0)) (Wd.q (List.getD (It.words x) (Int.toNat j) w0)))
        then (bif Nat.beq (61 : TypeId) (61 : TypeId) && Nat.beq (5 : TypeId) (5 : TypeId) &&
  BG.ok (FP.G Z) (BG.sz (FP.G Z) b) (BG.sz (FP.G Z) b) (BG.fn (FP.G Z) b)
    (FP.sr Z
      (Wd.mk (Wd.text (List.getD (It.words x) (Int.toNat j) w0)) (Wd.q (List.getD (It.words x) (Int.toNat j) w0))))
          then IC Z l ind x g m m1 (BG.ap (FP.G Z) (BG.of (FP.G Z) (BG.sz (FP.G Z) b) (BG.fn (FP.G Z) b))
  (FP.sr Z
    (Wd.mk (Wd.text (List.getD (It.words x) (Int.toNat j) w0))
      (Wd.q (List.getD (It.words x) (Int.toNat j) w0))))) i (IntKind.wrap IntKind.i64 (j + (1 : Int)))
          else none)
        else none))
    else none)
  else (bif !It.block x
    then (bif Nat.beq (61 : TypeId) (61 : TypeId) && Nat.beq (5 : TypeId) (5 : TypeId) &&
  BG.ok (FP.G Z) (BG.sz (FP.G Z) b) (BG.sz (FP.G Z) b) (BG.fn (FP.G Z) b) (ByteArray.mk #[(59 : UInt8), (10 : UInt8)])
      then LC Z l ind g m (BG.ap (FP.G Z) (BG.of (FP.G Z) (BG.sz (FP.G Z) b) (BG.fn (FP.G Z) b))
  (ByteArray.mk #[(59 : UInt8), (10 : UInt8)])) (IntKind.wrap IntKind.i64 (i + (1 : Int)))
      else none)
    else (bif Nat.beq (61 : TypeId) (61 : TypeId) && Nat.beq (5 : TypeId) (5 : TypeId) &&
  BG.ok (FP.G Z) (BG.sz (FP.G Z) b) (BG.sz (FP.G Z) b) (BG.fn (FP.G Z) b)
    (ByteArray.mk #[(32 : UInt8), (123 : UInt8), (10 : UInt8)])
      then (bif decide
  (ByteArray.size ind + ByteArray.size (ByteArray.mk #[(32 : UInt8), (32 : UInt8)]) ≤ (9223372036854775807 : Nat))
        then (bif FP.c Z (kidsD x) (ind ++ ByteArray.mk #[(32 : UInt8), (32 : UInt8)])
  (BG.sz (FP.G Z)
    (BG.ap (FP.G Z) (BG.of (FP.G Z) (BG.sz (FP.G Z) b) (BG.fn (FP.G Z) b))
      (ByteArray.mk #[(32 : UInt8), (123 : UInt8), (10 : UInt8)])))
  (BG.sz (FP.G Z)
    (BG.ap (FP.G Z) (BG.of (FP.G Z) (BG.sz (FP.G Z) b) (BG.fn (FP.G Z) b))
      (ByteArray.mk #[(32 : UInt8), (123 : UInt8), (10 : UInt8)])))
  (BG.fn (FP.G Z)
    (BG.ap (FP.G Z) (BG.of (FP.G Z) (BG.sz (FP.G Z) b) (BG.fn (FP.G Z) b))
      (ByteArray.mk #[(32 : UInt8), (123 : UInt8), (10 : UInt8)])))
          then (bif FP.emp Z (kidsD x)
            then (bif decide
  (ByteArray.size ind + ByteArray.size (ByteArray.mk #[(125 : UInt8), (10 : UInt8)]) ≤ (9223372036854775807 : Nat))
              then (bif Nat.beq (61 : TypeId) (61 : TypeId) && Nat.beq (5 : TypeId) (5 : TypeId) &&
  BG.ok (FP.G Z)
    (BG.sz (FP.G Z)
      (BG.of (FP.G Z)
        (BG.sz (FP.G Z)
          (BG.ap (FP.G Z) (BG.of (FP.G Z) (BG.sz (FP.G Z) b) (BG.fn (FP.G Z) b))
            (ByteArray.mk #[(32 : UInt8), (123 : UInt8), (10 : UInt8)])))
        (BG.fn (FP.G Z)
          (BG.ap (FP.G Z) (BG.of (FP.G Z) (BG.sz (FP.G Z) b) (BG.fn (FP.G Z) b))
            (ByteArray.mk #[(32 : UInt8), (123 : UInt8), (10 : UInt8)])))))
    (BG.sz (FP.G Z)
      (BG.of (FP.G Z)
        (BG.sz (FP.G Z)
          (BG.ap (FP.G Z) (BG.of (FP.G Z) (BG.sz (FP.G Z) b) (BG.fn (FP.G Z) b))
            (ByteArray.mk #[(32 : UInt8), (123 : UInt8), (10 : UInt8)])))
        (BG.fn (FP.G Z)
          (BG.ap (FP.G Z) (BG.of (FP.G Z) (BG.sz (FP.G Z) b) (BG.fn (FP.G Z) b))
            (ByteArray.mk #[(32 : UInt8), (123 : UInt8), (10 : UInt8)])))))
    (BG.fn (FP.G Z)
      (BG.of (FP.G Z)
        (BG.sz (FP.G Z)
          (BG.ap (FP.G Z) (BG.of (FP.G Z) (BG.sz (FP.G Z) b) (BG.fn (FP.G Z) b))
            (ByteArray.mk #[(32 : UInt8), (123 : UInt8), (10 : UInt8)])))
        (BG.fn (FP.G Z)
          (BG.ap (FP.G Z) (BG.of (FP.G Z) (BG.sz (FP.G Z) b) (BG.fn (FP.G Z) b))
            (ByteArray.mk #[(32 : UInt8), (123 : UInt8), (10 : UInt8)])))))
    (ind ++ ByteArray.mk #[(125 : UInt8), (10 : UInt8)])
                then LC Z l ind g m (BG.ap (FP.G Z)
  (BG.of (FP.G Z)
    (BG.sz (FP.G Z)
      (BG.of (FP.G Z)
        (BG.sz (FP.G Z)
          (BG.ap (FP.G Z) (BG.of (FP.G Z) (BG.sz (FP.G Z) b) (BG.fn (FP.G Z) b))
            (ByteArray.mk #[(32 : UInt8), (123 : UInt8), (10 : UInt8)])))
        (BG.fn (FP.G Z)
          (BG.ap (FP.G Z) (BG.of (FP.G Z) (BG.sz (FP.G Z) b) (BG.fn (FP.G Z) b))
            (ByteArray.mk #[(32 : UInt8), (123 : UInt8), (10 : UInt8)])))))
    (BG.fn (FP.G Z)
      (BG.of (FP.G Z)
        (BG.sz (FP.G Z)
          (BG.ap (FP.G Z) (BG.of (FP.G Z) (BG.sz (FP.G Z) b) (BG.fn (FP.G Z) b))
            (ByteArray.mk #[(32 : UInt8), (123 : UInt8), (10 : UInt8)])))
        (BG.fn (FP.G Z)
          (BG.ap (FP.G Z) (BG.of (FP.G Z) (BG.sz (FP.G Z) b) (BG.fn (FP.G Z) b))
            (ByteArray.mk #[(32 : UInt8), (123 : UInt8), (10 : UInt8)]))))))
  (ind ++ ByteArray.mk #[(125 : UInt8), (10 : UInt8)])) (IntKind.wrap IntKind.i64 (i + (1 : Int)))
                else none)
              else none)
            else (bif decide
  (ByteArray.size ind + ByteArray.size (ByteArray.mk #[(125 : UInt8), (10 : UInt8)]) ≤ (9223372036854775807 : Nat))
              then (bif Nat.beq (61 : TypeId) (61 : TypeId) && Nat.beq (5 : TypeId) (5 : TypeId) &&
  BG.ok (FP.G Z)
    (BG.sz (FP.G Z)
      (FP.fm Z (kidsD x) (ind ++ ByteArray.mk #[(32 : UInt8), (32 : UInt8)])
        (BG.of (FP.G Z)
          (BG.sz (FP.G Z)
            (BG.ap (FP.G Z) (BG.of (FP.G Z) (BG.sz (FP.G Z) b) (BG.fn (FP.G Z) b))
              (ByteArray.mk #[(32 : UInt8), (123 : UInt8), (10 : UInt8)])))
          (BG.fn (FP.G Z)
            (BG.ap (FP.G Z) (BG.of (FP.G Z) (BG.sz (FP.G Z) b) (BG.fn (FP.G Z) b))
              (ByteArray.mk #[(32 : UInt8), (123 : UInt8), (10 : UInt8)]))))))
    (BG.sz (FP.G Z)
      (FP.fm Z (kidsD x) (ind ++ ByteArray.mk #[(32 : UInt8), (32 : UInt8)])
        (BG.of (FP.G Z)
          (BG.sz (FP.G Z)
            (BG.ap (FP.G Z) (BG.of (FP.G Z) (BG.sz (FP.G Z) b) (BG.fn (FP.G Z) b))
              (ByteArray.mk #[(32 : UInt8), (123 : UInt8), (10 : UInt8)])))
          (BG.fn (FP.G Z)
            (BG.ap (FP.G Z) (BG.of (FP.G Z) (BG.sz (FP.G Z) b) (BG.fn (FP.G Z) b))
              (ByteArray.mk #[(32 : UInt8), (123 : UInt8), (10 : UInt8)]))))))
    (BG.fn (FP.G Z)
      (FP.fm Z (kidsD x) (ind ++ ByteArray.mk #[(32 : UInt8), (32 : UInt8)])
        (BG.of (FP.G Z)
          (BG.sz (FP.G Z)
            (BG.ap (FP.G Z) (BG.of (FP.G Z) (BG.sz (FP.G Z) b) (BG.fn (FP.G Z) b))
              (ByteArray.mk #[(32 : UInt8), (123 : UInt8), (10 : UInt8)])))
          (BG.fn (FP.G Z)
            (BG.ap (FP.G Z) (BG.of (FP.G Z) (BG.sz (FP.G Z) b) (BG.fn (FP.G Z) b))
              (ByteArray.mk #[(32 : UInt8), (123 : UInt8), (10 : UInt8)]))))))
    (ind ++ ByteArray.mk #[(125 : UInt8), (10 : UInt8)])
                then LC Z l ind g m (BG.ap (FP.G Z)
  (BG.of (FP.G Z)
    (BG.sz (FP.G Z)
      (FP.fm Z (kidsD x) (ind ++ ByteArray.mk #[(32 : UInt8), (32 : UInt8)])
        (BG.of (FP.G Z)
          (BG.sz (FP.G Z)
            (BG.ap (FP.G Z) (BG.of (FP.G Z) (BG.sz (FP.G Z) b) (BG.fn (FP.G Z) b))
              (ByteArray.mk #[(32 : UInt8), (123 : UInt8), (10 : UInt8)])))
          (BG.fn (FP.G Z)
            (BG.ap (FP.G Z) (BG.of (FP.G Z) (BG.sz (FP.G Z) b) (BG.fn (FP.G Z) b))
              (ByteArray.mk #[(32 : UInt8), (123 : UInt8), (10 : UInt8)]))))))
    (BG.fn (FP.G Z)
      (FP.fm Z (kidsD x) (ind ++ ByteArray.mk #[(32 : UInt8), (32 : UInt8)])
        (BG.of (FP.G Z)
          (BG.sz (FP.G Z)
            (BG.ap (FP.G Z) (BG.of (FP.G Z) (BG.sz (FP.G Z) b) (BG.fn (FP.G Z) b))
              (ByteArray.mk #[(32 : UInt8), (123 : UInt8), (10 : UInt8)])))
          (BG.fn (FP.G Z)
            (BG.ap (FP.G Z) (BG.of (FP.G Z) (BG.sz (FP.G Z) b) (BG.fn (FP.G Z) b))
              (ByteArray.mk #[(32 : UInt8), (123 : UInt8), (10 : UInt8)])))))))
  (ind ++ ByteArray.mk #[(125 : UInt8), (10 : UInt8)])) (IntKind.wrap IntKind.i64 (i + (1 : Int)))
                else none)
              else none))
          else none)
        else none)
      else none))) := by kernel_rfl
noncomputable def FC (Z : FP) (l : List It) (ind : ByteArray) (g m : Nat) (b : ByteArray) (i : Int) := loopK Try.prog (o31 Z) ann31 3 g lb31 m ⟨frm [(1, vS ind), (2, .c (.ptr 0 0)), (3, .c (.ptr 2 0)), (10, aI l), (11, vI l.length), (12, vI i)] 0 Try.f31.ntmps, HC0 Z.G b, 3⟩ (kAt Try.prog (o31 Z) ann31 3 g [true, false] (bodyOf Try.f31) (kEnd Try.prog Try.f31 3))
set_option maxRecDepth 100000 in
theorem evC (Z : FP) (l : List It) (ind : ByteArray) (g : Nat) (b : ByteArray) : callA Try.prog (o31 Z) ann31 g Try.f31 (bodyOf Try.f31) [aI l, vS ind, .c (.ptr 0 0), .c (.ptr 2 0)] (HC0 Z.G b) =
  FC Z l ind g g b ((0 : Int)) := by kernel_rfl
set_option maxRecDepth 100000 in
theorem sfC (Z : FP) (l : List It) (ind : ByteArray) (g m : Nat) (b : ByteArray) (i : Int) : FC Z l ind g (m + 1) b i =
  (bif decide (i < (↑(List.length l) : Int))
  then (bif decide ((0 : Int) ≤ i) && decide (i < (↑(List.length l) : Int))
    then (bif Nat.beq (61 : TypeId) (61 : TypeId) && Nat.beq (5 : TypeId) (5 : TypeId) &&
  BG.ok (FP.G Z) (BG.sz (FP.G Z) b) (BG.sz (FP.G Z) b) (BG.fn (FP.G Z) b) ind
      then IC Z l ind (List.getD l (Int.toNat i)
  i0) g m g (BG.ap (FP.G Z) (BG.of (FP.G Z) (BG.sz (FP.G Z) b) (BG.fn (FP.G Z) b)) ind) i ((0 : Int))
      else none)
    else none)
  else some (T.leaf
  (AV.tup [],
    [((0 : Nat),
        Blk.cells [C.ptr ((0 : Nat)) ((0 : Nat)), C.row ((1 : Nat)) ((1 : Nat)) (BG.sz (FP.G Z) b)] ((61 : Nat))),
      ((1 : Nat), Blk.row (BG.sz (FP.G Z) b) (BG.fn (FP.G Z) b) ((1 : Nat)) ((5 : Nat))),
      ((2 : Nat),
        Blk.cells [C.fn ((31 : Nat)) [] [Rf.ptr ((0 : Nat)) ((0 : Nat)), Rf.ptr ((2 : Nat)) ((0 : Nat))]]
          ((62 : Nat)))]))) := by kernel_rfl
end Go.Proofs.Ytkmmkdeoamhpfaa.fo
