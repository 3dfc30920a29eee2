/-
  Format and the reference's format: what they compute. No condition.
-/
import Derived.Test.YtkmmkdeoamhpfaaFo
namespace Go.Proofs.Ytkmmkdeoamhpfaa.fo
open Go.RowKit Go.Eb
open Go.Proofs.Ytkmmkdeoamhpfaa.bu (rS rE)

/-- the call out of Format -/
noncomputable def ans31t (Z : FP) (c0 : D → Bool) : (R : Type) → List AV → Hp → (AV → Hp → Option (T R)) → Option (T R) := fun _ args H k => match args, H with
  | [.c (.d x), .c (.d (.v (.string ind))), .c (.ptr 0 0), .c (.ptr 1 0)], [(0, .cells [.d (.v (.pointer none)), .d (.v (.slice none 0 0))] 61), (1, .cells [.fn 31 [] [.ptr 0 0, .ptr 1 0]] 62)] =>
    bif Nat.beq ind.size 0 && c0 x then (bif Z.emp x then k (.tup []) HA0 else k (.tup []) (HA Z.G (Z.fm x .empty .empty))) else none
  | _, _ => none
noncomputable def o15 (Z : FP) (ck : D → Int) (okc c0 : D → Bool) : Orc := Orc.cons 16 (ans1 okc fun x => vI (ck x)) (Orc.cons 31 (ans31t Z c0) (Orc.cons 35 (ansSt Z.G 61 5) Orc.nil))
set_option maxRecDepth 100000 in
theorem ev15 (Z : FP) (ck : D → Int) (okc c0 : D → Bool) (l : List It) : callA Try.prog (o15 Z ck okc c0) na 1 Try.f15 (bodyOf Try.f15) [aI l] [] =
  (bif okc (itemsD l)
  then (bif ck (itemsD l) != (0 : Int)
    then some (T.leaf (AV.c (C.d (D.v (Value.string (ByteArray.mk #[])))), []))
    else (bif Nat.beq (ByteArray.size (ByteArray.mk #[])) (0 : Nat) && c0 (itemsD l)
      then (bif FP.emp Z (itemsD l)
        then some (T.leaf (AV.c (C.d (D.v (Value.string ByteArray.empty))), []))
        else (bif Nat.beq (61 : TypeId) (61 : TypeId) && Nat.beq (5 : TypeId) (5 : TypeId) &&
    BG.ok (FP.G Z) (BG.sz (FP.G Z) (FP.fm Z (itemsD l) ByteArray.empty ByteArray.empty))
      (BG.sz (FP.G Z) (FP.fm Z (itemsD l) ByteArray.empty ByteArray.empty))
      (BG.fn (FP.G Z) (FP.fm Z (itemsD l) ByteArray.empty ByteArray.empty)) ByteArray.empty &&
  Nat.blt (0 : Nat) (BG.sz (FP.G Z) (FP.fm Z (itemsD l) ByteArray.empty ByteArray.empty))
          then some (T.leaf
  (AV.c
      (C.d
        (D.v
          (Value.string
            (BG.of (FP.G Z) (BG.sz (FP.G Z) (FP.fm Z (itemsD l) ByteArray.empty ByteArray.empty))
              (BG.fn (FP.G Z) (FP.fm Z (itemsD l) ByteArray.empty ByteArray.empty)))))),
    []))
          else none))
      else none))
  else none) := by kernel_rfl

noncomputable def o39 (c : D → Int → Bool) (fm : D → Int → ByteArray) : Orc := Orc.cons 39 (fun _ args H k => match H, args with | [], [.c (.d x), .c (.d (.v (.int .i64 d)))] => bif c x d then k (vS (fm x d)) [] else none | _, _ => none) Orc.nil
noncomputable def ann39 := annOf [(3, ⟨[0, 1, 5, 6], []⟩), (8, ⟨[0, 1, 5, 7, 8], []⟩), (12, ⟨[0, 1, 5, 7, 8, 9], []⟩)]
noncomputable abbrev lo39 : Code := sub [true, true, true, true, false, true, false, false] (bodyOf Try.f39)
noncomputable def B39 (c : D → Int → Bool) (fm : D → Int → ByteArray) (l : List It) (d : Int) (g m : Nat) (bl : ByteArray) (i : Int) := loopK Try.prog (o39 c fm) ann39 0 g (sub [true, true, false, true, false, false] (bodyOf Try.f39)) m ⟨frm [(0, aI l), (1, vI d), (5, vS bl), (6, vI i)] 0 Try.f39.ntmps, [], 0⟩ (kAt Try.prog (o39 c fm) ann39 0 g [true, true, false, true, false] (bodyOf Try.f39) (kEnd Try.prog Try.f39 0))
noncomputable def L39 (c : D → Int → Bool) (fm : D → Int → ByteArray) (l : List It) (d : Int) (bl : ByteArray) (g m : Nat) (b : ByteArray) (i : Int) := loopK Try.prog (o39 c fm) ann39 0 g lo39 m ⟨frm [(0, aI l), (1, vI d), (5, vS bl), (7, vS b), (8, vI i)] 0 Try.f39.ntmps, [], 0⟩ (kAt Try.prog (o39 c fm) ann39 0 g [true, true, true, true, false, true, false] (bodyOf Try.f39) (kEnd Try.prog Try.f39 0))
noncomputable def I39 (c : D → Int → Bool) (fm : D → Int → ByteArray) (l : List It) (d : Int) (bl : ByteArray) (g m m1 : Nat) (b : ByteArray) (i j : Int) := loopK Try.prog (o39 c fm) ann39 0 g (sub [true, false, false, true, false, true, false, false] lo39) m1 ⟨frm [(0, aI l), (1, vI d), (5, vS bl), (7, vS b), (8, vI i), (9, vI j)] 0 Try.f39.ntmps, [], 0⟩ (kAt Try.prog (o39 c fm) ann39 0 g [true, false, false, true, false, true, false] lo39 (kIter Try.prog (o39 c fm) ann39 0 g lo39 m (kAt Try.prog (o39 c fm) ann39 0 g [true, true, true, true, false, true, false] (bodyOf Try.f39) (kEnd Try.prog Try.f39 0))))
set_option maxRecDepth 100000 in
theorem ev39 (c : D → Int → Bool) (fm : D → Int → ByteArray) (l : List It) (d : Int) (g : Nat) : callA Try.prog (o39 c fm) ann39 g Try.f39 (bodyOf Try.f39) [aI l, vI d] [] =
  B39 c fm l d g g (ByteArray.mk #[]) ((0 : Int)) := by kernel_rfl
set_option maxRecDepth 100000 in
theorem sb39 (c : D → Int → Bool) (fm : D → Int → ByteArray) (l : List It) (d : Int) (g m : Nat) (bl : ByteArray) (i : Int) : B39 c fm l d g (m + 1) bl i =
  (bif decide (i < d)
  then (bif decide
  (ByteArray.size bl + ByteArray.size (ByteArray.mk #[(32 : UInt8), (32 : UInt8)]) ≤ (9223372036854775807 : Nat))
    then B39 c fm l d g m (bl ++ ByteArray.mk #[(32 : UInt8), (32 : UInt8)]) (IntKind.wrap IntKind.i64 (i + (1 : Int)))
    else none)
  else L39 c fm l d bl g g (ByteArray.mk #[]) ((0 : Int))) := by kernel_rfl
set_option maxRecDepth 100000 in
theorem st39 (c : D → Int → Bool) (fm : D → Int → ByteArray) (l : List It) (d : Int) (bl : ByteArray) (g m : Nat) (b : ByteArray) (i : Int) : L39 c fm l d bl g (m + 1) b i =
  (bif decide (i < (↑(List.length l) : Int))
  then (bif decide (ByteArray.size b + ByteArray.size bl ≤ (9223372036854775807 : Nat))
    then I39 c fm l d bl g m g (b ++ bl) i ((0 : Int))
    else none)
  else some (T.leaf (AV.c (C.d (D.v (Value.string b))), []))) := by kernel_rfl
set_option maxRecDepth 100000 in
theorem si39 (c : D → Int → Bool) (fm : D → Int → ByteArray) (l : List It) (d : Int) (bl : ByteArray) (g m m1 : Nat) (b : ByteArray) (i j : Int) : I39 c fm l d bl g m (m1 + 1) b i j =
  (bif decide ((0 : Int) ≤ i) && decide (i < (↑(List.length l) : Int))
  then (bif decide (j < (↑(List.length (It.words (List.getD l (Int.toNat i) i0))) : Int))
    then (bif decide ((0 : Int) ≤ i) && decide (i < (↑(List.length l) : Int))
      then (bif decide ((0 : Int) ≤ j) && decide (j < (↑(List.length (It.words (List.getD l (Int.toNat i) i0))) : Int))
        then (bif decide (j > (0 : Int))
          then (bif decide
  (ByteArray.size b + ByteArray.size (ByteArray.mk #[(32 : UInt8)]) ≤ (9223372036854775807 : Nat))
            then (bif Wd.q (List.getD (It.words (List.getD l (Int.toNat i) i0)) (Int.toNat j) w0)
              then (bif decide
  (ByteArray.size (b ++ ByteArray.mk #[(32 : UInt8)]) + ByteArray.size (ByteArray.mk #[(34 : UInt8)]) ≤
    (9223372036854775807 : Nat))
                then (bif decide
  (ByteArray.size (b ++ ByteArray.mk #[(32 : UInt8)] ++ ByteArray.mk #[(34 : UInt8)]) +
      ByteArray.size (Wd.text (List.getD (It.words (List.getD l (Int.toNat i) i0)) (Int.toNat j) w0)) ≤
    (9223372036854775807 : Nat))
                  then (bif decide
  (ByteArray.size
        (b ++ ByteArray.mk #[(32 : UInt8)] ++ ByteArray.mk #[(34 : UInt8)] ++
          Wd.text (List.getD (It.words (List.getD l (Int.toNat i) i0)) (Int.toNat j) w0)) +
      ByteArray.size (ByteArray.mk #[(34 : UInt8)]) ≤
    (9223372036854775807 : Nat))
                    then I39 c fm l d bl g m m1 (b ++ ByteArray.mk #[(32 : UInt8)] ++ ByteArray.mk #[(34 : UInt8)] ++
    Wd.text (List.getD (It.words (List.getD l (Int.toNat i) i0)) (Int.toNat j) w0) ++
  ByteArray.mk #[(34 : UInt8)]) i (IntKind.wrap IntKind.i64 (j + (1 : Int)))
                    else none)
                  else none)
                else none)
              else (bif decide
  (ByteArray.size (b ++ ByteArray.mk #[(32 : UInt8)]) +
      ByteArray.size (Wd.text (List.getD (It.words (List.getD l (Int.toNat i) i0)) (Int.toNat j) w0)) ≤
    (9223372036854775807 : Nat))
                then I39 c fm l d bl g m m1 (b ++ ByteArray.mk #[(32 : UInt8)] ++
  Wd.text
    (List.getD (It.words (List.getD l (Int.toNat i) i0)) (Int.toNat j) w0)) i (IntKind.wrap IntKind.i64 (j + (1 : Int)))
                else none))
            else none)
          else (bif Wd.q (List.getD (It.words (List.getD l (Int.toNat i) i0)) (Int.toNat j) w0)
            then (bif decide
  (ByteArray.size b + ByteArray.size (ByteArray.mk #[(34 : UInt8)]) ≤ (9223372036854775807 : Nat))
              then (bif decide
  (ByteArray.size (b ++ ByteArray.mk #[(34 : UInt8)]) +
      ByteArray.size (Wd.text (List.getD (It.words (List.getD l (Int.toNat i) i0)) (Int.toNat j) w0)) ≤
    (9223372036854775807 : Nat))
                then (bif decide
  (ByteArray.size
        (b ++ ByteArray.mk #[(34 : UInt8)] ++
          Wd.text (List.getD (It.words (List.getD l (Int.toNat i) i0)) (Int.toNat j) w0)) +
      ByteArray.size (ByteArray.mk #[(34 : UInt8)]) ≤
    (9223372036854775807 : Nat))
                  then I39 c fm l d bl g m m1 (b ++ ByteArray.mk #[(34 : UInt8)] ++
    Wd.text (List.getD (It.words (List.getD l (Int.toNat i) i0)) (Int.toNat j) w0) ++
  ByteArray.mk #[(34 : UInt8)]) i (IntKind.wrap IntKind.i64 (j + (1 : Int)))
                  else none)
                else none)
              else none)
            else (bif decide
  (ByteArray.size b + ByteArray.size (Wd.text (List.getD (It.words (List.getD l (Int.toNat i) i0)) (Int.toNat j) w0)) ≤
    (9223372036854775807 : Nat))
              then I39 c fm l d bl g m m1 (b ++
  Wd.text
    (List.getD (It.words (List.getD l (Int.toNat i) i0)) (Int.toNat j) w0)) i (IntKind.wrap IntKind.i64 (j + (1 : Int)))
              else none)))
        else none)
      else none)
    else (bif decide ((0 : Int) ≤ i) && decide (i < (↑(List.length l) : Int))
      then (bif !It.block (List.getD l (Int.toNat i) i0)
        then (bif decide
  (ByteArray.size b + ByteArray.size (ByteArray.mk #[(59 : UInt8), (10 : UInt8)]) ≤ (9223372036854775807 : Nat))
          then L39 c fm l d bl g m (b ++
  ByteArray.mk #[(59 : UInt8), (10 : UInt8)]) (IntKind.wrap IntKind.i64 (i + (1 : Int)))
          else none)
        else (bif decide
  (ByteArray.size b + ByteArray.size (ByteArray.mk #[(32 : UInt8), (123 : UInt8), (10 : UInt8)]) ≤
    (9223372036854775807 : Nat))
          then (bif decide ((0 : Int) ≤ i) && decide (i < (↑(List.length l) : Int))
            then (bif c (kidsD (List.getD l (Int.toNat i) i0)) (IntKind.wrap IntKind.i64 (d + (1 : Int)))
              then (bif decide
  (ByteArray.size (b ++ ByteArray.mk #[(32 : UInt8), (123 : UInt8), (10 : UInt8)]) +
      ByteArray.size (fm (kidsD (List.getD l (Int.toNat i) i0)) (IntKind.wrap IntKind.i64 (d + (1 : Int)))) ≤
    (9223372036854775807 : Nat))
                then (bif decide
  (ByteArray.size
        (b ++ ByteArray.mk #[(32 : UInt8), (123 : UInt8), (10 : UInt8)] ++
          fm (kidsD (List.getD l (Int.toNat i) i0)) (IntKind.wrap IntKind.i64 (d + (1 : Int)))) +
      ByteArray.size bl ≤
    (9223372036854775807 : Nat))
                  then (bif decide
  (ByteArray.size
        (b ++ ByteArray.mk #[(32 : UInt8), (123 : UInt8), (10 : UInt8)] ++
            fm (kidsD (List.getD l (Int.toNat i) i0)) (IntKind.wrap IntKind.i64 (d + (1 : Int))) ++
          bl) +
      ByteArray.size (ByteArray.mk #[(125 : UInt8), (10 : UInt8)]) ≤
    (9223372036854775807 : Nat))
                    then L39 c fm l d bl g m (b ++ ByteArray.mk #[(32 : UInt8), (123 : UInt8), (10 : UInt8)] ++
      fm (kidsD (List.getD l (Int.toNat i) i0)) (IntKind.wrap IntKind.i64 (d + (1 : Int))) ++
    bl ++
  ByteArray.mk #[(125 : UInt8), (10 : UInt8)]) (IntKind.wrap IntKind.i64 (i + (1 : Int)))
                    else none)
                  else none)
                else none)
              else none)
            else none)
          else none))
      else none))
  else none) := by kernel_rfl
noncomputable def o19 (ck : D → Int) (okc : D → Bool) (c : D → Int → Bool) (fm : D → Int → ByteArray) : Orc := Orc.cons 18 (ans1 okc fun x => vI (ck x)) (o39 c fm)
set_option maxRecDepth 100000 in
theorem ev19 (ck : D → Int) (okc : D → Bool) (c : D → Int → Bool) (fm : D → Int → ByteArray) (l : List It) : callA Try.prog (o19 ck okc c fm) na 1 Try.f19 (bodyOf Try.f19) [aI l] [] =
  (bif okc (itemsD l)
  then (bif ck (itemsD l) != (0 : Int)
    then some (T.leaf (AV.c (C.d (D.v (Value.string (ByteArray.mk #[])))), []))
    else (bif c (itemsD l) (0 : Int)
      then some (T.leaf (AV.c (C.d (D.v (Value.string (fm (itemsD l) (0 : Int))))), []))
      else none))
  else none) := by kernel_rfl
end Go.Proofs.Ytkmmkdeoamhpfaa.fo
