/-
  SyntaxConcatenates: what it computes. No condition.
-/
import Derived.Test.YtkmmkdeoamhpfaaPr
import Derived.Test.YtkmmkdeoamhpfaaKn
import Derived.Test.YtkmmkdeoamhpfaaCu
namespace Go.Proofs.Ytkmmkdeoamhpfaa.conc
open Go.RowKit Go.Eb
open Go.Proofs.Ytkmmkdeoamhpfaa.wd
open Go.Proofs.Ytkmmkdeoamhpfaa.ps (rP)

structure KP where
  pa : ByteArray → List It × Int × Int
  cn : D → Int
  sm : D → D → Bool
  ok : D → Bool
  ok2 : D → D → Bool
noncomputable def o3 (Z : KP) : Orc := Orc.cons 7 (ansP dec0 fun _ => vB true) (Orc.cons 8 (ansP decS fun s => rP (Z.pa s)) (Orc.cons 9 (ans1 Z.ok fun x => vI (Z.cn x)) (Orc.cons 10 (fun _ args H k => match args, H with | [.c (.d x), .c (.row 0 4 n)], [(0, .row m f 4 38)] => bif Z.ok2 x (.sl 4 n f) then k (vB (Z.sm x (.sl 4 n f))) [(0, .row m f 4 38)] else none | _, _ => none) Orc.nil)))
set_option maxRecDepth 100000 in
theorem ev3 (Z : KP) (s t : ByteArray) : callA Try.prog (o3 Z) na 1 Try.f3 (bodyOf Try.f3) [vS s, vS t] [] =
  (bif Prod.snd (Prod.snd (KP.pa Z s)) != (0 : Int)
  then some (T.leaf (AV.c (C.d (D.v (Value.bool true))), []))
  else (bif Prod.snd (Prod.snd (KP.pa Z t)) != (0 : Int)
    then some (T.leaf (AV.c (C.d (D.v (Value.bool true))), []))
    else (bif decide
  (IntKind.wrap IntKind.i64
      (IntKind.wrap IntKind.i64 ((↑(ByteArray.size s) : Int) + (↑(ByteArray.size t) : Int)) + (1 : Int)) >
    (12000 : Int))
      then some (T.leaf (AV.c (C.d (D.v (Value.bool true))), []))
      else (bif KP.ok Z (itemsD (Prod.fst (KP.pa Z s)))
        then (bif KP.ok Z (itemsD (Prod.fst (KP.pa Z t)))
          then (bif decide
  (IntKind.wrap IntKind.i64 (KP.cn Z (itemsD (Prod.fst (KP.pa Z s))) + KP.cn Z (itemsD (Prod.fst (KP.pa Z t)))) >
    (600 : Int))
            then some (T.leaf (AV.c (C.d (D.v (Value.bool true))), []))
            else (bif decide
  (ByteArray.size s + ByteArray.size (ByteArray.mk #[(10 : UInt8)]) ≤ (9223372036854775807 : Nat))
              then (bif decide
  (ByteArray.size (s ++ ByteArray.mk #[(10 : UInt8)]) + ByteArray.size t ≤ (9223372036854775807 : Nat))
                then (bif Prod.snd (Prod.snd (KP.pa Z (s ++ ByteArray.mk #[(10 : UInt8)] ++ t))) == (0 : Int)
                  then (bif decide
    (((0 : Nat) + List.length (Prod.fst (KP.pa Z s))) * (64 : Nat) ≤ (140737488355328 : Nat)) &&
  decide ((0 : Nat) + List.length (Prod.fst (KP.pa Z s)) ≤ (9223372036854775807 : Nat))
                    then (bif decide
    (((0 : Nat) + List.length (Prod.fst (KP.pa Z s)) + List.length (Prod.fst (KP.pa Z t))) * (64 : Nat) ≤
      (140737488355328 : Nat)) &&
  decide
    ((0 : Nat) + List.length (Prod.fst (KP.pa Z s)) + List.length (Prod.fst (KP.pa Z t)) ≤ (9223372036854775807 : Nat))
                      then (bif KP.ok2 Z (itemsD (Prod.fst (KP.pa Z (s ++ ByteArray.mk #[(10 : UInt8)] ++ t))))
  (D.sl (4 : Nat) ((0 : Nat) + List.length (Prod.fst (KP.pa Z s)) + List.length (Prod.fst (KP.pa Z t)))
    (appF ((0 : Nat) + List.length (Prod.fst (KP.pa Z s)))
      (appF (0 : Nat) (chunk [] ((3 : Nat) + (1 : Nat))) fun i => icells (List.getD (Prod.fst (KP.pa Z s)) i i0))
      fun i => icells (List.getD (Prod.fst (KP.pa Z t)) i i0)))
                        then some (T.leaf
  (AV.c
      (C.d
        (D.v
          (Value.bool
            (KP.sm Z (itemsD (Prod.fst (KP.pa Z (s ++ ByteArray.mk #[(10 : UInt8)] ++ t))))
              (D.sl (4 : Nat) ((0 : Nat) + List.length (Prod.fst (KP.pa Z s)) + List.length (Prod.fst (KP.pa Z t)))
                (appF ((0 : Nat) + List.length (Prod.fst (KP.pa Z s)))
                  (appF (0 : Nat) (chunk [] ((3 : Nat) + (1 : Nat))) fun i =>
                    icells (List.getD (Prod.fst (KP.pa Z s)) i i0))
                  fun i => icells (List.getD (Prod.fst (KP.pa Z t)) i i0))))))),
    []))
                        else none)
                      else none)
                    else none)
                  else some (T.leaf (AV.c (C.d (D.v (Value.bool false))), [])))
                else none)
              else none))
          else none)
        else none)))) := by kernel_rfl
theorem b3 : Try.f3.body = some (bodyOf Try.f3) := by kernel_rfl
end Go.Proofs.Ytkmmkdeoamhpfaa.conc
