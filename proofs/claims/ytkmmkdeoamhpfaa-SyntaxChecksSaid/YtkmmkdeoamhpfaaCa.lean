/-
  SyntaxChecks returns true for every two lists of statements: what it computes. No condition.
-/
import Derived.Test.YtkmmkdeoamhpfaaFv
import Derived.Test.YtkmmkdeoamhpfaaKn
namespace Go.Proofs.Ytkmmkdeoamhpfaa.checks
open Go.RowKit Go.Eb
open Go.Proofs.Ytkmmkdeoamhpfaa.wd

structure KP where
  dp : D → Int → Bool
  ck : D → Int
  fm : D → ByteArray
  cn : D → Int
  sm : D → D → Bool
  ok : D → Bool
  ok2 : D → D → Bool
  okd : D → Int → Bool
noncomputable def o6 (Z : KP) : Orc := Orc.cons 7 (ansP dec0 fun _ => vB true) (Orc.cons 17 (fun _ args H k => match H, args with | [], [.c (.d x), .c (.d (.v (.int .i64 n)))] => bif Z.okd x n then k (vB (Z.dp x n)) [] else none | _, _ => none) (Orc.cons 16 (ans1 Z.ok fun x => vI (Z.ck x)) (Orc.cons 18 (ans1 Z.ok fun x => vI (Z.ck x)) (Orc.cons 15 (ans1 Z.ok fun x => vS (Z.fm x)) (Orc.cons 19 (ans1 Z.ok fun x => vS (Z.fm x)) (Orc.cons 9 (ans1 Z.ok fun x => vI (Z.cn x)) (Orc.cons 20 (ans1 Z.ok fun x => vI (Z.cn x)) (Orc.cons 10 (ans2 Z.ok2 fun x y => vB (Z.sm x y)) (Orc.cons 21 (ans2 Z.ok2 fun x y => vB (Z.sm x y)) Orc.nil)))))))))
set_option maxRecDepth 100000 in
theorem ev6 (Z : KP) (a b : List It) : callA Try.prog (o6 Z) na 1 Try.f6 (bodyOf Try.f6) [aI a, aI b] [] =
  (bif KP.okd Z (itemsD a) (12 : Int)
  then (bif KP.dp Z (itemsD a) (12 : Int)
    then some (T.leaf (AV.c (C.d (D.v (Value.bool true))), []))
    else (bif KP.okd Z (itemsD b) (12 : Int)
      then (bif KP.dp Z (itemsD b) (12 : Int)
        then some (T.leaf (AV.c (C.d (D.v (Value.bool true))), []))
        else (bif KP.ok Z (itemsD a)
          then (bif KP.ok Z (itemsD a)
            then (bif KP.ck Z (itemsD a) == KP.ck Z (itemsD a)
              then (bif KP.ok Z (itemsD a)
                then (bif KP.ok Z (itemsD a)
                  then (bif ByteArray.toList (KP.fm Z (itemsD a)) == ByteArray.toList (KP.fm Z (itemsD a))
                    then (bif KP.ok Z (itemsD a)
                      then (bif KP.ok Z (itemsD a)
                        then (bif KP.cn Z (itemsD a) == KP.cn Z (itemsD a)
                          then (bif KP.ok2 Z (itemsD a) (itemsD b)
                            then (bif KP.ok2 Z (itemsD a) (itemsD b)
                              then (bif KP.sm Z (itemsD a) (itemsD b) == KP.sm Z (itemsD a) (itemsD b)
                                then (bif KP.ok2 Z (itemsD a) (itemsD a)
                                  then some (T.leaf (AV.c (C.d (D.v (Value.bool (KP.sm Z (itemsD a) (itemsD a))))), []))
                                  else none)
                                else some (T.leaf (AV.c (C.d (D.v (Value.bool false))), [])))
                              else none)
                            else none)
                          else some (T.leaf (AV.c (C.d (D.v (Value.bool false))), [])))
                        else none)
                      else none)
                    else some (T.leaf (AV.c (C.d (D.v (Value.bool false))), [])))
                  else none)
                else none)
              else some (T.leaf (AV.c (C.d (D.v (Value.bool false))), [])))
            else none)
          else none))
      else none))
  else none) := by kernel_rfl
theorem b6 : Try.f6.body = some (bodyOf Try.f6) := by kernel_rfl
end Go.Proofs.Ytkmmkdeoamhpfaa.checks
