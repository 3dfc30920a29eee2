/-
  SyntaxCanonical: what it computes. No condition.
-/
import Derived.Test.YtkmmkdeoamhpfaaPr
import Derived.Test.YtkmmkdeoamhpfaaKn
import Derived.Test.YtkmmkdeoamhpfaaFu
namespace Go.Proofs.Ytkmmkdeoamhpfaa.cano
open Go.RowKit Go.Eb
open Go.Proofs.Ytkmmkdeoamhpfaa.wd
open Go.Proofs.Ytkmmkdeoamhpfaa.ps (rP)

structure KP where
  pa : ByteArray → List It × Int × Int
  ck : D → Int
  fm : D → ByteArray
  sm : D → D → Bool
  ok : D → Bool
  ok2 : D → D → Bool
noncomputable def o5 (Z : KP) : Orc := Orc.cons 7 (ansP dec0 fun _ => vB true) (Orc.cons 8 (ansP decS fun s => rP (Z.pa s)) (Orc.cons 16 (ans1 Z.ok fun x => vI (Z.ck x)) (Orc.cons 15 (ans1 Z.ok fun x => vS (Z.fm x)) (Orc.cons 10 (ans2 Z.ok2 fun x y => vB (Z.sm x y)) Orc.nil))))
set_option maxRecDepth 100000 in
theorem ev5 (Z : KP) (s : ByteArray) : callA Try.prog (o5 Z) na 1 Try.f5 (bodyOf Try.f5) [vS s] [] =
  (bif Prod.snd (Prod.snd (KP.pa Z s)) != (0 : Int)
  then some (T.leaf (AV.c (C.d (D.v (Value.bool ((↑(List.length (Prod.fst (KP.pa Z s))) : Int) == (0 : Int))))), []))
  else (bif KP.ok Z (itemsD (Prod.fst (KP.pa Z s)))
    then (bif KP.ok Z (itemsD (Prod.fst (KP.pa Z s)))
      then (bif KP.ck Z (itemsD (Prod.fst (KP.pa Z s))) == (0 : Int)
        then (bif decide ((↑(ByteArray.size (KP.fm Z (itemsD (Prod.fst (KP.pa Z s))))) : Int) > (12000 : Int))
          then some (T.leaf (AV.c (C.d (D.v (Value.bool true))), []))
          else (bif Prod.snd (Prod.snd (KP.pa Z (KP.fm Z (itemsD (Prod.fst (KP.pa Z s)))))) == (0 : Int)
            then (bif KP.ok2 Z (itemsD (Prod.fst (KP.pa Z (KP.fm Z (itemsD (Prod.fst (KP.pa Z s)))))))
  (itemsD (Prod.fst (KP.pa Z s)))
              then (bif KP.sm Z (itemsD (Prod.fst (KP.pa Z (KP.fm Z (itemsD (Prod.fst (KP.pa Z s)))))))
  (itemsD (Prod.fst (KP.pa Z s)))
                then (bif KP.ok Z (itemsD (Prod.fst (KP.pa Z (KP.fm Z (itemsD (Prod.fst (KP.pa Z s)))))))
                  then some (T.leaf
  (AV.c
      (C.d
        (D.v
          (Value.bool
            (ByteArray.toList (KP.fm Z (itemsD (Prod.fst (KP.pa Z (KP.fm Z (itemsD (Prod.fst (KP.pa Z s)))))))) ==
              ByteArray.toList (KP.fm Z (itemsD (Prod.fst (KP.pa Z s)))))))),
    []))
                  else none)
                else some (T.leaf (AV.c (C.d (D.v (Value.bool false))), [])))
              else none)
            else some (T.leaf (AV.c (C.d (D.v (Value.bool false))), []))))
        else some (T.leaf (AV.c (C.d (D.v (Value.bool false))), [])))
      else none)
    else none)) := by kernel_rfl
theorem b5 : Try.f5.body = some (bodyOf Try.f5) := by kernel_rfl
end Go.Proofs.Ytkmmkdeoamhpfaa.cano
