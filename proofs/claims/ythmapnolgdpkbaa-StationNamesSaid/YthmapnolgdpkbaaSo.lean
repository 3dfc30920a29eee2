/-
  Same and Large: what Same of the program computes. No condition.
-/
import Derived.Test.YthmapnolgdpkbaaZTy
import Derived.Test.YthmapnolgdpkbaaSv
import Derived.Test.YthmapnolgdpkbaaSa
namespace Go.Proofs.Ythmapnolgdpkbaa.st
open Go.RowKit Go.Eb

noncomputable def o13 (ok1 ok2 ok3 ok4 sm1 sm2 sm3 sm4 : List AV → Bool) : Orc := Orc.cons 34 (ansG ok1 fun x => vB (sm1 x)) (Orc.cons 35 (ansG ok2 fun x => vB (sm2 x)) (Orc.cons 36 (ansG ok3 fun x => vB (sm3 x)) (Orc.cons 37 (ansG ok4 fun x => vB (sm4 x)) Orc.nil)))
noncomputable def ann13 : Ann := annOf []
theorem b13 : Try.f13.body = some (bodyOf Try.f13) := by kernel_rfl
set_option maxRecDepth 100000 in
theorem ev13 (ok1 ok2 ok3 ok4 sm1 sm2 sm3 sm4 : List AV → Bool) (a b : SSta) (g : Nat) : callA Try.prog (o13 ok1 ok2 ok3 ok4 sm1 sm2 sm3 sm4) ann13 g Try.f13 (bodyOf Try.f13) [aSta a, aSta b] [] =
  (bif ByteArray.toList (SSta.name a) == ByteArray.toList (SSta.name b)
  then (bif ok1
  [AV.c (C.d (listD ((1 : Nat)) busC e0 (SSta.buses a))), AV.c (C.d (listD ((1 : Nat)) busC e0 (SSta.buses b)))]
    then (bif sm1
  [AV.c (C.d (listD ((1 : Nat)) busC e0 (SSta.buses a))), AV.c (C.d (listD ((1 : Nat)) busC e0 (SSta.buses b)))]
      then (bif ok2
  [AV.c (C.d (listD ((5 : Nat)) lineC line0 (SSta.lines a))), AV.c (C.d (listD ((5 : Nat)) lineC line0 (SSta.lines b)))]
        then (bif sm2
  [AV.c (C.d (listD ((5 : Nat)) lineC line0 (SSta.lines a))), AV.c (C.d (listD ((5 : Nat)) lineC line0 (SSta.lines b)))]
          then (bif ok3
  [AV.c (C.d (listD ((6 : Nat)) srcC' src0 (SSta.srcs a))), AV.c (C.d (listD ((6 : Nat)) srcC' src0 (SSta.srcs b)))]
            then (bif sm3
  [AV.c (C.d (listD ((6 : Nat)) srcC' src0 (SSta.srcs a))), AV.c (C.d (listD ((6 : Nat)) srcC' src0 (SSta.srcs b)))]
              then (bif ok4
  [AV.c (C.d (listD ((12 : Nat)) bayC bay0 (SSta.bays a))), AV.c (C.d (listD ((12 : Nat)) bayC bay0 (SSta.bays b))),
    AV.c (C.d (D.v (Value.func (Fn.func (38 : Nat)) #[] #[])))]
                then some (T.leaf
  (AV.c
      (C.d
        (D.v
          (Value.bool
            (sm4
              [AV.c (C.d (listD ((12 : Nat)) bayC bay0 (SSta.bays a))),
                AV.c (C.d (listD ((12 : Nat)) bayC bay0 (SSta.bays b))),
                AV.c (C.d (D.v (Value.func (Fn.func (38 : Nat)) #[] #[])))])))),
    []))
                else none)
              else some (T.leaf (AV.c (C.d (D.v (Value.bool false))), [])))
            else none)
          else some (T.leaf (AV.c (C.d (D.v (Value.bool false))), [])))
        else none)
      else some (T.leaf (AV.c (C.d (D.v (Value.bool false))), [])))
    else none)
  else some (T.leaf (AV.c (C.d (D.v (Value.bool false))), []))) := by kernel_rfl
end Go.Proofs.Ythmapnolgdpkbaa.st
