/-
  Same, of the program and of the reference: what they compute. No condition.
-/
import Derived.Test.YthmapnolgdpkbaaZIt
import Derived.Test.YthmapnolgdpkbaaSu
namespace Go.Proofs.Ythmapnolgdpkbaa.st
open Go.RowKit Go.Eb

noncomputable def o38 (ok sm : D → D → Bool) : Orc := Orc.cons 56 (ans2 ok fun x y => vB (sm x y)) Orc.nil
set_option maxRecDepth 100000 in
theorem ev38 (ok sm : D → D → Bool) (x y : SBay) : callA Try.prog (o38 ok sm) na 1 Try.f38 (bodyOf Try.f38) [aBay x, aBay y] [] =
  (bif ByteArray.toList (SBay.name x) == ByteArray.toList (SBay.name y)
  then (bif SBay.kind x == SBay.kind y
    then (bif SBay.off x == SBay.off y
      then (bif SBay.fin x == SBay.fin y
        then (bif SBay.zr x == SBay.zr y && (SBay.zx x == SBay.zx y && true)
          then (bif ok (linksD (SBay.links x)) (linksD (SBay.links y))
            then (bif sm (linksD (SBay.links x)) (linksD (SBay.links y))
              then (bif SBay.closed x == SBay.closed y
                then (bif SBay.ct x == SBay.ct y
                  then (bif SBay.vt x == SBay.vt y
                    then (bif SBay.sat x == SBay.sat y
                      then some (T.leaf (AV.c (C.d (D.v (Value.bool (SBay.travel x == SBay.travel y)))), []))
                      else some (T.leaf (AV.c (C.d (D.v (Value.bool false))), [])))
                    else some (T.leaf (AV.c (C.d (D.v (Value.bool false))), [])))
                  else some (T.leaf (AV.c (C.d (D.v (Value.bool false))), [])))
                else some (T.leaf (AV.c (C.d (D.v (Value.bool false))), [])))
              else some (T.leaf (AV.c (C.d (D.v (Value.bool false))), [])))
            else none)
          else some (T.leaf (AV.c (C.d (D.v (Value.bool false))), [])))
        else some (T.leaf (AV.c (C.d (D.v (Value.bool false))), [])))
      else some (T.leaf (AV.c (C.d (D.v (Value.bool false))), [])))
    else some (T.leaf (AV.c (C.d (D.v (Value.bool false))), [])))
  else some (T.leaf (AV.c (C.d (D.v (Value.bool false))), []))) := by kernel_rfl
noncomputable def o37 (ok sm : D → D → Bool) : Orc := Orc.cons 38 (inl Try.prog (o38 ok sm) na 1 Try.f38) Orc.nil
noncomputable def ann37 := annOf [(4, ⟨[1, 2, 15, 16, 17], []⟩)]
noncomputable def L37 (ok sm : D → D → Bool) (l r : List SBay) (g m : Nat) (i : Int) := LK Try.prog (o37 ok sm) ann37 0 g Try.f37 4 m ⟨frm [(1, .c (.d (baysD r))), (2, .c (.d (.v (.func (.func 38) #[] #[])))), (15, .c (.d (baysD l))), (16, vI l.length), (17, vI i)] 0 Try.f37.ntmps, [], 0⟩
set_option maxRecDepth 100000 in
theorem st37 (ok sm : D → D → Bool) (l r : List SBay) (g m : Nat) (i : Int) : L37 ok sm l r g (m + 1) i =
  (bif decide (i < (↑(List.length l) : Int))
  then (bif decide ((0 : Int) ≤ i) && decide (i < (↑(List.length l) : Int))
    then (bif decide ((0 : Int) ≤ i) && decide (i < (↑(List.length r) : Int))
      then (bif ByteArray.toList (SBay.name (List.getD l (Int.toNat i) bay0)) ==
  ByteArray.toList (SBay.name (List.getD r (Int.toNat i) bay0))
        then (bif SBay.kind (List.getD l (Int.toNat i) bay0) == SBay.kind (List.getD r (Int.toNat i) bay0)
          then (bif SBay.off (List.getD l (Int.toNat i) bay0) == SBay.off (List.getD r (Int.toNat i) bay0)
            then (bif SBay.fin (List.getD l (Int.toNat i) bay0) == SBay.fin (List.getD r (Int.toNat i) bay0)
              then (bif SBay.zr (List.getD l (Int.toNat i) bay0) == SBay.zr (List.getD r (Int.toNat i) bay0) &&
  (SBay.zx (List.getD l (Int.toNat i) bay0) == SBay.zx (List.getD r (Int.toNat i) bay0) && true)
                then (bif ok (linksD (SBay.links (List.getD l (Int.toNat i) bay0)))
  (linksD (SBay.links (List.getD r (Int.toNat i) bay0)))
                  then (bif sm (linksD (SBay.links (List.getD l (Int.toNat i) bay0)))
  (linksD (SBay.links (List.getD r (Int.toNat i) bay0)))
                    then (bif SBay.closed (List.getD l (Int.toNat i) bay0) ==
  SBay.closed (List.getD r (Int.toNat i) bay0)
                      then (bif SBay.ct (List.getD l (Int.toNat i) bay0) == SBay.ct (List.getD r (Int.toNat i) bay0)
                        then (bif SBay.vt (List.getD l (Int.toNat i) bay0) == SBay.vt (List.getD r (Int.toNat i) bay0)
                          then (bif SBay.sat (List.getD l (Int.toNat i) bay0) ==
  SBay.sat (List.getD r (Int.toNat i) bay0)
                            then (bif !SBay.travel (List.getD l (Int.toNat i) bay0) ==
    SBay.travel (List.getD r (Int.toNat i) bay0)
                              then some (T.leaf (AV.c (C.d (D.v (Value.bool false))), []))
                              else L37 ok sm l r g m (IntKind.wrap IntKind.i64 (i + (1 : Int))))
                            else some (T.leaf (AV.c (C.d (D.v (Value.bool false))), [])))
                          else some (T.leaf (AV.c (C.d (D.v (Value.bool false))), [])))
                        else some (T.leaf (AV.c (C.d (D.v (Value.bool false))), [])))
                      else some (T.leaf (AV.c (C.d (D.v (Value.bool false))), [])))
                    else some (T.leaf (AV.c (C.d (D.v (Value.bool false))), [])))
                  else none)
                else some (T.leaf (AV.c (C.d (D.v (Value.bool false))), [])))
              else some (T.leaf (AV.c (C.d (D.v (Value.bool false))), [])))
            else some (T.leaf (AV.c (C.d (D.v (Value.bool false))), [])))
          else some (T.leaf (AV.c (C.d (D.v (Value.bool false))), [])))
        else some (T.leaf (AV.c (C.d (D.v (Value.bool false))), [])))
      else none)
    else none)
  else some (T.leaf (AV.c (C.d (D.v (Value.bool true))), []))) := by kernel_rfl
set_option maxRecDepth 100000 in
theorem ev37 (ok sm : D → D → Bool) (l r : List SBay) (g : Nat) : callA Try.prog (o37 ok sm) ann37 g Try.f37 (bodyOf Try.f37) [.c (.d (baysD l)), .c (.d (baysD r)), .c (.d (.v (.func (.func 38) #[] #[])))] [] =
  (bif (↑(List.length l) : Int) != (↑(List.length r) : Int)
  then some (T.leaf (AV.c (C.d (D.v (Value.bool false))), []))
  else L37 ok sm l r g g ((0 : Int))) := by kernel_rfl
noncomputable def ann39 := annOf [(4, ⟨[2, 3, 5], []⟩)]
noncomputable def L39 (x y : SBay) (g m : Nat) (i : Int) := LK Try.prog Orc.nil ann39 0 g Try.f39 4 m ⟨frm [(2, .c (.ptr 0 0)), (3, .c (.ptr 1 0)), (5, vI i)] 0 Try.f39.ntmps, [(0, .cells ((bayC x).map .d) 54), (1, .cells ((bayC y).map .d) 54)], 2⟩
set_option maxRecDepth 100000 in
theorem st39 (x y : SBay) (g m : Nat) (i : Int) : L39 x y g (m + 1) i =
  (bif decide (i < (↑(List.length (SBay.links x)) : Int))
  then (bif decide ((0 : Int) ≤ i) && decide (i < (↑(List.length (SBay.links x)) : Int))
    then (bif decide ((0 : Int) ≤ i) && decide (i < (↑(List.length (SBay.links y)) : Int))
      then (bif !(SLink.bus (List.getD (SBay.links x) (Int.toNat i) link0) ==
      SLink.bus (List.getD (SBay.links y) (Int.toNat i) link0) &&
    (SLink.pos (List.getD (SBay.links x) (Int.toNat i) link0) ==
        SLink.pos (List.getD (SBay.links y) (Int.toNat i) link0) &&
      true))
        then some (T.leaf (AV.c (C.d (D.v (Value.bool false))), []))
        else L39 x y g m (IntKind.wrap IntKind.i64 (i + (1 : Int))))
      else none)
    else none)
  else some (T.leaf (AV.c (C.d (D.v (Value.bool true))), []))) := by kernel_rfl
set_option maxRecDepth 100000 in
theorem ev39 (x y : SBay) (g : Nat) : callA Try.prog Orc.nil ann39 g Try.f39 (bodyOf Try.f39) [aBay x, aBay y] [] =
  (bif !ByteArray.toList (SBay.name x) == ByteArray.toList (SBay.name y)
  then some (T.leaf (AV.c (C.d (D.v (Value.bool false))), []))
  else (bif SBay.kind x != SBay.kind y
    then some (T.leaf (AV.c (C.d (D.v (Value.bool false))), []))
    else (bif SBay.off x != SBay.off y
      then some (T.leaf (AV.c (C.d (D.v (Value.bool false))), []))
      else (bif SBay.fin x != SBay.fin y
        then some (T.leaf (AV.c (C.d (D.v (Value.bool false))), []))
        else (bif !(SBay.zr x == SBay.zr y && (SBay.zx x == SBay.zx y && true))
          then some (T.leaf (AV.c (C.d (D.v (Value.bool false))), []))
          else (bif !SBay.closed x == SBay.closed y
            then some (T.leaf (AV.c (C.d (D.v (Value.bool false))), []))
            else (bif SBay.ct x != SBay.ct y
              then some (T.leaf (AV.c (C.d (D.v (Value.bool false))), []))
              else (bif SBay.vt x != SBay.vt y
                then some (T.leaf (AV.c (C.d (D.v (Value.bool false))), []))
                else (bif SBay.sat x != SBay.sat y
                  then some (T.leaf (AV.c (C.d (D.v (Value.bool false))), []))
                  else (bif SBay.travel x != SBay.travel y
                    then some (T.leaf (AV.c (C.d (D.v (Value.bool false))), []))
                    else (bif (↑(List.length (SBay.links x)) : Int) != (↑(List.length (SBay.links y)) : Int)
                      then some (T.leaf (AV.c (C.d (D.v (Value.bool false))), []))
                      else L39 x y g g ((0 : Int))))))))))))) := by kernel_rfl
end Go.Proofs.Ythmapnolgdpkbaa.st
