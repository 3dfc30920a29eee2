/-
  Names, Large: what the functions compute. No condition.
-/
import Derived.Test.YtngoglhlhlfknaaGreatZSt
import Derived.Test.YtngoglhlhlfknaaGreatProg
import Derived.KernelRfl
namespace Go.Proofs.YtngoglhlhlfknaaGreat.st
open Go.RowKit Go.Eb
set_option maxRecDepth 100000

noncomputable def ann15 := annOf [(4, ⟨[0, 16, 17], []⟩)]
noncomputable def L15 (s : ByteArray) (g m : Nat) (i : Int) := LK Tryz.prog Orc.nil ann15 0 g Tryz.f50 4 m ⟨frm [(0, vS s), (16, vI s.size), (17, vI i)] 0 Tryz.f50.ntmps, [], 0⟩
set_option maxRecDepth 100000 in
theorem ev15 (s : ByteArray) (g : Nat) : callC Tryz.prog Orc.nil ann15 g Tryz.f50 (bodyOf Tryz.f50) [vS s] [] =
 (bif (↑(ByteArray.size s) : Int) == (0 : Int) then some (T.leaf (AV.c (C.d (D.v (Value.bool false))), [])) else (bif decide ((↑(ByteArray.size s) : Int) > (12 : Int)) then some
 (T.leaf (AV.c (C.d (D.v (Value.bool false))), [])) else L15 s g g ((0 : Int)))) := by kernel_rfl
set_option maxRecDepth 100000 in
theorem st15 (s : ByteArray) (g m : Nat) (i : Int) : L15 s g (m + 1) i =
 (bif decide (i < (↑(ByteArray.size s) : Int)) then (bif decide ((0 : Int) ≤ i) && decide (i < (↑(ByteArray.size s) : Int)) then (bif decide ((↑(UInt8.toNat (List.getD (Array.toList
 (ByteArray.data s)) (Int.toNat i) (0 : UInt8))) : Int) ≥ (65 : Int)) then (bif decide ((↑(UInt8.toNat (List.getD (Array.toList (ByteArray.data s)) (Int.toNat i) (0 : UInt8))) : Int)
 ≤ (90 : Int)) then (bif decide ((↑(UInt8.toNat (List.getD (Array.toList (ByteArray.data s)) (Int.toNat i) (0 : UInt8))) : Int) ≥ (48 : Int)) then (bif decide ((↑(UInt8.toNat
 (List.getD (Array.toList (ByteArray.data s)) (Int.toNat i) (0 : UInt8))) : Int) ≤ (57 : Int)) then L15 s g m (IntKind.wrap IntKind.i64 (i + (1 : Int))) else L15 s g m (IntKind.wrap
 IntKind.i64 (i + (1 : Int)))) else L15 s g m (IntKind.wrap IntKind.i64 (i + (1 : Int)))) else (bif decide ((↑(UInt8.toNat (List.getD (Array.toList (ByteArray.data s)) (Int.toNat i)
 (0 : UInt8))) : Int) ≥ (97 : Int)) then (bif decide ((↑(UInt8.toNat (List.getD (Array.toList (ByteArray.data s)) (Int.toNat i) (0 : UInt8))) : Int) ≥ (48 : Int)) then (bif decide
 ((↑(UInt8.toNat (List.getD (Array.toList (ByteArray.data s)) (Int.toNat i) (0 : UInt8))) : Int) ≤ (57 : Int)) then (bif !decide ((↑(UInt8.toNat (List.getD (Array.toList
 (ByteArray.data s)) (Int.toNat i) (0 : UInt8))) : Int) ≤ (122 : Int)) then (bif i == (0 : Int) then some (T.leaf (AV.c (C.d (D.v (Value.bool false))), [])) else L15 s g m
 (IntKind.wrap IntKind.i64 (i + (1 : Int)))) else L15 s g m (IntKind.wrap IntKind.i64 (i + (1 : Int)))) else (bif !decide ((↑(UInt8.toNat (List.getD (Array.toList (ByteArray.data s))
 (Int.toNat i) (0 : UInt8))) : Int) ≤ (122 : Int)) then (bif i == (0 : Int) then some (T.leaf (AV.c (C.d (D.v (Value.bool false))), [])) else (bif !(↑(UInt8.toNat (List.getD
 (Array.toList (ByteArray.data s)) (Int.toNat i) (0 : UInt8))) : Int) == (95 : Int) then some (T.leaf (AV.c (C.d (D.v (Value.bool false))), [])) else L15 s g m (IntKind.wrap
 IntKind.i64 (i + (1 : Int))))) else L15 s g m (IntKind.wrap IntKind.i64 (i + (1 : Int))))) else (bif !decide ((↑(UInt8.toNat (List.getD (Array.toList (ByteArray.data s)) (Int.toNat
 i) (0 : UInt8))) : Int) ≤ (122 : Int)) then (bif i == (0 : Int) then some (T.leaf (AV.c (C.d (D.v (Value.bool false))), [])) else (bif !(↑(UInt8.toNat (List.getD (Array.toList
 (ByteArray.data s)) (Int.toNat i) (0 : UInt8))) : Int) == (95 : Int) then some (T.leaf (AV.c (C.d (D.v (Value.bool false))), [])) else L15 s g m (IntKind.wrap IntKind.i64 (i + (1 :
 Int))))) else L15 s g m (IntKind.wrap IntKind.i64 (i + (1 : Int))))) else (bif decide ((↑(UInt8.toNat (List.getD (Array.toList (ByteArray.data s)) (Int.toNat i) (0 : UInt8))) : Int)
 ≥ (48 : Int)) then (bif decide ((↑(UInt8.toNat (List.getD (Array.toList (ByteArray.data s)) (Int.toNat i) (0 : UInt8))) : Int) ≤ (57 : Int)) then (bif i == (0 : Int) then some
 (T.leaf (AV.c (C.d (D.v (Value.bool false))), [])) else L15 s g m (IntKind.wrap IntKind.i64 (i + (1 : Int)))) else (bif i == (0 : Int) then some (T.leaf (AV.c (C.d (D.v (Value.bool
 false))), [])) else (bif !(↑(UInt8.toNat (List.getD (Array.toList (ByteArray.data s)) (Int.toNat i) (0 : UInt8))) : Int) == (95 : Int) then some (T.leaf (AV.c (C.d (D.v (Value.bool
 false))), [])) else L15 s g m (IntKind.wrap IntKind.i64 (i + (1 : Int)))))) else (bif i == (0 : Int) then some (T.leaf (AV.c (C.d (D.v (Value.bool false))), [])) else (bif
 !(↑(UInt8.toNat (List.getD (Array.toList (ByteArray.data s)) (Int.toNat i) (0 : UInt8))) : Int) == (95 : Int) then some (T.leaf (AV.c (C.d (D.v (Value.bool false))), [])) else L15 s
 g m (IntKind.wrap IntKind.i64 (i + (1 : Int)))))))) else (bif decide ((↑(UInt8.toNat (List.getD (Array.toList (ByteArray.data s)) (Int.toNat i) (0 : UInt8))) : Int) ≥ (97 : Int))
 then (bif decide ((↑(UInt8.toNat (List.getD (Array.toList (ByteArray.data s)) (Int.toNat i) (0 : UInt8))) : Int) ≥ (48 : Int)) then (bif decide ((↑(UInt8.toNat (List.getD
 (Array.toList (ByteArray.data s)) (Int.toNat i) (0 : UInt8))) : Int) ≤ (57 : Int)) then (bif !decide ((↑(UInt8.toNat (List.getD (Array.toList (ByteArray.data s)) (Int.toNat i) (0 :
 UInt8))) : Int) ≤ (122 : Int)) then (bif i == (0 : Int) then some (T.leaf (AV.c (C.d (D.v (Value.bool false))), [])) else L15 s g m (IntKind.wrap IntKind.i64 (i + (1 : Int)))) else
 L15 s g m (IntKind.wrap IntKind.i64 (i + (1 : Int)))) else (bif !decide ((↑(UInt8.toNat (List.getD (Array.toList (ByteArray.data s)) (Int.toNat i) (0 : UInt8))) : Int) ≤ (122 :
 Int)) then (bif i == (0 : Int) then some (T.leaf (AV.c (C.d (D.v (Value.bool false))), [])) else (bif !(↑(UInt8.toNat (List.getD (Array.toList (ByteArray.data s)) (Int.toNat i) (0 :
 UInt8))) : Int) == (95 : Int) then some (T.leaf (AV.c (C.d (D.v (Value.bool false))), [])) else L15 s g m (IntKind.wrap IntKind.i64 (i + (1 : Int))))) else L15 s g m (IntKind.wrap
 IntKind.i64 (i + (1 : Int))))) else (bif !decide ((↑(UInt8.toNat (List.getD (Array.toList (ByteArray.data s)) (Int.toNat i) (0 : UInt8))) : Int) ≤ (122 : Int)) then (bif i == (0 :
 Int) then some (T.leaf (AV.c (C.d (D.v (Value.bool false))), [])) else (bif !(↑(UInt8.toNat (List.getD (Array.toList (ByteArray.data s)) (Int.toNat i) (0 : UInt8))) : Int) == (95 :
 Int) then some (T.leaf (AV.c (C.d (D.v (Value.bool false))), [])) else L15 s g m (IntKind.wrap IntKind.i64 (i + (1 : Int))))) else L15 s g m (IntKind.wrap IntKind.i64 (i + (1 :
 Int))))) else (bif decide ((↑(UInt8.toNat (List.getD (Array.toList (ByteArray.data s)) (Int.toNat i) (0 : UInt8))) : Int) ≥ (48 : Int)) then (bif decide ((↑(UInt8.toNat (List.getD
 (Array.toList (ByteArray.data s)) (Int.toNat i) (0 : UInt8))) : Int) ≤ (57 : Int)) then (bif i == (0 : Int) then some (T.leaf (AV.c (C.d (D.v (Value.bool false))), [])) else L15 s g
 m (IntKind.wrap IntKind.i64 (i + (1 : Int)))) else (bif i == (0 : Int) then some (T.leaf (AV.c (C.d (D.v (Value.bool false))), [])) else (bif !(↑(UInt8.toNat (List.getD
 (Array.toList (ByteArray.data s)) (Int.toNat i) (0 : UInt8))) : Int) == (95 : Int) then some (T.leaf (AV.c (C.d (D.v (Value.bool false))), [])) else L15 s g m (IntKind.wrap
 IntKind.i64 (i + (1 : Int)))))) else (bif i == (0 : Int) then some (T.leaf (AV.c (C.d (D.v (Value.bool false))), [])) else (bif !(↑(UInt8.toNat (List.getD (Array.toList
 (ByteArray.data s)) (Int.toNat i) (0 : UInt8))) : Int) == (95 : Int) then some (T.leaf (AV.c (C.d (D.v (Value.bool false))), [])) else L15 s g m (IntKind.wrap IntKind.i64 (i + (1 :
 Int)))))))) else none) else some (T.leaf (AV.c (C.d (D.v (Value.bool true))), []))) := by kernel_rfl
noncomputable def ann16 := annOf [(4, ⟨[0, 3], []⟩)]
noncomputable def L16 (s : ByteArray) (g m : Nat) (i : Int) := LK Tryz.prog Orc.nil ann16 0 g Tryz.f19 4 m ⟨frm [(0, vS s), (3, vI i)] 0 Tryz.f19.ntmps, [], 0⟩
set_option maxRecDepth 100000 in
theorem ev16 (s : ByteArray) (g : Nat) : callC Tryz.prog Orc.nil ann16 g Tryz.f19 (bodyOf Tryz.f19) [vS s] [] =
 (bif decide ((↑(ByteArray.size s) : Int) < (1 : Int)) then some (T.leaf (AV.c (C.d (D.v (Value.bool false))), [])) else (bif decide ((↑(ByteArray.size s) : Int) > (12 : Int)) then
 some (T.leaf (AV.c (C.d (D.v (Value.bool false))), [])) else L16 s g g ((0 : Int)))) := by kernel_rfl
set_option maxRecDepth 100000 in
theorem st16 (s : ByteArray) (g m : Nat) (i : Int) : L16 s g (m + 1) i =
 (bif decide (i < (↑(ByteArray.size s) : Int)) then (bif decide ((0 : Int) ≤ i) && decide (i < (↑(ByteArray.size s) : Int)) then (bif decide ((↑(UInt8.toNat (List.getD (Array.toList
 (ByteArray.data s)) (Int.toNat i) (0 : UInt8))) : Int) ≥ (97 : Int)) then (bif decide ((↑(UInt8.toNat (List.getD (Array.toList (ByteArray.data s)) (Int.toNat i) (0 : UInt8))) : Int)
 ≤ (122 : Int)) then L16 s g m (IntKind.wrap IntKind.i64 (i + (1 : Int))) else (bif decide ((↑(UInt8.toNat (List.getD (Array.toList (ByteArray.data s)) (Int.toNat i) (0 : UInt8))) :
 Int) ≥ (65 : Int)) then (bif !decide ((↑(UInt8.toNat (List.getD (Array.toList (ByteArray.data s)) (Int.toNat i) (0 : UInt8))) : Int) ≤ (90 : Int)) then (bif i == (0 : Int) then some
 (T.leaf (AV.c (C.d (D.v (Value.bool false))), [])) else (bif decide ((↑(UInt8.toNat (List.getD (Array.toList (ByteArray.data s)) (Int.toNat i) (0 : UInt8))) : Int) < (48 : Int))
 then (bif (↑(UInt8.toNat (List.getD (Array.toList (ByteArray.data s)) (Int.toNat i) (0 : UInt8))) : Int) != (95 : Int) then some (T.leaf (AV.c (C.d (D.v (Value.bool false))), []))
 else L16 s g m (IntKind.wrap IntKind.i64 (i + (1 : Int)))) else (bif decide ((↑(UInt8.toNat (List.getD (Array.toList (ByteArray.data s)) (Int.toNat i) (0 : UInt8))) : Int) > (57 :
 Int)) then (bif (↑(UInt8.toNat (List.getD (Array.toList (ByteArray.data s)) (Int.toNat i) (0 : UInt8))) : Int) != (95 : Int) then some (T.leaf (AV.c (C.d (D.v (Value.bool false))),
 [])) else L16 s g m (IntKind.wrap IntKind.i64 (i + (1 : Int)))) else L16 s g m (IntKind.wrap IntKind.i64 (i + (1 : Int)))))) else L16 s g m (IntKind.wrap IntKind.i64 (i + (1 :
 Int)))) else (bif i == (0 : Int) then some (T.leaf (AV.c (C.d (D.v (Value.bool false))), [])) else (bif decide ((↑(UInt8.toNat (List.getD (Array.toList (ByteArray.data s))
 (Int.toNat i) (0 : UInt8))) : Int) < (48 : Int)) then (bif (↑(UInt8.toNat (List.getD (Array.toList (ByteArray.data s)) (Int.toNat i) (0 : UInt8))) : Int) != (95 : Int) then some
 (T.leaf (AV.c (C.d (D.v (Value.bool false))), [])) else L16 s g m (IntKind.wrap IntKind.i64 (i + (1 : Int)))) else (bif decide ((↑(UInt8.toNat (List.getD (Array.toList
 (ByteArray.data s)) (Int.toNat i) (0 : UInt8))) : Int) > (57 : Int)) then (bif (↑(UInt8.toNat (List.getD (Array.toList (ByteArray.data s)) (Int.toNat i) (0 : UInt8))) : Int) != (95
 : Int) then some (T.leaf (AV.c (C.d (D.v (Value.bool false))), [])) else L16 s g m (IntKind.wrap IntKind.i64 (i + (1 : Int)))) else L16 s g m (IntKind.wrap IntKind.i64 (i + (1 :
 Int)))))))) else (bif decide ((↑(UInt8.toNat (List.getD (Array.toList (ByteArray.data s)) (Int.toNat i) (0 : UInt8))) : Int) ≥ (65 : Int)) then (bif !decide ((↑(UInt8.toNat
 (List.getD (Array.toList (ByteArray.data s)) (Int.toNat i) (0 : UInt8))) : Int) ≤ (90 : Int)) then (bif i == (0 : Int) then some (T.leaf (AV.c (C.d (D.v (Value.bool false))), []))
 else (bif decide ((↑(UInt8.toNat (List.getD (Array.toList (ByteArray.data s)) (Int.toNat i) (0 : UInt8))) : Int) < (48 : Int)) then (bif (↑(UInt8.toNat (List.getD (Array.toList
 (ByteArray.data s)) (Int.toNat i) (0 : UInt8))) : Int) != (95 : Int) then some (T.leaf (AV.c (C.d (D.v (Value.bool false))), [])) else L16 s g m (IntKind.wrap IntKind.i64 (i + (1 :
 Int)))) else (bif decide ((↑(UInt8.toNat (List.getD (Array.toList (ByteArray.data s)) (Int.toNat i) (0 : UInt8))) : Int) > (57 : Int)) then (bif (↑(UInt8.toNat (List.getD
 (Array.toList (ByteArray.data s)) (Int.toNat i) (0 : UInt8))) : Int) != (95 : Int) then some (T.leaf (AV.c (C.d (D.v (Value.bool false))), [])) else L16 s g m (IntKind.wrap
 IntKind.i64 (i + (1 : Int)))) else L16 s g m (IntKind.wrap IntKind.i64 (i + (1 : Int)))))) else L16 s g m (IntKind.wrap IntKind.i64 (i + (1 : Int)))) else (bif i == (0 : Int) then
 some (T.leaf (AV.c (C.d (D.v (Value.bool false))), [])) else (bif decide ((↑(UInt8.toNat (List.getD (Array.toList (ByteArray.data s)) (Int.toNat i) (0 : UInt8))) : Int) < (48 :
 Int)) then (bif (↑(UInt8.toNat (List.getD (Array.toList (ByteArray.data s)) (Int.toNat i) (0 : UInt8))) : Int) != (95 : Int) then some (T.leaf (AV.c (C.d (D.v (Value.bool false))),
 [])) else L16 s g m (IntKind.wrap IntKind.i64 (i + (1 : Int)))) else (bif decide ((↑(UInt8.toNat (List.getD (Array.toList (ByteArray.data s)) (Int.toNat i) (0 : UInt8))) : Int) >
 (57 : Int)) then (bif (↑(UInt8.toNat (List.getD (Array.toList (ByteArray.data s)) (Int.toNat i) (0 : UInt8))) : Int) != (95 : Int) then some (T.leaf (AV.c (C.d (D.v (Value.bool
 false))), [])) else L16 s g m (IntKind.wrap IntKind.i64 (i + (1 : Int)))) else L16 s g m (IntKind.wrap IntKind.i64 (i + (1 : Int)))))))) else none) else some (T.leaf (AV.c (C.d (D.v
 (Value.bool true))), []))) := by kernel_rfl
noncomputable def ann46 := annOf [(2, ⟨[0, 1, 5], []⟩)]
noncomputable def L46 (l : List ByteArray) (s : ByteArray) (g m : Nat) (i : Int) := LK Tryz.prog Orc.nil ann46 0 g Tryz.f44 2 m ⟨frm [(0, .c (.d (busesD l))), (1, vS s), (5, vI i)] 0 Tryz.f44.ntmps, [], 0⟩
set_option maxRecDepth 100000 in
theorem ev46 (l : List ByteArray) (s : ByteArray) (g : Nat) : callC Tryz.prog Orc.nil ann46 g Tryz.f44 (bodyOf Tryz.f44) [.c (.d (busesD l)), vS s] [] =
 L46 l s g g ((0 : Int)) := by kernel_rfl
set_option maxRecDepth 100000 in
theorem st46 (l : List ByteArray) (s : ByteArray) (g m : Nat) (i : Int) : L46 l s g (m + 1) i =
 (bif decide (i < (↑(List.length l) : Int)) then (bif decide ((0 : Int) ≤ i) && decide (i < (↑(List.length l) : Int)) then (bif ByteArray.toList (List.getD l (Int.toNat i) e0) ==
 ByteArray.toList s then some (T.leaf (AV.c (C.d (D.v (Value.int IntKind.i64 i))), [])) else L46 l s g m (IntKind.wrap IntKind.i64 (i + (1 : Int)))) else none) else some (T.leaf
 (AV.c (C.d (D.v (Value.int IntKind.i64 (-1 : Int)))), []))) := by kernel_rfl
noncomputable def ann7 := annOf [(4, ⟨[1, 3], []⟩)]
noncomputable def L7 (s : SSta) (g m : Nat) (i : Int) := LK Tryz.prog Orc.nil ann7 0 g Tryz.f8 4 m ⟨frm [(1, .c (.ptr 0 0)), (3, vI i)] 0 Tryz.f8.ntmps, [(0, .cells ((staC s).map .d) 27)], 1⟩
set_option maxRecDepth 100000 in
theorem ev7 (s : SSta) (g : Nat) : callC Tryz.prog Orc.nil ann7 g Tryz.f8 (bodyOf Tryz.f8) [aSta s] [] =
 (bif decide ((↑(List.length (SSta.buses s)) : Int) > (8 : Int)) then some (T.leaf (AV.c (C.d (D.v (Value.bool true))), [])) else (bif decide ((↑(List.length (SSta.lines s)) : Int) >
 (10 : Int)) then some (T.leaf (AV.c (C.d (D.v (Value.bool true))), [])) else (bif decide ((↑(List.length (SSta.srcs s)) : Int) > (8 : Int)) then some (T.leaf (AV.c (C.d (D.v
 (Value.bool true))), [])) else (bif decide ((↑(List.length (SSta.bays s)) : Int) > (20 : Int)) then some (T.leaf (AV.c (C.d (D.v (Value.bool true))), [])) else L7 s g g ((0 :
 Int)))))) := by kernel_rfl
set_option maxRecDepth 100000 in
theorem st7 (s : SSta) (g m : Nat) (i : Int) : L7 s g (m + 1) i =
 (bif decide (i < (↑(List.length (SSta.bays s)) : Int)) then (bif decide ((0 : Int) ≤ i) && decide (i < (↑(List.length (SSta.bays s)) : Int)) then (bif decide ((↑(List.length
 (SBay.links (List.getD (SSta.bays s) (Int.toNat i) bay0))) : Int) > (6 : Int)) then some (T.leaf (AV.c (C.d (D.v (Value.bool true))), [])) else L7 s g m (IntKind.wrap IntKind.i64 (i
 + (1 : Int)))) else none) else some (T.leaf (AV.c (C.d (D.v (Value.bool false))), []))) := by kernel_rfl
end Go.Proofs.YtngoglhlhlfknaaGreat.st
