/-
  Check of settings: lists: what their parts compute. No condition.
-/
import Derived.Test.YtngoglhlhlfknaaGreatZTm
import Derived.Test.YtngoglhlhlfknaaGreatZRe
import Derived.Test.YtngoglhlhlfknaaGreatSu
namespace Go.Proofs.YtngoglhlhlfknaaGreat.se
open Go.RowKit Go.Eb
set_option maxRecDepth 100000

abbrev aRule (x : SRule) : AV := .agg ((ruleC x).map .d)
abbrev aSet (x : SSet) : AV := .agg ((setC x).map .d)
abbrev aPub (x : SPub) : AV := .agg ((pubC x).map .d)
abbrev aSub (x : SSub) : AV := .agg ((subC x).map .d)
abbrev dF (f : FuncId) : D := .v (.func (.func f) #[] #[])
abbrev dNF : D := .v .nilFunc
set_option maxRecDepth 100000 in
theorem ev115_t (s : ByteArray) : callC Tryz.prog Orc.nil na 5 Tryz.f115 (bodyOf Tryz.f115) [vS s] [] =
 (bif ByteArray.toList s == ByteArray.toList (ByteArray.mk #[(116 : UInt8), (114 : UInt8), (117 : UInt8), (101 : UInt8)]) then (bif ByteArray.toList s == ByteArray.toList
 (ByteArray.mk #[(116 : UInt8), (114 : UInt8), (117 : UInt8), (101 : UInt8)]) then some (T.leaf (AV.c (C.d (D.v (Value.bool true))), [])) else some (T.leaf (AV.c (C.d (D.v
 (Value.bool false))), []))) else (bif ByteArray.toList s == ByteArray.toList (ByteArray.mk #[(102 : UInt8), (97 : UInt8), (108 : UInt8), (115 : UInt8), (101 : UInt8)]) then (bif
 ByteArray.toList s == ByteArray.toList (ByteArray.mk #[(102 : UInt8), (97 : UInt8), (108 : UInt8), (115 : UInt8), (101 : UInt8)]) then some (T.leaf (AV.c (C.d (D.v (Value.bool
 true))), [])) else some (T.leaf (AV.c (C.d (D.v (Value.bool false))), []))) else (bif ByteArray.toList s == ByteArray.toList (ByteArray.mk #[(110 : UInt8), (111 : UInt8), (116 :
 UInt8)]) then (bif ByteArray.toList s == ByteArray.toList (ByteArray.mk #[(110 : UInt8), (111 : UInt8), (116 : UInt8)]) then some (T.leaf (AV.c (C.d (D.v (Value.bool true))), []))
 else some (T.leaf (AV.c (C.d (D.v (Value.bool false))), []))) else (bif ByteArray.toList s == ByteArray.toList (ByteArray.mk #[(97 : UInt8), (110 : UInt8), (100 : UInt8)]) then (bif
 ByteArray.toList s == ByteArray.toList (ByteArray.mk #[(97 : UInt8), (110 : UInt8), (100 : UInt8)]) then some (T.leaf (AV.c (C.d (D.v (Value.bool true))), [])) else some (T.leaf
 (AV.c (C.d (D.v (Value.bool false))), []))) else (bif ByteArray.toList s == ByteArray.toList (ByteArray.mk #[(111 : UInt8), (114 : UInt8)]) then (bif ByteArray.toList s ==
 ByteArray.toList (ByteArray.mk #[(111 : UInt8), (114 : UInt8)]) then some (T.leaf (AV.c (C.d (D.v (Value.bool true))), [])) else some (T.leaf (AV.c (C.d (D.v (Value.bool false))),
 []))) else (bif ByteArray.toList s == ByteArray.toList (ByteArray.mk #[(120 : UInt8), (111 : UInt8), (114 : UInt8)]) then (bif ByteArray.toList s == ByteArray.toList (ByteArray.mk
 #[(120 : UInt8), (111 : UInt8), (114 : UInt8)]) then some (T.leaf (AV.c (C.d (D.v (Value.bool true))), [])) else some (T.leaf (AV.c (C.d (D.v (Value.bool false))), []))) else (bif
 ByteArray.toList s == ByteArray.toList (ByteArray.mk #[(109 : UInt8), (105 : UInt8), (110 : UInt8)]) then (bif ByteArray.toList s == ByteArray.toList (ByteArray.mk #[(109 : UInt8),
 (105 : UInt8), (110 : UInt8)]) then some (T.leaf (AV.c (C.d (D.v (Value.bool true))), [])) else some (T.leaf (AV.c (C.d (D.v (Value.bool false))), []))) else (bif ByteArray.toList s
 == ByteArray.toList (ByteArray.mk #[(109 : UInt8), (97 : UInt8), (120 : UInt8)]) then (bif ByteArray.toList s == ByteArray.toList (ByteArray.mk #[(109 : UInt8), (97 : UInt8), (120 :
 UInt8)]) then some (T.leaf (AV.c (C.d (D.v (Value.bool true))), [])) else some (T.leaf (AV.c (C.d (D.v (Value.bool false))), []))) else (bif ByteArray.toList s == ByteArray.toList
 (ByteArray.mk #[(97 : UInt8), (98 : UInt8), (115 : UInt8)]) then (bif ByteArray.toList s == ByteArray.toList (ByteArray.mk #[(97 : UInt8), (98 : UInt8), (115 : UInt8)]) then some
 (T.leaf (AV.c (C.d (D.v (Value.bool true))), [])) else some (T.leaf (AV.c (C.d (D.v (Value.bool false))), []))) else (bif ByteArray.toList s == ByteArray.toList (ByteArray.mk #[(105
 : UInt8), (102 : UInt8)]) then (bif ByteArray.toList s == ByteArray.toList (ByteArray.mk #[(105 : UInt8), (102 : UInt8)]) then some (T.leaf (AV.c (C.d (D.v (Value.bool true))), []))
 else some (T.leaf (AV.c (C.d (D.v (Value.bool false))), []))) else (bif ByteArray.toList s == ByteArray.toList (ByteArray.mk #[(114 : UInt8), (105 : UInt8), (115 : UInt8), (101 :
 UInt8)]) then (bif ByteArray.toList s == ByteArray.toList (ByteArray.mk #[(114 : UInt8), (105 : UInt8), (115 : UInt8), (101 : UInt8)]) then some (T.leaf (AV.c (C.d (D.v (Value.bool
 true))), [])) else some (T.leaf (AV.c (C.d (D.v (Value.bool false))), []))) else (bif ByteArray.toList s == ByteArray.toList (ByteArray.mk #[(102 : UInt8), (97 : UInt8), (108 :
 UInt8), (108 : UInt8)]) then (bif ByteArray.toList s == ByteArray.toList (ByteArray.mk #[(102 : UInt8), (97 : UInt8), (108 : UInt8), (108 : UInt8)]) then some (T.leaf (AV.c (C.d
 (D.v (Value.bool true))), [])) else some (T.leaf (AV.c (C.d (D.v (Value.bool false))), []))) else (bif ByteArray.toList s == ByteArray.toList (ByteArray.mk #[(100 : UInt8), (101 :
 UInt8), (108 : UInt8), (97 : UInt8), (121 : UInt8)]) then (bif ByteArray.toList s == ByteArray.toList (ByteArray.mk #[(100 : UInt8), (101 : UInt8), (108 : UInt8), (97 : UInt8), (121
 : UInt8)]) then some (T.leaf (AV.c (C.d (D.v (Value.bool true))), [])) else some (T.leaf (AV.c (C.d (D.v (Value.bool false))), []))) else (bif ByteArray.toList s == ByteArray.toList
 (ByteArray.mk #[(104 : UInt8), (111 : UInt8), (108 : UInt8), (100 : UInt8)]) then (bif ByteArray.toList s == ByteArray.toList (ByteArray.mk #[(104 : UInt8), (111 : UInt8), (108 :
 UInt8), (100 : UInt8)]) then some (T.leaf (AV.c (C.d (D.v (Value.bool true))), [])) else some (T.leaf (AV.c (C.d (D.v (Value.bool false))), []))) else (bif ByteArray.toList s ==
 ByteArray.toList (ByteArray.mk #[(108 : UInt8), (97 : UInt8), (116 : UInt8), (99 : UInt8), (104 : UInt8)]) then (bif ByteArray.toList s == ByteArray.toList (ByteArray.mk #[(108 :
 UInt8), (97 : UInt8), (116 : UInt8), (99 : UInt8), (104 : UInt8)]) then some (T.leaf (AV.c (C.d (D.v (Value.bool true))), [])) else some (T.leaf (AV.c (C.d (D.v (Value.bool
 false))), []))) else (bif ByteArray.toList s == ByteArray.toList (ByteArray.mk #[(99 : UInt8), (111 : UInt8), (117 : UInt8), (110 : UInt8), (116 : UInt8)]) then some (T.leaf (AV.c
 (C.d (D.v (Value.bool true))), [])) else some (T.leaf (AV.c (C.d (D.v (Value.bool false))), [])))))))))))))))))) := by kernel_rfl
noncomputable def ev115_v (s : ByteArray) : Bool :=
 (bif ByteArray.toList s == ByteArray.toList (ByteArray.mk #[(116 : UInt8), (114 : UInt8), (117 : UInt8), (101 : UInt8)]) then (bif ByteArray.toList s == ByteArray.toList
 (ByteArray.mk #[(116 : UInt8), (114 : UInt8), (117 : UInt8), (101 : UInt8)]) then (true) else (false)) else (bif ByteArray.toList s == ByteArray.toList (ByteArray.mk #[(102 :
 UInt8), (97 : UInt8), (108 : UInt8), (115 : UInt8), (101 : UInt8)]) then (bif ByteArray.toList s == ByteArray.toList (ByteArray.mk #[(102 : UInt8), (97 : UInt8), (108 : UInt8), (115
 : UInt8), (101 : UInt8)]) then (true) else (false)) else (bif ByteArray.toList s == ByteArray.toList (ByteArray.mk #[(110 : UInt8), (111 : UInt8), (116 : UInt8)]) then (bif
 ByteArray.toList s == ByteArray.toList (ByteArray.mk #[(110 : UInt8), (111 : UInt8), (116 : UInt8)]) then (true) else (false)) else (bif ByteArray.toList s == ByteArray.toList
 (ByteArray.mk #[(97 : UInt8), (110 : UInt8), (100 : UInt8)]) then (bif ByteArray.toList s == ByteArray.toList (ByteArray.mk #[(97 : UInt8), (110 : UInt8), (100 : UInt8)]) then
 (true) else (false)) else (bif ByteArray.toList s == ByteArray.toList (ByteArray.mk #[(111 : UInt8), (114 : UInt8)]) then (bif ByteArray.toList s == ByteArray.toList (ByteArray.mk
 #[(111 : UInt8), (114 : UInt8)]) then (true) else (false)) else (bif ByteArray.toList s == ByteArray.toList (ByteArray.mk #[(120 : UInt8), (111 : UInt8), (114 : UInt8)]) then (bif
 ByteArray.toList s == ByteArray.toList (ByteArray.mk #[(120 : UInt8), (111 : UInt8), (114 : UInt8)]) then (true) else (false)) else (bif ByteArray.toList s == ByteArray.toList
 (ByteArray.mk #[(109 : UInt8), (105 : UInt8), (110 : UInt8)]) then (bif ByteArray.toList s == ByteArray.toList (ByteArray.mk #[(109 : UInt8), (105 : UInt8), (110 : UInt8)]) then
 (true) else (false)) else (bif ByteArray.toList s == ByteArray.toList (ByteArray.mk #[(109 : UInt8), (97 : UInt8), (120 : UInt8)]) then (bif ByteArray.toList s == ByteArray.toList
 (ByteArray.mk #[(109 : UInt8), (97 : UInt8), (120 : UInt8)]) then (true) else (false)) else (bif ByteArray.toList s == ByteArray.toList (ByteArray.mk #[(97 : UInt8), (98 : UInt8),
 (115 : UInt8)]) then (bif ByteArray.toList s == ByteArray.toList (ByteArray.mk #[(97 : UInt8), (98 : UInt8), (115 : UInt8)]) then (true) else (false)) else (bif ByteArray.toList s
 == ByteArray.toList (ByteArray.mk #[(105 : UInt8), (102 : UInt8)]) then (bif ByteArray.toList s == ByteArray.toList (ByteArray.mk #[(105 : UInt8), (102 : UInt8)]) then (true) else
 (false)) else (bif ByteArray.toList s == ByteArray.toList (ByteArray.mk #[(114 : UInt8), (105 : UInt8), (115 : UInt8), (101 : UInt8)]) then (bif ByteArray.toList s ==
 ByteArray.toList (ByteArray.mk #[(114 : UInt8), (105 : UInt8), (115 : UInt8), (101 : UInt8)]) then (true) else (false)) else (bif ByteArray.toList s == ByteArray.toList
 (ByteArray.mk #[(102 : UInt8), (97 : UInt8), (108 : UInt8), (108 : UInt8)]) then (bif ByteArray.toList s == ByteArray.toList (ByteArray.mk #[(102 : UInt8), (97 : UInt8), (108 :
 UInt8), (108 : UInt8)]) then (true) else (false)) else (bif ByteArray.toList s == ByteArray.toList (ByteArray.mk #[(100 : UInt8), (101 : UInt8), (108 : UInt8), (97 : UInt8), (121 :
 UInt8)]) then (bif ByteArray.toList s == ByteArray.toList (ByteArray.mk #[(100 : UInt8), (101 : UInt8), (108 : UInt8), (97 : UInt8), (121 : UInt8)]) then (true) else (false)) else
 (bif ByteArray.toList s == ByteArray.toList (ByteArray.mk #[(104 : UInt8), (111 : UInt8), (108 : UInt8), (100 : UInt8)]) then (bif ByteArray.toList s == ByteArray.toList
 (ByteArray.mk #[(104 : UInt8), (111 : UInt8), (108 : UInt8), (100 : UInt8)]) then (true) else (false)) else (bif ByteArray.toList s == ByteArray.toList (ByteArray.mk #[(108 :
 UInt8), (97 : UInt8), (116 : UInt8), (99 : UInt8), (104 : UInt8)]) then (bif ByteArray.toList s == ByteArray.toList (ByteArray.mk #[(108 : UInt8), (97 : UInt8), (116 : UInt8), (99 :
 UInt8), (104 : UInt8)]) then (true) else (false)) else (bif ByteArray.toList s == ByteArray.toList (ByteArray.mk #[(99 : UInt8), (111 : UInt8), (117 : UInt8), (110 : UInt8), (116 :
 UInt8)]) then (true) else (false)))))))))))))))))
set_option maxRecDepth 100000 in
theorem ev115 (s : ByteArray) : callC Tryz.prog Orc.nil na 5 Tryz.f115 (bodyOf Tryz.f115) [vS s] [] = some (.leaf (vB (ev115_v s), [])) := by
  rw [ev115_t]
  unfold ev115_v
  simp only [bLeaf]
noncomputable def ann117 : Ann := annOf [(4, ⟨[1, 11, 12], []⟩)]
noncomputable def L117_4 (x : SRule) (g m : Nat) (i12 : Int) := LK Tryz.prog Orc.nil ann117 (List.length (α := Nat × Blk) []) g Tryz.f117 4 m ⟨frm [(1, AV.c (C.ptr 0 0)), (11, AV.c (C.d (D.v (Value.int IntKind.i64 (↑(ByteArray.size (SRule.text x)) : Int))))), (12, AV.c (C.d (D.v (Value.int IntKind.i64 i12))))] 0 Tryz.f117.ntmps, [(0, Blk.cells (List.map C.d (ruleC x)) 100)], 1⟩
theorem b117 : Tryz.f117.body = some (bodyOf Tryz.f117) := by kernel_rfl
set_option maxRecDepth 100000 in
theorem ev117 (x : SRule) (g : Nat) : callC Tryz.prog Orc.nil ann117 g Tryz.f117 (bodyOf Tryz.f117) [aRule x] [] =
 (bif decide ((↑(ByteArray.size (SRule.text x)) : Int) > (120 : Int)) then some (T.leaf (AV.c (C.d (D.v (Value.int IntKind.i64 (4 : Int)))), [])) else L117_4 x g g ((0 : Int))) := by kernel_rfl
set_option maxRecDepth 100000 in
theorem st117_4 (x : SRule) (g m : Nat) (i12 : Int) : L117_4 x g (m + 1) i12 =
 (bif decide (i12 < (↑(ByteArray.size (SRule.text x)) : Int)) then (bif decide ((0 : Int) ≤ i12) && decide (i12 < (↑(ByteArray.size (SRule.text x)) : Int)) then (bif decide
 ((↑(UInt8.toNat (List.getD (Array.toList (ByteArray.data (SRule.text x))) (Int.toNat i12) (0 : UInt8))) : Int) < (32 : Int)) then some (T.leaf (AV.c (C.d (D.v (Value.int IntKind.i64
 (5 : Int)))), [])) else (bif decide ((↑(UInt8.toNat (List.getD (Array.toList (ByteArray.data (SRule.text x))) (Int.toNat i12) (0 : UInt8))) : Int) > (126 : Int)) then some (T.leaf
 (AV.c (C.d (D.v (Value.int IntKind.i64 (5 : Int)))), [])) else (bif (↑(UInt8.toNat (List.getD (Array.toList (ByteArray.data (SRule.text x))) (Int.toNat i12) (0 : UInt8))) : Int) ==
 (34 : Int) then some (T.leaf (AV.c (C.d (D.v (Value.int IntKind.i64 (5 : Int)))), [])) else L117_4 x g m (IntKind.wrap IntKind.i64 (i12 + (1 : Int)))))) else none) else some (T.leaf
 (AV.c (C.d (D.v (Value.int IntKind.i64 (0 : Int)))), []))) := by kernel_rfl
set_option maxRecDepth 100000 in
theorem ev123_t (x : SPub) : callC Tryz.prog (Orc.cons 108 (inl Tryz.prog Orc.nil na 1 Tryz.f108) Orc.nil) na 5 Tryz.f123 (bodyOf Tryz.f123) [aPub x] [] =
 (bif decide (SPub.fst x ≥ (1 : Int)) then (bif !decide (SPub.fst x ≤ (100 : Int)) then some (T.leaf (AV.c (C.d (D.v (Value.int IntKind.i64 (2 : Int)))), [])) else (bif decide
 (SPub.max x ≥ SPub.fst x) then (bif !decide (SPub.max x ≤ (1000 : Int)) then some (T.leaf (AV.c (C.d (D.v (Value.int IntKind.i64 (2 : Int)))), [])) else some (T.leaf (AV.c (C.d (D.v
 (Value.int IntKind.i64 (0 : Int)))), []))) else some (T.leaf (AV.c (C.d (D.v (Value.int IntKind.i64 (2 : Int)))), [])))) else some (T.leaf (AV.c (C.d (D.v (Value.int IntKind.i64 (2
 : Int)))), []))) := by kernel_rfl
noncomputable def ev123_v (x : SPub) : Int :=
 (bif decide (SPub.fst x ≥ (1 : Int)) then (bif !decide (SPub.fst x ≤ (100 : Int)) then ((2 : Int)) else (bif decide (SPub.max x ≥ SPub.fst x) then (bif !decide (SPub.max x ≤ (1000 :
 Int)) then ((2 : Int)) else ((0 : Int))) else ((2 : Int)))) else ((2 : Int)))
set_option maxRecDepth 100000 in
theorem ev123 (x : SPub) : callC Tryz.prog (Orc.cons 108 (inl Tryz.prog Orc.nil na 1 Tryz.f108) Orc.nil) na 5 Tryz.f123 (bodyOf Tryz.f123) [aPub x] [] = some (.leaf (vI (ev123_v x), [])) := by
  rw [ev123_t]
  unfold ev123_v
  simp only [iLeaf]
noncomputable def oN (nk : ByteArray → Bool) (r : Orc) : Orc := Orc.cons 50 (ansP decS fun s => vB (nk s)) r
noncomputable def o147 (nk : ByteArray → Bool) : Orc := Orc.cons 143 (inl Tryz.prog (oN nk Orc.nil) na 1 Tryz.f143) Orc.nil
noncomputable def ann147 : Ann := annOf [(2, ⟨[0, 1, 7, 8], []⟩)]
noncomputable def L147_2 (nk : ByteArray → Bool) (l : List ByteArray) (g m : Nat) (i8 : Int) := LK Tryz.prog (o147 nk) ann147 (List.length (α := Nat × Blk) []) g Tryz.f147 2 m ⟨frm [(0, AV.c (C.d (listD 1 busC e0 l))), (1, AV.c (C.d (D.v (Value.func (Fn.func (143 : FuncId)) #[] #[])))), (7, AV.c (C.d (D.v (Value.int IntKind.i64 (↑(List.length l) : Int))))), (8, AV.c (C.d (D.v (Value.int IntKind.i64 i8))))] 0 Tryz.f147.ntmps, [], 0⟩
theorem b147 : Tryz.f147.body = some (bodyOf Tryz.f147) := by kernel_rfl
set_option maxRecDepth 100000 in
theorem ev147 (nk : ByteArray → Bool) (l : List ByteArray) (g : Nat) : callC Tryz.prog (o147 nk) ann147 g Tryz.f147 (bodyOf Tryz.f147) [.c (.d (busesD l)), .c (.d (dF 143))] [] =
 L147_2 nk l g g ((0 : Int)) := by kernel_rfl
set_option maxRecDepth 100000 in
theorem st147_2 (nk : ByteArray → Bool) (l : List ByteArray) (g m : Nat) (i8 : Int) : L147_2 nk l g (m + 1) i8 =
 (bif decide (i8 < (↑(List.length l) : Int)) then (bif decide ((0 : Int) ≤ i8) && decide (i8 < (↑(List.length l) : Int)) then (bif !nk (List.getD l (Int.toNat i8) e0) then some
 (T.leaf (AV.c (C.d (D.v (Value.int IntKind.i64 i8))), [])) else L147_2 nk l g m (IntKind.wrap IntKind.i64 (i8 + (1 : Int)))) else none) else some (T.leaf (AV.c (C.d (D.v (Value.int
 IntKind.i64 (-1 : Int)))), []))) := by kernel_rfl
noncomputable def o119 (oki : List AV → Bool) (ix : List AV → Int) : Orc := Orc.cons 147 (ansG oki fun x => vI (ix x)) Orc.nil
noncomputable def o142 (oki : List AV → Bool) (ix : List AV → Int) : Orc := Orc.cons 142 (inl Tryz.prog (o119 oki ix) na 1 Tryz.f142) Orc.nil
noncomputable def ann119 : Ann := annOf []
theorem b119 : Tryz.f119.body = some (bodyOf Tryz.f119) := by kernel_rfl
set_option maxRecDepth 100000 in
theorem ev119 (oki : List AV → Bool) (ix : List AV → Int) (l : List ByteArray) (g : Nat) : callC Tryz.prog (o142 oki ix) ann119 g Tryz.f119 (bodyOf Tryz.f119) [.c (.d (busesD l))] [] =
 (bif oki [AV.c (C.d (listD ((1 : Nat)) busC e0 l)), AV.c (C.d (D.v (Value.func (Fn.func (143 : Nat)) #[] #[])))] then some (T.leaf (AV.c (C.d (D.v (Value.bool !decide (ix [AV.c (C.d
 (listD ((1 : Nat)) busC e0 l)), AV.c (C.d (D.v (Value.func (Fn.func (143 : Nat)) #[] #[])))] ≥ (0 : Int))))), [])) else none) := by kernel_rfl
/-! the elements' validity -/
noncomputable def o114 (nk rs : ByteArray → Bool) : Orc := oN nk (Orc.cons 115 (ansP decS fun s => vB (rs s)) Orc.nil)
set_option maxRecDepth 100000 in
theorem ev114_t (nk rs : ByteArray → Bool) (x : SRule) : callC Tryz.prog (o114 nk rs) na 5 Tryz.f114 (bodyOf Tryz.f114) [aRule x] [] =
 (bif nk (SRule.name x) then some (T.leaf (AV.c (C.d (D.v (Value.bool !rs (SRule.name x)))), [])) else some (T.leaf (AV.c (C.d (D.v (Value.bool false))), []))) := by kernel_rfl
noncomputable def ev114_v (nk rs : ByteArray → Bool) (x : SRule) : Bool :=
 (bif nk (SRule.name x) then (!rs (SRule.name x)) else (false))
set_option maxRecDepth 100000 in
theorem ev114 (nk rs : ByteArray → Bool) (x : SRule) : callC Tryz.prog (o114 nk rs) na 5 Tryz.f114 (bodyOf Tryz.f114) [aRule x] [] = some (.leaf (vB (ev114_v nk rs x), [])) := by
  rw [ev114_t]
  unfold ev114_v
  simp only [bLeaf]
noncomputable def o118 (nk : ByteArray → Bool) (okn nm : List AV → Bool) : Orc := oN nk (Orc.cons 119 (ansG okn fun x => vB (nm x)) Orc.nil)
noncomputable def ann118 : Ann := annOf []
theorem b118 : Tryz.f118.body = some (bodyOf Tryz.f118) := by kernel_rfl
set_option maxRecDepth 100000 in
theorem ev118 (nk : ByteArray → Bool) (okn nm : List AV → Bool) (x : SSet) (g : Nat) : callC Tryz.prog (o118 nk okn nm) ann118 g Tryz.f118 (bodyOf Tryz.f118) [aSet x] [] =
 (bif nk (SSet.name x) then (bif okn [AV.c (C.d (listD ((1 : Nat)) busC e0 (SSet.sigs x)))] then some (T.leaf (AV.c (C.d (D.v (Value.bool (nm [AV.c (C.d (listD ((1 : Nat)) busC e0
 (SSet.sigs x)))])))), [])) else none) else some (T.leaf (AV.c (C.d (D.v (Value.bool false))), []))) := by kernel_rfl
set_option maxRecDepth 100000 in
theorem ev121_t (nk : ByteArray → Bool) (x : SPub) : callC Tryz.prog (oN nk Orc.nil) na 5 Tryz.f121 (bodyOf Tryz.f121) [aPub x] [] =
 some (T.leaf (AV.c (C.d (D.v (Value.bool (nk (SPub.set x))))), [])) := by kernel_rfl
noncomputable def ev121_v (nk : ByteArray → Bool) (x : SPub) : Bool :=
 ((nk (SPub.set x)))
set_option maxRecDepth 100000 in
theorem ev121 (nk : ByteArray → Bool) (x : SPub) : callC Tryz.prog (oN nk Orc.nil) na 5 Tryz.f121 (bodyOf Tryz.f121) [aPub x] [] = some (.leaf (vB (ev121_v nk x), [])) := by
  rw [ev121_t]
  unfold ev121_v
  simp only [bLeaf]
noncomputable def o124 (nk : ByteArray → Bool) : Orc := Orc.cons 119 (inl Tryz.prog (Orc.cons 142 (inl Tryz.prog (Orc.cons 147 (inl Tryz.prog (o147 nk) na 6 Tryz.f147) Orc.nil) na 1 Tryz.f142) Orc.nil) na 1 Tryz.f119) Orc.nil
noncomputable def ann124 : Ann := annOf []
theorem b124 : Tryz.f124.body = some (bodyOf Tryz.f124) := by kernel_rfl
set_option maxRecDepth 100000 in
theorem ev124 (nk : ByteArray → Bool) (x : SSub) (g : Nat) : callC Tryz.prog (o124 nk) ann124 g Tryz.f124 (bodyOf Tryz.f124) [aSub x] [] =
 (bif !nk (SSub.loc x) then some (T.leaf (AV.c (C.d (D.v (Value.bool false))), [])) else (bif !nk (SSub.dev x) then some (T.leaf (AV.c (C.d (D.v (Value.bool false))), [])) else (bif
 !nk (SSub.set x) then some (T.leaf (AV.c (C.d (D.v (Value.bool false))), [])) else (bif !nk (SSub.sig x) then some (T.leaf (AV.c (C.d (D.v (Value.bool false))), [])) else some
 (T.leaf (AV.c (C.d (D.v (Value.bool true))), [])))))) := by kernel_rfl
/-! the lists -/
noncomputable def o126 (okv va okt : List AV → Bool) (rt : List AV → Int) : Orc := Orc.cons 114 (ansG okv fun x => vB (va x)) (Orc.cons 116 (inl Tryz.prog Orc.nil na 1 Tryz.f116) (Orc.cons 117 (ansG okt fun x => vI (rt x)) Orc.nil))
noncomputable def ann126 : Ann := annOf [(3, ⟨[2, 5, 10, 11, 12], []⟩)]
noncomputable def L126_3 (okv va okt : List AV → Bool) (rt : List AV → Int) (l : List SRule) (g m : Nat) (l1 : List (Value × Value)) (i12 : Int) := LK Tryz.prog (o126 okv va okt rt) ann126 (List.length (α := Nat × Blk) []) g Tryz.f126 3 m ⟨frm [(2, AV.c (C.ptr 0 0)), (5, AV.c (C.mp 1)), (10, AV.c (C.d (listD 2 ruleC rule0 l))), (11, AV.c (C.d (D.v (Value.int IntKind.i64 (↑(List.length l) : Int))))), (12, AV.c (C.d (D.v (Value.int IntKind.i64 i12))))] 0 Tryz.f126.ntmps, [(0, Blk.cells [C.d (D.v (Value.func (Fn.func (114 : FuncId)) #[] #[])), C.d (D.v (Value.func (Fn.func (116 : FuncId)) #[] #[])), C.d (D.v (Value.func (Fn.func (117 : FuncId)) #[] #[]))] 170), (1, Blk.map 0 l1)], 2⟩
theorem b126 : Tryz.f126.body = some (bodyOf Tryz.f126) := by kernel_rfl
set_option maxRecDepth 100000 in
theorem ev126 (okv va okt : List AV → Bool) (rt : List AV → Int) (l : List SRule) (g : Nat) : callC Tryz.prog (o126 okv va okt rt) ann126 g Tryz.f126 (bodyOf Tryz.f126) [.agg [.d (dF 114), .d (dF 116), .d (dF 117)], .c (.d (rulesD l))] [] =
 L126_3 okv va okt rt l g g ([]) ((0 : Int)) := by kernel_rfl
set_option maxRecDepth 100000 in
theorem st126_3 (okv va okt : List AV → Bool) (rt : List AV → Int) (l : List SRule) (g m : Nat) (l1 : List (Value × Value)) (i12 : Int) : L126_3 okv va okt rt l g (m + 1) l1 i12 =
 (bif decide (i12 < (↑(List.length l) : Int)) then (bif decide ((0 : Int) ≤ i12) && decide (i12 < (↑(List.length l) : Int)) then (bif okv [AV.agg (List.map C.d (ruleC (List.getD l
 (Int.toNat i12) rule0)))] then (bif !va [AV.agg (List.map C.d (ruleC (List.getD l (Int.toNat i12) rule0)))] then some (T.leaf (AV.c (C.d (D.v (Value.int IntKind.i64 (7 : Int)))),
 [])) else (bif boolOf (assoc l1 (Value.string (SRule.name (List.getD l (Int.toNat i12) rule0)))) then some (T.leaf (AV.c (C.d (D.v (Value.int IntKind.i64 (8 : Int)))), [])) else
 (bif okt [AV.agg (List.map C.d (ruleC (List.getD l (Int.toNat i12) rule0)))] then (bif rt [AV.agg (List.map C.d (ruleC (List.getD l (Int.toNat i12) rule0)))] != (0 : Int) then some
 (T.leaf (AV.c (C.d (D.v (Value.int IntKind.i64 (rt [AV.agg (List.map C.d (ruleC (List.getD l (Int.toNat i12) rule0)))])))), [])) else L126_3 okv va okt rt l g m ((Value.string
 (SRule.name (List.getD l (Int.toNat i12) rule0)), Value.bool true) :: l1) (IntKind.wrap IntKind.i64 (i12 + (1 : Int)))) else none))) else none) else none) else some (T.leaf (AV.c
 (C.d (D.v (Value.int IntKind.i64 (0 : Int)))), []))) := by kernel_rfl
noncomputable def o127 (okv va : List AV → Bool) : Orc := Orc.cons 118 (ansG okv fun x => vB (va x)) (Orc.cons 120 (inl Tryz.prog Orc.nil na 1 Tryz.f120) Orc.nil)
noncomputable def ann127 : Ann := annOf [(3, ⟨[2, 5, 10, 11, 12], []⟩)]
noncomputable def L127_3 (okv va : List AV → Bool) (l : List SSet) (g m : Nat) (l1 : List (Value × Value)) (i12 : Int) := LK Tryz.prog (o127 okv va) ann127 (List.length (α := Nat × Blk) []) g Tryz.f127 3 m ⟨frm [(2, AV.c (C.ptr 0 0)), (5, AV.c (C.mp 1)), (10, AV.c (C.d (listD 2 setC set0 l))), (11, AV.c (C.d (D.v (Value.int IntKind.i64 (↑(List.length l) : Int))))), (12, AV.c (C.d (D.v (Value.int IntKind.i64 i12))))] 0 Tryz.f127.ntmps, [(0, Blk.cells [C.d (D.v (Value.func (Fn.func (118 : FuncId)) #[] #[])), C.d (D.v (Value.func (Fn.func (120 : FuncId)) #[] #[])), C.d (D.v Value.nilFunc)] 175), (1, Blk.map 0 l1)], 2⟩
theorem b127 : Tryz.f127.body = some (bodyOf Tryz.f127) := by kernel_rfl
set_option maxRecDepth 100000 in
theorem ev127 (okv va : List AV → Bool) (l : List SSet) (g : Nat) : callC Tryz.prog (o127 okv va) ann127 g Tryz.f127 (bodyOf Tryz.f127) [.agg [.d (dF 118), .d (dF 120), .d dNF], .c (.d (setsD l))] [] =
 L127_3 okv va l g g ([]) ((0 : Int)) := by kernel_rfl
set_option maxRecDepth 100000 in
theorem st127_3 (okv va : List AV → Bool) (l : List SSet) (g m : Nat) (l1 : List (Value × Value)) (i12 : Int) : L127_3 okv va l g (m + 1) l1 i12 =
 (bif decide (i12 < (↑(List.length l) : Int)) then (bif decide ((0 : Int) ≤ i12) && decide (i12 < (↑(List.length l) : Int)) then (bif okv [AV.agg (List.map C.d (setC (List.getD l
 (Int.toNat i12) set0)))] then (bif !va [AV.agg (List.map C.d (setC (List.getD l (Int.toNat i12) set0)))] then some (T.leaf (AV.c (C.d (D.v (Value.int IntKind.i64 (7 : Int)))), []))
 else (bif boolOf (assoc l1 (Value.string (SSet.name (List.getD l (Int.toNat i12) set0)))) then some (T.leaf (AV.c (C.d (D.v (Value.int IntKind.i64 (8 : Int)))), [])) else L127_3 okv
 va l g m ((Value.string (SSet.name (List.getD l (Int.toNat i12) set0)), Value.bool true) :: l1) (IntKind.wrap IntKind.i64 (i12 + (1 : Int))))) else none) else none) else some
 (T.leaf (AV.c (C.d (D.v (Value.int IntKind.i64 (0 : Int)))), []))) := by kernel_rfl
noncomputable def o128 (okv va okt : List AV → Bool) (rt : List AV → Int) : Orc := Orc.cons 121 (ansG okv fun x => vB (va x)) (Orc.cons 122 (inl Tryz.prog Orc.nil na 1 Tryz.f122) (Orc.cons 123 (ansG okt fun x => vI (rt x)) Orc.nil))
noncomputable def ann128 : Ann := annOf [(3, ⟨[2, 5, 10, 11, 12], []⟩)]
noncomputable def L128_3 (okv va okt : List AV → Bool) (rt : List AV → Int) (l : List SPub) (g m : Nat) (l1 : List (Value × Value)) (i12 : Int) := LK Tryz.prog (o128 okv va okt rt) ann128 (List.length (α := Nat × Blk) []) g Tryz.f128 3 m ⟨frm [(2, AV.c (C.ptr 0 0)), (5, AV.c (C.mp 1)), (10, AV.c (C.d (listD 3 pubC pub0 l))), (11, AV.c (C.d (D.v (Value.int IntKind.i64 (↑(List.length l) : Int))))), (12, AV.c (C.d (D.v (Value.int IntKind.i64 i12))))] 0 Tryz.f128.ntmps, [(0, Blk.cells [C.d (D.v (Value.func (Fn.func (121 : FuncId)) #[] #[])), C.d (D.v (Value.func (Fn.func (122 : FuncId)) #[] #[])), C.d (D.v (Value.func (Fn.func (123 : FuncId)) #[] #[]))] 180), (1, Blk.map 0 l1)], 2⟩
theorem b128 : Tryz.f128.body = some (bodyOf Tryz.f128) := by kernel_rfl
set_option maxRecDepth 100000 in
theorem ev128 (okv va okt : List AV → Bool) (rt : List AV → Int) (l : List SPub) (g : Nat) : callC Tryz.prog (o128 okv va okt rt) ann128 g Tryz.f128 (bodyOf Tryz.f128) [.agg [.d (dF 121), .d (dF 122), .d (dF 123)], .c (.d (pubsD l))] [] =
 L128_3 okv va okt rt l g g ([]) ((0 : Int)) := by kernel_rfl
set_option maxRecDepth 100000 in
theorem st128_3 (okv va okt : List AV → Bool) (rt : List AV → Int) (l : List SPub) (g m : Nat) (l1 : List (Value × Value)) (i12 : Int) : L128_3 okv va okt rt l g (m + 1) l1 i12 =
 (bif decide (i12 < (↑(List.length l) : Int)) then (bif decide ((0 : Int) ≤ i12) && decide (i12 < (↑(List.length l) : Int)) then (bif okv [AV.agg (List.map C.d (pubC (List.getD l
 (Int.toNat i12) pub0)))] then (bif !va [AV.agg (List.map C.d (pubC (List.getD l (Int.toNat i12) pub0)))] then some (T.leaf (AV.c (C.d (D.v (Value.int IntKind.i64 (7 : Int)))), []))
 else (bif boolOf (assoc l1 (Value.string (SPub.set (List.getD l (Int.toNat i12) pub0)))) then some (T.leaf (AV.c (C.d (D.v (Value.int IntKind.i64 (8 : Int)))), [])) else (bif okt
 [AV.agg (List.map C.d (pubC (List.getD l (Int.toNat i12) pub0)))] then (bif rt [AV.agg (List.map C.d (pubC (List.getD l (Int.toNat i12) pub0)))] != (0 : Int) then some (T.leaf (AV.c
 (C.d (D.v (Value.int IntKind.i64 (rt [AV.agg (List.map C.d (pubC (List.getD l (Int.toNat i12) pub0)))])))), [])) else L128_3 okv va okt rt l g m ((Value.string (SPub.set (List.getD
 l (Int.toNat i12) pub0)), Value.bool true) :: l1) (IntKind.wrap IntKind.i64 (i12 + (1 : Int)))) else none))) else none) else none) else some (T.leaf (AV.c (C.d (D.v (Value.int
 IntKind.i64 (0 : Int)))), []))) := by kernel_rfl
noncomputable def o129 (okv va : List AV → Bool) : Orc := Orc.cons 124 (ansG okv fun x => vB (va x)) (Orc.cons 125 (inl Tryz.prog Orc.nil na 1 Tryz.f125) Orc.nil)
noncomputable def ann129 : Ann := annOf [(3, ⟨[2, 5, 10, 11, 12], []⟩)]
noncomputable def L129_3 (okv va : List AV → Bool) (l : List SSub) (g m : Nat) (l1 : List (Value × Value)) (i12 : Int) := LK Tryz.prog (o129 okv va) ann129 (List.length (α := Nat × Blk) []) g Tryz.f129 3 m ⟨frm [(2, AV.c (C.ptr 0 0)), (5, AV.c (C.mp 1)), (10, AV.c (C.d (listD 4 subC sub0 l))), (11, AV.c (C.d (D.v (Value.int IntKind.i64 (↑(List.length l) : Int))))), (12, AV.c (C.d (D.v (Value.int IntKind.i64 i12))))] 0 Tryz.f129.ntmps, [(0, Blk.cells [C.d (D.v (Value.func (Fn.func (124 : FuncId)) #[] #[])), C.d (D.v (Value.func (Fn.func (125 : FuncId)) #[] #[])), C.d (D.v Value.nilFunc)] 185), (1, Blk.map 0 l1)], 2⟩
theorem b129 : Tryz.f129.body = some (bodyOf Tryz.f129) := by kernel_rfl
set_option maxRecDepth 100000 in
theorem ev129 (okv va : List AV → Bool) (l : List SSub) (g : Nat) : callC Tryz.prog (o129 okv va) ann129 g Tryz.f129 (bodyOf Tryz.f129) [.agg [.d (dF 124), .d (dF 125), .d dNF], .c (.d (subsD l))] [] =
 L129_3 okv va l g g ([]) ((0 : Int)) := by kernel_rfl
set_option maxRecDepth 100000 in
theorem st129_3 (okv va : List AV → Bool) (l : List SSub) (g m : Nat) (l1 : List (Value × Value)) (i12 : Int) : L129_3 okv va l g (m + 1) l1 i12 =
 (bif decide (i12 < (↑(List.length l) : Int)) then (bif decide ((0 : Int) ≤ i12) && decide (i12 < (↑(List.length l) : Int)) then (bif okv [AV.agg (List.map C.d (subC (List.getD l
 (Int.toNat i12) sub0)))] then (bif !va [AV.agg (List.map C.d (subC (List.getD l (Int.toNat i12) sub0)))] then some (T.leaf (AV.c (C.d (D.v (Value.int IntKind.i64 (7 : Int)))), []))
 else (bif boolOf (assoc l1 (Value.string (SSub.loc (List.getD l (Int.toNat i12) sub0)))) then some (T.leaf (AV.c (C.d (D.v (Value.int IntKind.i64 (8 : Int)))), [])) else L129_3 okv
 va l g m ((Value.string (SSub.loc (List.getD l (Int.toNat i12) sub0)), Value.bool true) :: l1) (IntKind.wrap IntKind.i64 (i12 + (1 : Int))))) else none) else none) else some (T.leaf
 (AV.c (C.d (D.v (Value.int IntKind.i64 (0 : Int)))), []))) := by kernel_rfl
/-! together -/
noncomputable def o85 (ok1 ok2 ok3 ok4 : List AV → Bool) (f1 f2 f3 f4 : List AV → Int) : Orc := Orc.cons 126 (ansG ok1 fun x => vI (f1 x)) (Orc.cons 127 (ansG ok2 fun x => vI (f2 x)) (Orc.cons 128 (ansG ok3 fun x => vI (f3 x)) (Orc.cons 129 (ansG ok4 fun x => vI (f4 x)) Orc.nil)))
noncomputable def ann85 : Ann := annOf []
theorem b85 : Tryz.f85.body = some (bodyOf Tryz.f85) := by kernel_rfl
set_option maxRecDepth 100000 in
theorem ev85 (ok1 ok2 ok3 ok4 : List AV → Bool) (f1 f2 f3 f4 : List AV → Int) (r : SRel) (g : Nat) : callC Tryz.prog (o85 ok1 ok2 ok3 ok4 f1 f2 f3 f4) ann85 g Tryz.f85 (bodyOf Tryz.f85) [aRel r] [] =
 (bif ok1 [AV.agg [C.d (D.v (Value.func (Fn.func (114 : Nat)) #[] #[])), C.d (D.v (Value.func (Fn.func (116 : Nat)) #[] #[])), C.d (D.v (Value.func (Fn.func (117 : Nat)) #[] #[]))],
 AV.c (C.d (listD ((2 : Nat)) ruleC rule0 (SRel.rules r)))] then (bif f1 [AV.agg [C.d (D.v (Value.func (Fn.func (114 : Nat)) #[] #[])), C.d (D.v (Value.func (Fn.func (116 : Nat)) #[]
 #[])), C.d (D.v (Value.func (Fn.func (117 : Nat)) #[] #[]))], AV.c (C.d (listD ((2 : Nat)) ruleC rule0 (SRel.rules r)))] != (0 : Int) then some (T.leaf (AV.c (C.d (D.v (Value.int
 IntKind.i64 (f1 [AV.agg [C.d (D.v (Value.func (Fn.func (114 : Nat)) #[] #[])), C.d (D.v (Value.func (Fn.func (116 : Nat)) #[] #[])), C.d (D.v (Value.func (Fn.func (117 : Nat)) #[]
 #[]))], AV.c (C.d (listD ((2 : Nat)) ruleC rule0 (SRel.rules r)))])))), [])) else (bif ok2 [AV.agg [C.d (D.v (Value.func (Fn.func (118 : Nat)) #[] #[])), C.d (D.v (Value.func
 (Fn.func (120 : Nat)) #[] #[])), C.d (D.v Value.nilFunc)], AV.c (C.d (listD ((2 : Nat)) setC set0 (SRel.sets r)))] then (bif f2 [AV.agg [C.d (D.v (Value.func (Fn.func (118 : Nat))
 #[] #[])), C.d (D.v (Value.func (Fn.func (120 : Nat)) #[] #[])), C.d (D.v Value.nilFunc)], AV.c (C.d (listD ((2 : Nat)) setC set0 (SRel.sets r)))] != (0 : Int) then some (T.leaf
 (AV.c (C.d (D.v (Value.int IntKind.i64 (f2 [AV.agg [C.d (D.v (Value.func (Fn.func (118 : Nat)) #[] #[])), C.d (D.v (Value.func (Fn.func (120 : Nat)) #[] #[])), C.d (D.v
 Value.nilFunc)], AV.c (C.d (listD ((2 : Nat)) setC set0 (SRel.sets r)))])))), [])) else (bif ok3 [AV.agg [C.d (D.v (Value.func (Fn.func (121 : Nat)) #[] #[])), C.d (D.v (Value.func
 (Fn.func (122 : Nat)) #[] #[])), C.d (D.v (Value.func (Fn.func (123 : Nat)) #[] #[]))], AV.c (C.d (listD ((3 : Nat)) pubC pub0 (SRel.pubs r)))] then (bif f3 [AV.agg [C.d (D.v
 (Value.func (Fn.func (121 : Nat)) #[] #[])), C.d (D.v (Value.func (Fn.func (122 : Nat)) #[] #[])), C.d (D.v (Value.func (Fn.func (123 : Nat)) #[] #[]))], AV.c (C.d (listD ((3 :
 Nat)) pubC pub0 (SRel.pubs r)))] != (0 : Int) then some (T.leaf (AV.c (C.d (D.v (Value.int IntKind.i64 (f3 [AV.agg [C.d (D.v (Value.func (Fn.func (121 : Nat)) #[] #[])), C.d (D.v
 (Value.func (Fn.func (122 : Nat)) #[] #[])), C.d (D.v (Value.func (Fn.func (123 : Nat)) #[] #[]))], AV.c (C.d (listD ((3 : Nat)) pubC pub0 (SRel.pubs r)))])))), [])) else (bif ok4
 [AV.agg [C.d (D.v (Value.func (Fn.func (124 : Nat)) #[] #[])), C.d (D.v (Value.func (Fn.func (125 : Nat)) #[] #[])), C.d (D.v Value.nilFunc)], AV.c (C.d (listD ((4 : Nat)) subC sub0
 (SRel.subs r)))] then some (T.leaf (AV.c (C.d (D.v (Value.int IntKind.i64 (f4 [AV.agg [C.d (D.v (Value.func (Fn.func (124 : Nat)) #[] #[])), C.d (D.v (Value.func (Fn.func (125 :
 Nat)) #[] #[])), C.d (D.v Value.nilFunc)], AV.c (C.d (listD ((4 : Nat)) subC sub0 (SRel.subs r)))])))), [])) else none)) else none)) else none)) else none) := by kernel_rfl
noncomputable def o113 : Orc := Orc.cons 112 (inl Tryz.prog (Orc.cons 108 (inl Tryz.prog Orc.nil na 1 Tryz.f108) Orc.nil) na 1 Tryz.f112) Orc.nil
noncomputable def ann141 : Ann := annOf [(2, ⟨[0, 1, 7, 8], []⟩)]
noncomputable def L141_2 (l : List SSet) (g m : Nat) (i8 : Int) := LK Tryz.prog o113 ann141 (List.length (α := Nat × Blk) []) g Tryz.f141 2 m ⟨frm [(0, AV.c (C.d (listD 2 setC set0 l))), (1, AV.c (C.d (D.v (Value.func (Fn.func (112 : FuncId)) #[] #[])))), (7, AV.c (C.d (D.v (Value.int IntKind.i64 (↑(List.length l) : Int))))), (8, AV.c (C.d (D.v (Value.int IntKind.i64 i8))))] 0 Tryz.f141.ntmps, [], 0⟩
theorem b141 : Tryz.f141.body = some (bodyOf Tryz.f141) := by kernel_rfl
set_option maxRecDepth 100000 in
theorem ev141 (l : List SSet) (g : Nat) : callC Tryz.prog o113 ann141 g Tryz.f141 (bodyOf Tryz.f141) [.c (.d (setsD l)), .c (.d (dF 112))] [] =
 L141_2 l g g ((0 : Int)) := by kernel_rfl
set_option maxRecDepth 100000 in
theorem st141_2 (l : List SSet) (g m : Nat) (i8 : Int) : L141_2 l g (m + 1) i8 =
 (bif decide (i8 < (↑(List.length l) : Int)) then (bif decide ((0 : Int) ≤ i8) && decide (i8 < (↑(List.length l) : Int)) then (bif decide ((↑(List.length (SSet.sigs (List.getD l
 (Int.toNat i8) set0))) : Int) ≥ (1 : Int)) then (bif !decide ((↑(List.length (SSet.sigs (List.getD l (Int.toNat i8) set0))) : Int) ≤ (24 : Int)) then some (T.leaf (AV.c (C.d (D.v
 (Value.int IntKind.i64 i8))), [])) else L141_2 l g m (IntKind.wrap IntKind.i64 (i8 + (1 : Int)))) else some (T.leaf (AV.c (C.d (D.v (Value.int IntKind.i64 i8))), []))) else none)
 else some (T.leaf (AV.c (C.d (D.v (Value.int IntKind.i64 (-1 : Int)))), []))) := by kernel_rfl
noncomputable def o84 (oki : List AV → Bool) (ix : List AV → Int) : Orc := Orc.cons 113 (inl Tryz.prog (Orc.cons 141 (ansG oki fun x => vI (ix x)) Orc.nil) na 1 Tryz.f113) Orc.nil
noncomputable def ann84 : Ann := annOf []
theorem b84 : Tryz.f84.body = some (bodyOf Tryz.f84) := by kernel_rfl
set_option maxRecDepth 100000 in
theorem ev84 (oki : List AV → Bool) (ix : List AV → Int) (r : SRel) (g : Nat) : callC Tryz.prog (o84 oki ix) ann84 g Tryz.f84 (bodyOf Tryz.f84) [aRel r] [] =
 (bif decide ((↑(List.length (SRel.rules r)) : Int) ≤ (16 : Int)) then (bif decide ((↑(List.length (SRel.sets r)) : Int) ≤ (4 : Int)) then (bif decide ((↑(List.length (SRel.pubs r))
 : Int) ≤ (4 : Int)) then (bif decide ((↑(List.length (SRel.subs r)) : Int) ≤ (24 : Int)) then (bif oki [AV.c (C.d (listD ((2 : Nat)) setC set0 (SRel.sets r))), AV.c (C.d (D.v
 (Value.func (Fn.func (112 : Nat)) #[] #[])))] then some (T.leaf (AV.c (C.d (D.v (Value.bool !decide (ix [AV.c (C.d (listD ((2 : Nat)) setC set0 (SRel.sets r))), AV.c (C.d (D.v
 (Value.func (Fn.func (112 : Nat)) #[] #[])))] ≥ (0 : Int))))), [])) else none) else some (T.leaf (AV.c (C.d (D.v (Value.bool false))), []))) else some (T.leaf (AV.c (C.d (D.v
 (Value.bool false))), []))) else some (T.leaf (AV.c (C.d (D.v (Value.bool false))), []))) else some (T.leaf (AV.c (C.d (D.v (Value.bool false))), []))) := by kernel_rfl
end Go.Proofs.YtngoglhlhlfknaaGreat.se
