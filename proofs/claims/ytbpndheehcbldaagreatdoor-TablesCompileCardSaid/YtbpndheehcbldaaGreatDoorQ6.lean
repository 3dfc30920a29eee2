/-
  An evaluator of Go code on abstract values, proved sound, and what it computes of the functions that the statement reaches (part 6). No condition.
-/
import Derived.Test.YtbpndheehcbldaaGreatDoorQ5
noncomputable section
open Go.Proofs.Tryz
set_option maxRecDepth 100000
namespace Go.Proofs.YtbpndheehcbldaaGreatDoor.se
open Go.RowKit Go.Eb
abbrev U4 (x : SRule) : AV := .agg ((D1 x).map .d)
abbrev aSet (x : SSet) : AV := .agg ((setC x).map .d)
abbrev aPub (x : SPub) : AV := .agg ((pubC x).map .d)
abbrev aSub (x : SSub) : AV := .agg ((subC x).map .d)
abbrev dF (f : FuncId) : D := .v (.func (.func f) #[] #[])
abbrev dNF : D := .v .nilFunc
theorem Ahs (s : ByteArray) : Al prog Orc.nil na 5 f195 (Ad f195) [vS s] [] =
 (bif s.toList == ByteArray.toList (⟨#[116, 114, 117, 101]⟩) then (bif s.toList == ByteArray.toList (⟨#[116, 114, 117, 101]⟩) then leB true else leB false) else (bif s.toList ==
 ByteArray.toList (⟨#[102, 97, 108, 115, 101]⟩) then (bif s.toList == ByteArray.toList (⟨#[102, 97, 108, 115, 101]⟩) then leB true else leB false) else (bif s.toList ==
 ByteArray.toList (⟨#[110, 111, (116 : UInt8)]⟩) then (bif s.toList == ByteArray.toList (⟨#[110, 111, 116]⟩) then leB true else leB false) else (bif s.toList == ByteArray.toList
 (⟨#[97, 110, 100]⟩) then (bif s.toList == ByteArray.toList (⟨#[97, 110, 100]⟩) then leB true else leB false) else (bif s.toList == ByteArray.toList (⟨#[111, 114]⟩) then (bif
 s.toList == ByteArray.toList (⟨#[111, 114]⟩) then leB true else leB false) else (bif s.toList == ByteArray.toList (⟨#[120, 111, 114]⟩) then (bif s.toList == ByteArray.toList
 (⟨#[120, 111, 114]⟩) then leB true else leB false) else (bif s.toList == ByteArray.toList (⟨#[109, 105, 110]⟩) then (bif s.toList == ByteArray.toList (⟨#[109, 105, 110]⟩) then leB
 true else leB false) else (bif s.toList == ByteArray.toList (⟨#[109, 97, 120]⟩) then (bif s.toList == ByteArray.toList (⟨#[109, 97, (120 : UInt8)]⟩) then leB true else leB false)
 else (bif s.toList == ByteArray.toList (⟨#[97, 98, 115]⟩) then (bif s.toList == ByteArray.toList (⟨#[97, 98, 115]⟩) then leB true else leB false) else (bif s.toList ==
 ByteArray.toList (⟨#[(105 : UInt8), 102]⟩) then (bif s.toList == ByteArray.toList (⟨#[105, 102]⟩) then leB true else leB false) else (bif s.toList == ByteArray.toList (⟨#[114, 105,
 115, (101 : UInt8)]⟩) then (bif s.toList == ByteArray.toList (⟨#[114, 105, 115, 101]⟩) then leB true else leB false) else (bif s.toList == ByteArray.toList (⟨#[102, 97, (108 :
 UInt8), 108]⟩) then (bif s.toList == ByteArray.toList (⟨#[102, 97, 108, 108]⟩) then leB true else leB false) else (bif s.toList == ByteArray.toList (⟨#[100, (101 : UInt8), 108, 97,
 121]⟩) then (bif s.toList == ByteArray.toList (⟨#[100, 101, 108, 97, (121 : UInt8)]⟩) then leB true else leB false) else (bif s.toList == ByteArray.toList (⟨#[104, 111, 108, 100]⟩)
 then (bif s.toList == ByteArray.toList (⟨#[104, 111, (108 : UInt8), 100]⟩) then leB true else leB false) else (bif s.toList == ByteArray.toList (⟨#[108, 97, 116, 99, 104]⟩) then
 (bif s.toList == ByteArray.toList (⟨#[(108 : UInt8), 97, 116, 99, 104]⟩) then leB true else leB false) else (bif s.toList == ByteArray.toList (⟨#[99, 111, 117, 110, 116]⟩) then leB
 true else leB false)))))))))))))))) := by kernel_rfl
def Cu (s : ByteArray) : Bool :=
 (bif ByteArray.toList s == ByteArray.toList (ByteArray.mk #[(116 : UInt8), (114 : UInt8), (117 : UInt8), (101 : UInt8)]) then (bif ByteArray.toList s == ByteArray.toList
 (ByteArray.mk #[(116 : UInt8), (114 : UInt8), (117 : UInt8), (101 : UInt8)]) then (true) else (false)) else (bif ByteArray.toList s == ByteArray.toList (ByteArray.mk #[(102 :
 UInt8), (97 : UInt8), (108 : UInt8), (115 : UInt8), (101 : UInt8)]) then (bif ByteArray.toList s == ByteArray.toList (ByteArray.mk #[(102 : UInt8), (97 : UInt8), (108 : UInt8), (115
 : UInt8), (101 : UInt8)]) then (true) else (false)) else (bif ByteArray.toList s == ByteArray.toList (ByteArray.mk #[(110 : UInt8), (111 : UInt8), (116 : UInt8)]) then (bif
 ByteArray.toList s == ByteArray.toList (ByteArray.mk #[(110 : UInt8), (111 : UInt8), (116 : UInt8)]) then (true) else (false)) else (bif ByteArray.toList s == ByteArray.toList
 (ByteArray.mk #[(97 : UInt8), (110 : UInt8), (100 : UInt8)]) then (bif ByteArray.toList s == ByteArray.toList (ByteArray.mk #[(97 : UInt8), (110 : UInt8), (100 : UInt8)]) then
 (true) else (false)) else (bif ByteArray.toList s == ByteArray.toList (ByteArray.mk #[(111 : UInt8), (114 : UInt8)]) then (bif ByteArray.toList s == ByteArray.toList (ByteArray.mk
 #[(111 : UInt8), (114 : UInt8)]) then (true) else (false)) else (bif ByteArray.toList s == ByteArray.toList (ByteArray.mk #[(120 : UInt8), (111 : UInt8), (114 : UInt8)]) then (bif
 ByteArray.toList s == ByteArray.toList (ByteArray.mk #[(120 : UInt8), (111 : UInt8), (114 : UInt8)]) then (true) else (false)) else (bif ByteArray.toList s == ByteArray.toList
 (ByteArray.mk #[(109 : UInt8), (105 : UInt8), (110 : UInt8)]) then (bif ByteArray.toList s == ByteArray.toList (ByteArray.mk #[(109 : UInt8), (105 : UInt8), (110 : UInt8)]) then
 (true) else (false)) else (bif ByteArray.toList s == ByteArray.toList (ByteArray.mk #[(109 : UInt8), (97 : UInt8), (120 : UInt8)]) then (bif ByteArray.toList s == ByteArray.toList
 (ByteArray.mk #[(109 : UInt8), (97 : UInt8), (120 : UInt8)]) then (true) else (false)) else (bif ByteArray.toList s == ByteArray.toList (ByteArray.mk #[(97 : UInt8), (98 : UInt8),
 (115 : UInt8)]) then (bif ByteArray.toList s == ByteArray.toList (ByteArray.mk #[(97 : UInt8), (98 : UInt8), (115 : UInt8)]) then (true) else (false)) else (bif ByteArray.toList s
 == ByteArray.toList (ByteArray.mk #[(105 : UInt8), (102 : UInt8)]) then (bif ByteArray.toList s == ByteArray.toList (ByteArray.mk #[(105 : UInt8), (102 : UInt8)]) then (true) else
 (false)) else (bif ByteArray.toList s == ByteArray.toList (ByteArray.mk #[(114 : UInt8), (105 : UInt8), (115 : UInt8), (101 : UInt8)]) then (bif ByteArray.toList s ==
 ByteArray.toList (ByteArray.mk #[(114 : UInt8), (105 : UInt8), (115 : UInt8), (101 : UInt8)]) then (true) else (false)) else (bif ByteArray.toList s == ByteArray.toList
 (ByteArray.mk #[(102 : UInt8), (97 : UInt8), (108 : UInt8), (108 : UInt8)]) then (bif ByteArray.toList s == ByteArray.toList (ByteArray.mk #[(102 : UInt8), (97 : UInt8), (108 :
 UInt8), (108 : UInt8)]) then (true) else (false)) else (bif ByteArray.toList s == ByteArray.toList (ByteArray.mk #[(100 : UInt8), (101 : UInt8), (108 : UInt8), (97 : UInt8), (121 :
 UInt8)]) then (bif ByteArray.toList s == ByteArray.toList (ByteArray.mk #[(100 : UInt8), (101 : UInt8), (108 : UInt8), (97 : UInt8), (121 : UInt8)]) then (true) else (false)) else
 (bif ByteArray.toList s == ByteArray.toList (ByteArray.mk #[(104 : UInt8), (111 : UInt8), (108 : UInt8), (100 : UInt8)]) then (bif ByteArray.toList s == ByteArray.toList
 (ByteArray.mk #[(104 : UInt8), (111 : UInt8), (108 : UInt8), (100 : UInt8)]) then (true) else (false)) else (bif ByteArray.toList s == ByteArray.toList (ByteArray.mk #[(108 :
 UInt8), (97 : UInt8), (116 : UInt8), (99 : UInt8), (104 : UInt8)]) then (bif ByteArray.toList s == ByteArray.toList (ByteArray.mk #[(108 : UInt8), (97 : UInt8), (116 : UInt8), (99 :
 UInt8), (104 : UInt8)]) then (true) else (false)) else (bif ByteArray.toList s == ByteArray.toList (ByteArray.mk #[(99 : UInt8), (111 : UInt8), (117 : UInt8), (110 : UInt8), (116 :
 UInt8)]) then (true) else (false)))))))))))))))))
theorem Alf (s : ByteArray) : Al prog Orc.nil na 5 f195 (Ad f195) [vS s] [] = some (.leaf (vB (Cu s), [])) := by
 rw [Ahs]
 unfold Cu
 simp only [Gs]
def AfM : Ann := A4 [(4, ⟨[1, 11, 12], []⟩)]
def Xm (x : SRule) (g m : Nat) (i12 : Int) := LK prog Orc.nil AfM 0 g f197 4 m ⟨frm [(1, .c (.ptr 0 0)), (11, iA (↑(ByteArray.size (SRule.text x)) : Int)), (12, iA i12)] 0 f197.ntmps, [(0, Blk.cells (List.map C.d (D1 x)) 136)], 1⟩
theorem b117 : f197.body = some (Ad f197) := by kernel_rfl
theorem Ald (x : SRule) (g : Nat) : Al prog Orc.nil AfM g f197 (Ad f197) [U4 x] [] =
 (bif decide ((↑(ByteArray.size x.text) : Int) > 120) then leI 4 else Xm x g g 0) := by kernel_rfl
theorem Agq (x : SRule) (g m : Nat) (i12 : Int) : Xm x g (m + 1) i12 =
 (bif decide (i12 < (↑(ByteArray.size x.text) : Int)) then (bif decide (0 <= i12) && decide (i12 < (↑(ByteArray.size x.text) : Int)) then (bif decide ((↑(UInt8.toNat ((Array.toList
 (ByteArray.data x.text)).getD i12.toNat 0)) : Int) < 32) then leI 5 else (bif decide ((↑(UInt8.toNat ((Array.toList (ByteArray.data x.text)).getD i12.toNat 0)) : Int) > 126) then
 leI 5 else (bif (↑(UInt8.toNat ((Array.toList (ByteArray.data x.text)).getD i12.toNat 0)) : Int) == 34 then leI 5 else Xm x g m (IntKind.wrap .i64 (i12 + 1))))) else none) else leI
 0) := by kernel_rfl
theorem Ahq (x : SPub) : Al prog (Orc.cons 189 (inl prog Orc.nil na 1 f189) Orc.nil) na 5 f203 (Ad f203) [aPub x] [] =
 (bif decide (x.fst >= 1) then (bif !decide (x.fst <= 100) then leI 2 else (bif decide (x.max >= x.fst) then (bif !decide (x.max <= 1000) then leI 2 else leI 0) else leI 2)) else leI 2) := by kernel_rfl
def Dr (x : SPub) : Int :=
 (bif decide (SPub.fst x >= (1 : Int)) then (bif !decide (SPub.fst x <= (100 : Int)) then ((2 : Int)) else (bif decide (SPub.max x >= SPub.fst x) then (bif !decide (SPub.max x <= (1000 :
 Int)) then ((2 : Int)) else ((0 : Int))) else ((2 : Int)))) else ((2 : Int)))
theorem AkZ (x : SPub) : Al prog (Orc.cons 189 (inl prog Orc.nil na 1 f189) Orc.nil) na 5 f203 (Ad f203) [aPub x] [] = some (.leaf (vI (Dr x), [])) := by
 rw [Ahq]
 unfold Dr
 simp only [Akh]
def oN (nk : ByteArray -> Bool) (r : Orc) : Orc := Orc.cons 65 (ansP decS fun s => vB (nk s)) r
def o147 (nk : ByteArray -> Bool) : Orc := Orc.cons 228 (inl prog (oN nk Orc.nil) na 1 f228) Orc.nil
def AfF : Ann := A4 [(2, ⟨[0, 1, 7, 8], []⟩)]
def Xg (nk : ByteArray -> Bool) (l : List ByteArray) (g m : Nat) (i8 : Int) := LK prog (o147 nk) AfF 0 g f242 2 m ⟨frm [(0, .c (.d (Aa 1 busC e0 l))), (1, .c (.d (D.v (Value.func (Fn.func (228 : FuncId)) #[] #[])))), (7, iA (↑(List.length l) : Int)), (8, iA i8)] 0 f242.ntmps, [], 0⟩
theorem b147 : f242.body = some (Ad f242) := by kernel_rfl
theorem AkP (nk : ByteArray -> Bool) (l : List ByteArray) (g : Nat) : Al prog (o147 nk) AfF g f242 (Ad f242) [.c (.d (Ab l)), .c (.d (dF 228))] [] =
 Xg nk l g g 0 := by kernel_rfl
theorem Zt (nk : ByteArray -> Bool) (l : List ByteArray) (g m : Nat) (i8 : Int) : Xg nk l g (m + 1) i8 =
 (bif decide (i8 < (↑l.length : Int)) then (bif decide (0 <= i8) && decide (i8 < (↑l.length : Int)) then (bif !nk (l.getD i8.toNat e0) then leI i8 else Xg nk l g m (IntKind.wrap .i64
 (i8 + 1))) else none) else leI (-1)) := by kernel_rfl
def o119 (oki : LB) (ix : LI) : Orc := Orc.cons 242 (ansG oki fun x => vI (ix x)) Orc.nil
def o142 (oki : LB) (ix : LI) : Orc := Orc.cons 227 (inl prog (o119 oki ix) na 1 f227) Orc.nil
def AjL : Ann := A4 []
theorem b119 : f199.body = some (Ad f199) := by kernel_rfl
theorem Alb (oki : LB) (ix : LI) (l : List ByteArray) (g : Nat) : Al prog (o142 oki ix) AjL g f199 (Ad f199) [.c (.d (Ab l))] [] =
 (bif oki [AV.c (C.d (Aa (1) busC e0 l)), AV.c (C.d (D.v (Value.func (Fn.func 228) #[] #[])))] then leB !decide (ix [AV.c (C.d (Aa (1) busC e0 l)), AV.c (C.d (D.v (Value.func
 (Fn.func 228) #[] #[])))] >= 0) else none) := by kernel_rfl
def o114 (nk rs : ByteArray -> Bool) : Orc := oN nk (Orc.cons 195 (ansP decS fun s => vB (rs s)) Orc.nil)
theorem Aht (nk rs : ByteArray -> Bool) (x : SRule) : Al prog (o114 nk rs) na 5 f194 (Ad f194) [U4 x] [] =
 (bif nk x.name then leB !rs x.name else leB false) := by kernel_rfl
def Un (nk rs : ByteArray -> Bool) (x : SRule) : Bool :=
 (bif nk (SRule.name x) then (!rs (SRule.name x)) else (false))
theorem Alg (nk rs : ByteArray -> Bool) (x : SRule) : Al prog (o114 nk rs) na 5 f194 (Ad f194) [U4 x] [] = some (.leaf (vB (Un nk rs x), [])) := by
 rw [Aht]
 unfold Un
 simp only [Gs]
def o118 (nk : ByteArray -> Bool) (okn nm : LB) : Orc := oN nk (Orc.cons 199 (ansG okn fun x => vB (nm x)) Orc.nil)
def AjM : Ann := A4 []
theorem b118 : f198.body = some (Ad f198) := by kernel_rfl
theorem Alc (nk : ByteArray -> Bool) (okn nm : LB) (x : SSet) (g : Nat) : Al prog (o118 nk okn nm) AjM g f198 (Ad f198) [aSet x] [] =
 (bif nk x.name then (bif okn [AV.c (C.d (Aa (1) busC e0 x.sigs))] then leB (nm [AV.c (C.d (Aa (1) busC e0 x.sigs))]) else none) else leB false) := by kernel_rfl
theorem Ahr (nk : ByteArray -> Bool) (x : SPub) : Al prog (oN nk Orc.nil) na 5 f201 (Ad f201) [aPub x] [] =
 leB (nk x.set) := by kernel_rfl
def Abw (nk : ByteArray -> Bool) (x : SPub) : Bool :=
 ((nk (SPub.set x)))
theorem Ala (nk : ByteArray -> Bool) (x : SPub) : Al prog (oN nk Orc.nil) na 5 f201 (Ad f201) [aPub x] [] = some (.leaf (vB (Abw nk x), [])) := by
 rw [Ahr]
 unfold Abw
 simp only [Gs]
def o124 (nk : ByteArray -> Bool) : Orc := Orc.cons 199 (inl prog (Orc.cons 227 (inl prog (Orc.cons 242 (inl prog (o147 nk) na 6 f242) Orc.nil) na 1 f227) Orc.nil) na 1 f199) Orc.nil
def AjK : Ann := A4 []
theorem b124 : f204.body = some (Ad f204) := by kernel_rfl
theorem AkY (nk : ByteArray -> Bool) (x : SSub) (g : Nat) : Al prog (o124 nk) AjK g f204 (Ad f204) [aSub x] [] =
 (bif !nk x.loc then leB false else (bif !nk x.dev then leB false else (bif !nk x.set then leB false else (bif !nk x.sig then leB false else leB true)))) := by kernel_rfl
def o126 (okv va okt : LB) (rt : LI) : Orc := Orc.cons 194 (ansG okv fun x => vB (va x)) (Orc.cons 196 (inl prog Orc.nil na 1 f196) (Orc.cons 197 (ansG okt fun x => vI (rt x)) Orc.nil))
def AfL : Ann := A4 [(3, ⟨[2, 5, 10, 11, 12], []⟩)]
def Xl (okv va okt : LB) (rt : LI) (l : List SRule) (g m : Nat) (l1 : MV) (i12 : Int) := LK prog (o126 okv va okt rt) AfL 0 g f206 3 m ⟨frm [(2, .c (.ptr 0 0)), (5, .c (.mp 1)), (10, .c (.d (Aa 2 D1 Bb l))), (11, iA (↑(List.length l) : Int)), (12, iA i12)] 0 f206.ntmps, [(0, Blk.cells [C.d (D.v (Value.func (Fn.func (194 : FuncId)) #[] #[])), C.d (D.v (Value.func (Fn.func (196 : FuncId)) #[] #[])), C.d (D.v (Value.func (Fn.func (197 : FuncId)) #[] #[]))] 264), (1, Blk.map 0 l1)], 2⟩
theorem b126 : f206.body = some (Ad f206) := by kernel_rfl
theorem AkX (okv va okt : LB) (rt : LI) (l : List SRule) (g : Nat) : Al prog (o126 okv va okt rt) AfL g f206 (Ad f206) [.agg [.d (dF 194), .d (dF 196), .d (dF 197)], .c (.d (L6 l))] [] =
 Xl okv va okt rt l g g ([]) 0 := by kernel_rfl
theorem Zy (okv va okt : LB) (rt : LI) (l : List SRule) (g m : Nat) (l1 : MV) (i12 : Int) : Xl okv va okt rt l g (m + 1) l1 i12 =
 (bif decide (i12 < (↑l.length : Int)) then (bif decide (0 <= i12) && decide (i12 < (↑l.length : Int)) then (bif okv [gA (D1 (l.getD i12.toNat Bb))] then (bif !va
 [gA (D1 (l.getD i12.toNat Bb))] then leI 7 else (bif B0 (A2 l1 (Value.string (SRule.name (l.getD i12.toNat Bb)))) then leI 8 else (bif okt [AV.agg (List.map C.d
 (D1 (l.getD i12.toNat Bb)))] then (bif rt [gA (D1 (l.getD i12.toNat Bb))] != 0 then leI (rt [gA (D1 (l.getD i12.toNat Bb))]) else Xl okv va
 okt rt l g m ((Value.string (SRule.name (l.getD i12.toNat Bb)), Value.bool true) :: l1) (IntKind.wrap .i64 (i12 + 1))) else none))) else none) else none) else leI 0) := by kernel_rfl
def o127 (okv va : LB) : Orc := Orc.cons 198 (ansG okv fun x => vB (va x)) (Orc.cons 200 (inl prog Orc.nil na 1 f200) Orc.nil)
def AfK : Ann := A4 [(3, ⟨[2, 5, 10, 11, 12], []⟩)]
def Xk (okv va : LB) (l : List SSet) (g m : Nat) (l1 : MV) (i12 : Int) := LK prog (o127 okv va) AfK 0 g f207 3 m ⟨frm [(2, .c (.ptr 0 0)), (5, .c (.mp 1)), (10, .c (.d (Aa 2 setC set0 l))), (11, iA (↑(List.length l) : Int)), (12, iA i12)] 0 f207.ntmps, [(0, Blk.cells [C.d (D.v (Value.func (Fn.func (198 : FuncId)) #[] #[])), C.d (D.v (Value.func (Fn.func (200 : FuncId)) #[] #[])), C.d (D.v Value.nilFunc)] 269), (1, Blk.map 0 l1)], 2⟩
theorem b127 : f207.body = some (Ad f207) := by kernel_rfl
theorem AkW (okv va : LB) (l : List SSet) (g : Nat) : Al prog (o127 okv va) AfK g f207 (Ad f207) [.agg [.d (dF 198), .d (dF 200), .d dNF], .c (.d (J9 l))] [] =
 Xk okv va l g g ([]) 0 := by kernel_rfl
theorem Zx (okv va : LB) (l : List SSet) (g m : Nat) (l1 : MV) (i12 : Int) : Xk okv va l g (m + 1) l1 i12 =
 (bif decide (i12 < (↑l.length : Int)) then (bif decide (0 <= i12) && decide (i12 < (↑l.length : Int)) then (bif okv [gA (setC (l.getD i12.toNat set0))] then (bif
 !va [gA (setC (l.getD i12.toNat set0))] then leI 7 else (bif B0 (A2 l1 (Value.string (SSet.name (l.getD i12.toNat set0)))) then leI 8 else Xk okv va l g m
 ((Value.string (SSet.name (l.getD i12.toNat set0)), Value.bool true) :: l1) (IntKind.wrap .i64 (i12 + 1)))) else none) else none) else leI 0) := by kernel_rfl
def o128 (okv va okt : LB) (rt : LI) : Orc := Orc.cons 201 (ansG okv fun x => vB (va x)) (Orc.cons 202 (inl prog Orc.nil na 1 f202) (Orc.cons 203 (ansG okt fun x => vI (rt x)) Orc.nil))
def AfJ : Ann := A4 [(3, ⟨[2, 5, 10, 11, 12], []⟩)]
def Xj (okv va okt : LB) (rt : LI) (l : List SPub) (g m : Nat) (l1 : MV) (i12 : Int) := LK prog (o128 okv va okt rt) AfJ 0 g f208 3 m ⟨frm [(2, .c (.ptr 0 0)), (5, .c (.mp 1)), (10, .c (.d (Aa 3 pubC pub0 l))), (11, iA (↑(List.length l) : Int)), (12, iA i12)] 0 f208.ntmps, [(0, Blk.cells [C.d (D.v (Value.func (Fn.func (201 : FuncId)) #[] #[])), C.d (D.v (Value.func (Fn.func (202 : FuncId)) #[] #[])), C.d (D.v (Value.func (Fn.func (203 : FuncId)) #[] #[]))] 273), (1, Blk.map 0 l1)], 2⟩
theorem b128 : f208.body = some (Ad f208) := by kernel_rfl
theorem AkV (okv va okt : LB) (rt : LI) (l : List SPub) (g : Nat) : Al prog (o128 okv va okt rt) AfJ g f208 (Ad f208) [.agg [.d (dF 201), .d (dF 202), .d (dF 203)], .c (.d (T1 l))] [] =
 Xj okv va okt rt l g g ([]) 0 := by kernel_rfl
theorem Zw (okv va okt : LB) (rt : LI) (l : List SPub) (g m : Nat) (l1 : MV) (i12 : Int) : Xj okv va okt rt l g (m + 1) l1 i12 =
 (bif decide (i12 < (↑l.length : Int)) then (bif decide (0 <= i12) && decide (i12 < (↑l.length : Int)) then (bif okv [gA (pubC (l.getD i12.toNat pub0))] then (bif
 !va [gA (pubC (l.getD i12.toNat pub0))] then leI 7 else (bif B0 (A2 l1 (Value.string (SPub.set (l.getD i12.toNat pub0)))) then leI 8 else (bif okt [AV.agg
 (List.map C.d (pubC (l.getD i12.toNat pub0)))] then (bif rt [gA (pubC (l.getD i12.toNat pub0))] != 0 then leI (rt [gA (pubC (l.getD i12.toNat
 pub0))]) else Xj okv va okt rt l g m ((Value.string (SPub.set (l.getD i12.toNat pub0)), Value.bool true) :: l1) (IntKind.wrap .i64 (i12 + 1))) else none))) else none) else none)
 else leI 0) := by kernel_rfl
def o129 (okv va : LB) : Orc := Orc.cons 204 (ansG okv fun x => vB (va x)) (Orc.cons 205 (inl prog Orc.nil na 1 f205) Orc.nil)
def AfI : Ann := A4 [(3, ⟨[2, 5, 10, 11, 12], []⟩)]
def Xi (okv va : LB) (l : List SSub) (g m : Nat) (l1 : MV) (i12 : Int) := LK prog (o129 okv va) AfI 0 g f209 3 m ⟨frm [(2, .c (.ptr 0 0)), (5, .c (.mp 1)), (10, .c (.d (Aa 4 subC sub0 l))), (11, iA (↑(List.length l) : Int)), (12, iA i12)] 0 f209.ntmps, [(0, Blk.cells [C.d (D.v (Value.func (Fn.func (204 : FuncId)) #[] #[])), C.d (D.v (Value.func (Fn.func (205 : FuncId)) #[] #[])), C.d (D.v Value.nilFunc)] 278), (1, Blk.map 0 l1)], 2⟩
theorem b129 : f209.body = some (Ad f209) := by kernel_rfl
theorem AkU (okv va : LB) (l : List SSub) (g : Nat) : Al prog (o129 okv va) AfI g f209 (Ad f209) [.agg [.d (dF 204), .d (dF 205), .d dNF], .c (.d (Ts l))] [] =
 Xi okv va l g g ([]) 0 := by kernel_rfl
theorem Zv (okv va : LB) (l : List SSub) (g m : Nat) (l1 : MV) (i12 : Int) : Xi okv va l g (m + 1) l1 i12 =
 (bif decide (i12 < (↑l.length : Int)) then (bif decide (0 <= i12) && decide (i12 < (↑l.length : Int)) then (bif okv [gA (subC (l.getD i12.toNat sub0))] then (bif
 !va [gA (subC (l.getD i12.toNat sub0))] then leI 7 else (bif B0 (A2 l1 (Value.string (SSub.loc (l.getD i12.toNat sub0)))) then leI 8 else Xi okv va l g m
 ((Value.string (SSub.loc (l.getD i12.toNat sub0)), Value.bool true) :: l1) (IntKind.wrap .i64 (i12 + 1)))) else none) else none) else leI 0) := by kernel_rfl
def o85 (ok1 ok2 ok3 ok4 : LB) (f1 f2 f3 f4 : LI) : Orc := Orc.cons 206 (ansG ok1 fun x => vI (f1 x)) (Orc.cons 207 (ansG ok2 fun x => vI (f2 x)) (Orc.cons 208 (ansG ok3 fun x => vI (f3 x)) (Orc.cons 209 (ansG ok4 fun x => vI (f4 x)) Orc.nil)))
def Alr : Ann := A4 []
theorem b85 : f140.body = some (Ad f140) := by kernel_rfl
theorem ev85 (ok1 ok2 ok3 ok4 : LB) (f1 f2 f3 f4 : LI) (r : SRel) (g : Nat) : Al prog (o85 ok1 ok2 ok3 ok4 f1 f2 f3 f4) Alr g f140 (Ad f140) [aRel r] [] =
 (bif ok1 [AV.agg [C.d (D.v (Value.func (Fn.func 194) #[] #[])), C.d (D.v (Value.func (Fn.func 196) #[] #[])), C.d (D.v (Value.func (Fn.func 197) #[] #[]))], AV.c (C.d (Aa (2) D1 Bb
 r.rules))] then (bif f1 [AV.agg [C.d (D.v (Value.func (Fn.func 194) #[] #[])), C.d (D.v (Value.func (Fn.func 196) #[] #[])), C.d (D.v (Value.func (Fn.func 197) #[] #[]))], AV.c
 (C.d (Aa (2) D1 Bb r.rules))] != 0 then leI (f1 [AV.agg [C.d (D.v (Value.func (Fn.func 194) #[] #[])), C.d (D.v (Value.func (Fn.func 196) #[] #[])), C.d (D.v (Value.func (Fn.func
 197) #[] #[]))], AV.c (C.d (Aa (2) D1 Bb r.rules))]) else (bif ok2 [AV.agg [C.d (D.v (Value.func (Fn.func 198) #[] #[])), C.d (D.v (Value.func (Fn.func 200) #[] #[])), C.d (D.v
 Value.nilFunc)], AV.c (C.d (Aa (2) setC set0 r.sets))] then (bif f2 [AV.agg [C.d (D.v (Value.func (Fn.func 198) #[] #[])), C.d (D.v (Value.func (Fn.func 200) #[] #[])), C.d (D.v
 Value.nilFunc)], AV.c (C.d (Aa (2) setC set0 r.sets))] != 0 then leI (f2 [AV.agg [C.d (D.v (Value.func (Fn.func 198) #[] #[])), C.d (D.v (Value.func (Fn.func 200) #[] #[])), C.d
 (D.v Value.nilFunc)], AV.c (C.d (Aa (2) setC set0 r.sets))]) else (bif ok3 [AV.agg [C.d (D.v (Value.func (Fn.func 201) #[] #[])), C.d (D.v (Value.func (Fn.func 202) #[] #[])), C.d
 (D.v (Value.func (Fn.func 203) #[] #[]))], AV.c (C.d (Aa (3) pubC pub0 r.pubs))] then (bif f3 [AV.agg [C.d (D.v (Value.func (Fn.func 201) #[] #[])), C.d (D.v (Value.func (Fn.func
 202) #[] #[])), C.d (D.v (Value.func (Fn.func 203) #[] #[]))], AV.c (C.d (Aa ((3 : Nat)) pubC pub0 r.pubs))] != 0 then leI (f3 [AV.agg [C.d (D.v (Value.func (Fn.func 201) #[]
 #[])), C.d (D.v (Value.func (Fn.func 202) #[] #[])), C.d (D.v (Value.func (Fn.func 203) #[] #[]))], AV.c (C.d (Aa (3) pubC pub0 r.pubs))]) else (bif ok4 [AV.agg [C.d (D.v
 (Value.func (Fn.func 204) #[] #[])), C.d (D.v (Value.func (Fn.func 205) #[] #[])), C.d (D.v Value.nilFunc)], AV.c (C.d (Aa (4) subC sub0 r.subs))] then leI (f4 [AV.agg [C.d (D.v
 (Value.func (Fn.func 204) #[] #[])), C.d (D.v (Value.func (Fn.func (205 : Nat)) #[] #[])), C.d (D.v Value.nilFunc)], AV.c (C.d (Aa (4) subC sub0 r.subs))]) else none)) else none))
 else none)) else none) := by kernel_rfl
def o113 : Orc := Orc.cons 192 (inl prog (Orc.cons 189 (inl prog Orc.nil na 1 f189) Orc.nil) na 1 f192) Orc.nil
def AfG : Ann := A4 [(2, ⟨[0, 1, 7, 8], []⟩)]
def Xh (l : List SSet) (g m : Nat) (i8 : Int) := LK prog o113 AfG 0 g f46 2 m ⟨frm [(0, .c (.d (Aa 2 setC set0 l))), (1, .c (.d (D.v (Value.func (Fn.func (192 : FuncId)) #[] #[])))), (7, iA (↑(List.length l) : Int)), (8, iA i8)] 0 f46.ntmps, [], 0⟩
theorem b141 : f46.body = some (Ad f46) := by kernel_rfl
theorem AkQ (l : List SSet) (g : Nat) : Al prog o113 AfG g f46 (Ad f46) [.c (.d (J9 l)), .c (.d (dF 192))] [] =
 Xh l g g 0 := by kernel_rfl
theorem Zu (l : List SSet) (g m : Nat) (i8 : Int) : Xh l g (m + 1) i8 =
 (bif decide (i8 < (↑l.length : Int)) then (bif decide (0 <= i8) && decide (i8 < (↑l.length : Int)) then (bif decide ((↑(SSet.sigs (l.getD i8.toNat set0)).length : Int) >= 1) then
 (bif !decide ((↑(SSet.sigs (l.getD i8.toNat set0)).length : Int) <= 24) then leI i8 else Xh l g m (IntKind.wrap .i64 (i8 + 1))) else leI i8) else none) else leI (-1)) := by kernel_rfl
def o84 (oki : LB) (ix : LI) : Orc := Orc.cons 193 (inl prog (Orc.cons 46 (ansG oki fun x => vI (ix x)) Orc.nil) na 1 f193) Orc.nil
def Als : Ann := A4 []
theorem b84 : f139.body = some (Ad f139) := by kernel_rfl
theorem ev84 (oki : LB) (ix : LI) (r : SRel) (g : Nat) : Al prog (o84 oki ix) Als g f139 (Ad f139) [aRel r] [] =
 (bif decide ((↑r.rules.length : Int) <= 16) then (bif decide ((↑r.sets.length : Int) <= 4) then (bif decide ((↑r.pubs.length : Int) <= 4) then (bif decide ((↑r.subs.length : Int) <=
 24) then (bif oki [AV.c (C.d (Aa (2) setC set0 r.sets)), AV.c (C.d (D.v (Value.func (Fn.func 192) #[] #[])))] then leB !decide (ix [AV.c (C.d (Aa (2) setC set0 r.sets)), AV.c (C.d
 (D.v (Value.func (Fn.func 192) #[] #[])))] >= 0) else none) else leB false) else leB false) else leB false) else leB false) := by kernel_rfl
end Go.Proofs.YtbpndheehcbldaaGreatDoor.se
namespace Go.Proofs.YtbpndheehcbldaaGreatDoor.se
open Go.RowKit Go.Eb Go.Proofs.YtbpndheehcbldaaGreatDoor.st
theorem sN {r : Orc} (h : OrcS prog r) : OrcS prog (oN Ae r) := .cons (.p Em c15) h
theorem sW : OrcS prog (Orc.cons 189 (inl prog Orc.nil na 1 f189) Orc.nil) := .cons (.inl .nil func189 (by kernel_rfl)) .nil
def eFn (f : FuncId) : Unit -> AV := fun _ => .c (.d (dF f))
theorem AbO (f : FuncId) : InjA (eFn f) := fun _ _ _ => rfl
abbrev eBus := aD Ab
theorem Wj : InjA eBus := S3 (At (sz := 1) (d0 := e0) B9)
theorem Aco : InjA U4 := Le Jg
theorem Aed : InjA aSet := Le Gx
theorem Aee : InjA aPub := Le Ji
theorem Aeb : InjA aSub := Le E7
theorem c115 (s : ByteArray) : CX prog 195 [vS s] [] (vB (Cu s)) [] := Ax (Orc.nil_ok _) func195 (by kernel_rfl) rfl (Alf s)
theorem c123 (x : SPub) : CX prog 203 [aPub x] [] (vI (Dr x)) [] := Ax sW.ok func203 (by kernel_rfl) rfl (AkZ x)
theorem AiQ (x : SRule) (g : Nat) (hs : x.text.size <= 120) : ∀ (m k : Nat), k <= x.text.size -> x.text.size - k < m -> Xm x g m k = lN (bif (x.text.data.toList.drop k).any Kp then 5 else 0)
 | 0, k, _, h => by omega
 | m + 1, k, hk, h => by
  rw [Agq]
  by_cases hlt : k < x.text.size
  ·have hl : k < x.text.data.toList.length := by simpa using hlt
   have ih := AiQ x g hs m (k + 1) (by omega) (by omega)
   rw [Am (d := 0) hl]
   rw [lt1 hlt, ge0, tn, nx hlt (by omega), ih]
   simp only [tt, cond_true, List.any_cons, Kp]
   generalize decide (((x.text.data.toList.getD k 0).toNat : Int) < 32) = a1
   generalize decide (((x.text.data.toList.getD k 0).toNat : Int) > 126) = a2
   generalize (((x.text.data.toList.getD k 0).toNat : Int) == 34) = a3
   cases a1 <;> cases a2 <;> cases a3 <;> rfl
  ·rw [lt0 hlt, List.drop_of_length_le (by simp; omega)]
   rfl
theorem c117 (x : SRule) : CX prog 197 [U4 x] [] (vI (Ej x.text)) [] := by
 obtain ⟨g, hg⟩ : ∃ g, x.text.size < g := ⟨x.text.size + 1, by omega⟩
 refine Ax (Orc.nil_ok _) func197 b117 rfl ((Ald x g).trans ?_)
 have e : decide ((x.text.size : Int) > 120) = decide (120 < x.text.size) := by
  rw [Bool.eq_iff_iff, decide_eq_true_eq, decide_eq_true_eq]; omega
 unfold Ej
 rw [e]
 cases h1 : decide (120 < x.text.size) with
 | true => rfl
 | false =>
  have hs : x.text.size <= 120 := by simp at h1; omega
  have := AiQ x g hs g 0 (by omega) (by omega)
  simp only [cond_false]
  exact this
theorem s147 : OrcS prog (o147 Ae) := .cons (.inl (sN .nil) func228 (by kernel_rfl)) .nil
theorem c147 (l : List ByteArray) (hl : l.length <= 9223372036854775807) : CX prog 242 [.c (.d (Ab l)), .c (.d (dF 228))] [] (vI (idxP (fun s => !Ae s) 0 l)) [] := by
 obtain ⟨g, hg⟩ : ∃ g, l.length < g := ⟨l.length + 1, by omega⟩
 refine Ax s147.ok func242 b147 rfl ((AkP Ae l g).trans ?_)
 have := Jv (p := fun s => !Ae s) (l := l) (d0 := e0) (L := fun m i => Xg Ae l g m i) (fun m k hk => by
  rw [Zt, lt1 hk, ge0, tn, nx hk hl]
  simp only [tt, cond_true]) (fun m => by rw [Zt, lt0 (Nat.lt_irrefl _)]; rfl) g 0 (by omega) (by omega)
 exact this
abbrev eNm := en2 eBus (eFn 228)
theorem eNm_inj : InjT eNm := Mw Wj (AbO _)
def cLen {α β : Type} (a : List α × β) : Bool := Ak a.1
theorem s142 : OrcS prog (o142 (okG eNm cLen) fun x => idxP (fun s => !Ae s) 0 (theT eNm x).1) :=
 .cons (.inl (.cons (.t' (r := fun (a : List ByteArray × Unit) => vI (idxP (fun s => !Ae s) 0 a.1)) fun a h => c147 a.1 (A7 h)) .nil) func227 (by kernel_rfl)) .nil
theorem Afh (l : List ByteArray) : (!l.any fun s => !Ae s) = l.all Ae := by
 induction l with
 | nil => rfl
 | cons x r ih => simp only [List.any_cons, List.all_cons, Bool.not_or, ih, Bool.not_not]
theorem c119 (l : List ByteArray) (hl : Ak l = true) : CX prog 199 [.c (.d (Ab l))] [] (vB (l.all Ae)) [] := by
 refine Ax s142.ok func199 b119 rfl ((Alb _ _ l 1).trans ?_)
 have k := Aj eNm_inj (c := cLen) (l, ()) hl
 have t := Ag eNm_inj (l, ())
 simp only [en2, aD, eFn] at k t
 rw [k, t, Mp, Afh]
 rfl
def He (x : SRule) : Bool := Ae x.name && !Cu x.name
def Nv (x : SSet) : Bool := Ae x.name && x.sigs.all Ae
def Qd (x : SPub) : Bool := Ae x.set
def Nu (x : SSub) : Bool := Ae x.loc && (Ae x.dev && (Ae x.set && Ae x.sig))
theorem c114 (x : SRule) : CX prog 194 [U4 x] [] (vB (He x)) [] := by
 refine Ax (sN (.cons (.p Em c115) .nil)).ok func194 (by kernel_rfl) rfl ((Alg Ae Cu x).trans ?_)
 unfold Un He
 cases Ae x.name <;> rfl
abbrev eB1 := en1 eBus
theorem AbS : InjT eB1 := Ea Wj
theorem c118 (x : SSet) (hx : Jk x = true) : CX prog 198 [aSet x] [] (vB (Nv x)) [] := by
 refine Ax (sN (.cons (.t' (enc := eB1) (c := Ak) (r := fun a => vB (a.all Ae)) fun a h => c119 a h) .nil)).ok func198 b118 rfl ((Alc Ae (okG eB1 Ak) (fun y => (theT eB1 y).all Ae) x 1).trans ?_)
 have k := Aj AbS (c := Ak) x.sigs hx
 have t := Ag AbS x.sigs
 simp only [en1, aD] at k t
 rw [k, t]
 unfold Nv
 cases Ae x.name <;> rfl
theorem c121 (x : SPub) : CX prog 201 [aPub x] [] (vB (Qd x)) [] := Ax (sN .nil).ok func201 (by kernel_rfl) rfl (Ala Ae x)
theorem s124 : OrcS prog (o124 Ae) := .cons (.inl (.cons (.inl (.cons (.inl s147 func242 (by kernel_rfl)) .nil) func227 (by kernel_rfl)) .nil) func199 (by kernel_rfl)) .nil
theorem c124 (x : SSub) : CX prog 204 [aSub x] [] (vB (Nu x)) [] := by
 refine Ax s124.ok func204 b124 rfl ((AkY Ae x 1).trans ?_)
 unfold Nu
 cases Ae x.loc <;> cases Ae x.dev <;> cases Ae x.set <;> cases Ae x.sig <;> rfl
def c1 {α : Type} (_ : α) : Bool := true
abbrev eRu := en1 U4
abbrev eSe := en1 aSet
abbrev ePu := en1 aPub
abbrev eSu := en1 aSub
theorem AbG : InjT eRu := Ea Aco
theorem AbF : InjT eSe := Ea Aed
theorem AbI : InjT ePu := Ea Aee
theorem AbE : InjT eSu := Ea Aeb
theorem Ss (seen : List ByteArray) (s : ByteArray) : B0 (A2 (Ao seen) (.string s)) = inB seen s := Ck seen s
theorem s126 : OrcS prog (o126 (okG eRu c1) (fun x => He (theT eRu x)) (okG eRu c1) fun x => Ej (theT eRu x).text) :=
 .cons (.t' (r := fun a => vB (He a)) fun a _ => c114 a) (.cons (.inl .nil func196 (by kernel_rfl)) (.cons (.t' (r := fun (a : SRule) => vI (Ej a.text)) fun a _ => c117 a) .nil))
theorem c126 (l : List SRule) (hl : Ak l = true) : CX prog 206 [.agg [.d (dF 194), .d (dF 196), .d (dF 197)], .c (.d (L6 l))] [] (vI (Ct He SRule.name (fun x => Ej x.text) [] l)) [] := by
 obtain ⟨g, hg⟩ : ∃ g, l.length < g := ⟨l.length + 1, by omega⟩
 refine Ax s126.ok func206 b126 rfl ((AkX _ _ _ _ l g).trans ?_)
 have := F4 (valid := He) (key := SRule.name) (rest := fun x => Ej x.text) (l := l) (d0 := Bb) (L := fun m mp i => Xl (okG eRu c1) (fun x => He (theT eRu x)) (okG eRu c1) (fun x => Ej (theT eRu x).text) l g m mp i) (fun m k seen hk => by
  have k1 := Aj AbG (c := c1) (l.getD k Bb) rfl
  have t1 := Ag AbG (l.getD k Bb)
  simp only [en1] at k1 t1
  rw [Zy, lt1 hk, ge0, tn, nx hk (A7 hl), k1, t1, Ss, B3]
  simp only [tt, cond_true]) (fun m mp => by rw [Zy, lt0 (Nat.lt_irrefl _)]; rfl) g 0 [] (by omega) (by omega)
 exact this
theorem s127 : OrcS prog (o127 (okG eSe Jk) fun x => Nv (theT eSe x)) := .cons (.t' (r := fun a => vB (Nv a)) fun a h => c118 a h) (.cons (.inl .nil func200 (by kernel_rfl)) .nil)
def Ro {α : Type} (_ : α) : Int := 0
theorem c127 (l : List SSet) (hl : Ak l = true) (ha : l.all Jk = true) : CX prog 207 [.agg [.d (dF 198), .d (dF 200), .d dNF], .c (.d (J9 l))] [] (vI (Ct Nv SSet.name Ro [] l)) [] := by
 obtain ⟨g, hg⟩ : ∃ g, l.length < g := ⟨l.length + 1, by omega⟩
 refine Ax s127.ok func207 b127 rfl ((AkW _ _ l g).trans ?_)
 have := F4 (valid := Nv) (key := SSet.name) (rest := Ro) (l := l) (d0 := set0) (L := fun m mp i => Xk (okG eSe Jk) (fun x => Nv (theT eSe x)) l g m mp i) (fun m k seen hk => by
  have k1 := Aj AbF (c := Jk) (l.getD k set0) (Dv ha rfl k)
  have t1 := Ag AbF (l.getD k set0)
  simp only [en1] at k1 t1
  rw [Zx, lt1 hk, ge0, tn, nx hk (A7 hl), k1, t1, Ss, B3]
  simp only [tt, cond_true]
  rfl) (fun m mp => by rw [Zx, lt0 (Nat.lt_irrefl _)]; rfl) g 0 [] (by omega) (by omega)
 exact this
theorem s128 : OrcS prog (o128 (okG ePu c1) (fun x => Qd (theT ePu x)) (okG ePu c1) fun x => Dr (theT ePu x)) :=
 .cons (.t' (r := fun a => vB (Qd a)) fun a _ => c121 a) (.cons (.inl .nil func202 (by kernel_rfl)) (.cons (.t' (r := fun (a : SPub) => vI (Dr a)) fun a _ => c123 a) .nil))
theorem c128 (l : List SPub) (hl : Ak l = true) : CX prog 208 [.agg [.d (dF 201), .d (dF 202), .d (dF 203)], .c (.d (T1 l))] [] (vI (Ct Qd SPub.set Dr [] l)) [] := by
 obtain ⟨g, hg⟩ : ∃ g, l.length < g := ⟨l.length + 1, by omega⟩
 refine Ax s128.ok func208 b128 rfl ((AkV _ _ _ _ l g).trans ?_)
 have := F4 (valid := Qd) (key := SPub.set) (rest := Dr) (l := l) (d0 := pub0) (L := fun m mp i => Xj (okG ePu c1) (fun x => Qd (theT ePu x)) (okG ePu c1) (fun x => Dr (theT ePu x)) l g m mp i) (fun m k seen hk => by
  have k1 := Aj AbI (c := c1) (l.getD k pub0) rfl
  have t1 := Ag AbI (l.getD k pub0)
  simp only [en1] at k1 t1
  rw [Zw, lt1 hk, ge0, tn, nx hk (A7 hl), k1, t1, Ss, B3]
  simp only [tt, cond_true]) (fun m mp => by rw [Zw, lt0 (Nat.lt_irrefl _)]; rfl) g 0 [] (by omega) (by omega)
 exact this
theorem s129 : OrcS prog (o129 (okG eSu c1) fun x => Nu (theT eSu x)) := .cons (.t' (r := fun a => vB (Nu a)) fun a _ => c124 a) (.cons (.inl .nil func205 (by kernel_rfl)) .nil)
theorem c129 (l : List SSub) (hl : Ak l = true) : CX prog 209 [.agg [.d (dF 204), .d (dF 205), .d dNF], .c (.d (Ts l))] [] (vI (Ct Nu SSub.loc Ro [] l)) [] := by
 obtain ⟨g, hg⟩ : ∃ g, l.length < g := ⟨l.length + 1, by omega⟩
 refine Ax s129.ok func209 b129 rfl ((AkU _ _ l g).trans ?_)
 have := F4 (valid := Nu) (key := SSub.loc) (rest := Ro) (l := l) (d0 := sub0) (L := fun m mp i => Xi (okG eSu c1) (fun x => Nu (theT eSu x)) l g m mp i) (fun m k seen hk => by
  have k1 := Aj AbE (c := c1) (l.getD k sub0) rfl
  have t1 := Ag AbE (l.getD k sub0)
  simp only [en1] at k1 t1
  rw [Zv, lt1 hk, ge0, tn, nx hk (A7 hl), k1, t1, Ss, B3]
  simp only [tt, cond_true]
  rfl) (fun m mp => by rw [Zv, lt0 (Nat.lt_irrefl _)]; rfl) g 0 [] (by omega) (by omega)
 exact this
end Go.Proofs.YtbpndheehcbldaaGreatDoor.se
namespace Go.Eb
open Go.RowKit
def dec3 : List AV -> Option (Int × Int × Int)
 | [.c (.d (.v (.int .i64 a))), .c (.d (.v (.int .i64 b))), .c (.d (.v (.int .i64 c)))] => some (a, b, c)
 | _ => none
theorem Q5 (args : List AV) (a : Int × Int × Int) (h : dec3 args = some a) : args = [vI a.1, vI a.2.1, vI a.2.2] := by
 unfold dec3 at h
 split at h
 ·cases h; rfl
 ·simp at h
def decE : List AV -> Option (Bool × Int × Int × Int)
 | [.agg [.d (.v (.bool o)), .d (.v (.int .i64 a)), .d (.v (.int .i64 b))], .c (.d (.v (.int .i64 c)))] => some (o, a, b, c)
 | _ => none
theorem AbV (args : List AV) (a : Bool × Int × Int × Int) (h : decE args = some a) : args = [.agg [.d (dB a.1), .d (dI a.2.1), .d (dI a.2.2.1)], vI a.2.2.2] := by
 unfold decE at h
 split at h
 ·cases h; rfl
 ·simp at h
def elOk (on : Bool) (pk dl least : Int) : Bool := bif on then Ac pk 1 16383 && Ac dl least 500 else (pk == 0) && (dl == 0)
end Go.Eb
namespace Go.Proofs.YtbpndheehcbldaaGreatDoor.se
open Go.RowKit Go.Eb
def oWi : Orc := Orc.cons 189 (inl prog Orc.nil na 1 f189) Orc.nil
def oW3 : Orc := Orc.cons 189 (ansP dec3 fun a => vB (Ac a.1 a.2.1 a.2.2)) Orc.nil
def oE3 : Orc := Orc.cons 190 (ansP decE fun a => vB (elOk a.1 a.2.1 a.2.2.1 a.2.2.2)) oW3
def oZo : Orc := Orc.cons 191 (inl prog oW3 na 1 f191) oW3
theorem Ajb (a b c : Int) : Al prog Orc.nil na 5 f189 (Ad f189) [vI a, vI b, vI c] [] =
 (bif decide (a >= b) then leB (decide (a <= c)) else leB false) := by kernel_rfl
def Abs (a b c : Int) : Bool :=
 (bif decide (a >= b) then ((decide (a <= c))) else (false))
theorem evWi (a b c : Int) : Al prog Orc.nil na 5 f189 (Ad f189) [vI a, vI b, vI c] [] = some (.leaf (vB (Abs a b c), [])) := by
 rw [Ajb]
 unfold Abs
 simp only [Gs]
theorem Aje (o : Bool) (a b c : Int) : Al prog oW3 na 5 f190 (Ad f190) [.agg [.d (dB o), .d (dI a), .d (dI b)], vI c] [] =
 (bif !o then leB (o == false && (a == 0 && (b == 0 && true))) else (bif Ac a 1 16383 then leB (Ac b c 500) else leB false)) := by kernel_rfl
def Abu (o : Bool) (a b c : Int) : Bool :=
 (bif !o then ((o == false && (a == (0 : Int) && (b == (0 : Int) && true)))) else (bif Ac a (1 : Int) (16383 : Int) then ((Ac b c (500 : Int))) else (false)))
theorem evEl (o : Bool) (a b c : Int) : Al prog oW3 na 5 f190 (Ad f190) [.agg [.d (dB o), .d (dI a), .d (dI b)], vI c] [] = some (.leaf (vB (Abu o a b c), [])) := by
 rw [Aje]
 unfold Abu
 simp only [Gs]
theorem Ajo (r : SRel) : Al prog oW3 na 5 f133 (Ad f133) [aRel r] [] =
 (bif r.kind != 1 then (bif r.zon0 == false && (r.zfw0 == false && (r.zx0 == 0 && (r.zr0 == 0 && (r.zl0 == 0 && (r.zd0 == 0 && true))))) && (r.zon1 == false && (r.zfw1 == false &&
 (r.zx1 == 0 && (r.zr1 == 0 && (r.zl1 == 0 && (r.zd1 == 0 && true))))) && (r.zon2 == false && (r.zfw2 == false && (r.zx2 == 0 && (r.zr2 == 0 && (r.zl2 == 0 && (r.zd2 == 0 &&
 true))))) && true)) then (bif r.min == 0 then (bif r.kre == 0 then (bif r.kim == 0 then (bif r.scheme == 0 then (bif r.wait == 0 then (bif r.guard == 0 then (bif r.shots == 0 then
 (bif r.dead == 0 then (bif r.kind != 2 then (bif r.reclaim == 0 then (bif r.uon == false && (r.upk == 0 && (r.udl == 0 && true)) then (bif r.kind == 4 then (bif r.oon == false &&
 (r.opk == 0 && (r.odl == 0 && true)) then (bif r.don == false && (r.dpk == 0 && (r.ddl == 0 && true)) then (bif r.ion == false && (r.ipk == 0 && (r.idl == 0 && true)) then leB
 (r.fon == false && (r.fpk == 0 && (r.fdl == 0 && true))) else leB false) else leB false) else leB false) else (bif r.oon == false && (r.opk == 0 && (r.odl == 0 && true)) then (bif
 r.diff == 0 then (bif r.num == 0 then (bif r.den == 0 then leB (r.harm == 0) else leB false) else leB false) else leB false) else leB false)) else (bif r.kind == 4 then leB false
 else leB false)) else (bif r.kind == 4 then leB false else leB false)) else (bif r.kind == 4 then (bif r.reclaim == 0 then (bif r.don == false && (r.dpk == 0 && (r.ddl == 0 &&
 true)) then (bif r.ion == false && (r.ipk == 0 && (r.idl == 0 && true)) then leB (r.fon == false && (r.fpk == 0 && (r.fdl == 0 && true))) else leB false) else leB false) else leB
 false) else (bif r.reclaim == 0 then (bif r.diff == 0 then (bif r.num == 0 then (bif r.den == 0 then leB (r.harm == 0) else leB false) else leB false) else leB false) else leB
 false))) else (bif r.kind != 2 then (bif r.kind == 4 then leB false else leB false) else (bif r.kind == 4 then leB false else leB false))) else (bif r.kind != 2 then (bif r.kind ==
 4 then leB false else leB false) else (bif r.kind == 4 then leB false else leB false))) else (bif r.kind != 2 then (bif r.kind == 4 then leB false else leB false) else (bif r.kind
 == 4 then leB false else leB false))) else (bif r.kind != 2 then (bif r.kind == 4 then leB false else leB false) else (bif r.kind == 4 then leB false else leB false))) else (bif
 r.kind != 2 then (bif r.kind == 4 then leB false else leB false) else (bif r.kind == 4 then leB false else leB false))) else (bif r.kind != 2 then (bif r.kind == 4 then leB false
 else leB false) else (bif r.kind == 4 then leB false else leB false))) else (bif r.kind != 2 then (bif r.kind == 4 then leB false else leB false) else (bif r.kind == 4 then leB
 false else leB false))) else (bif r.kind != 2 then (bif r.kind == 4 then leB false else leB false) else (bif r.kind == 4 then leB false else leB false))) else (bif r.kind != 2 then
 (bif r.kind == 4 then leB false else leB false) else (bif r.kind == 4 then leB false else leB false))) else (bif r.kind != 2 then (bif r.uon == false && (r.upk == 0 && (r.udl == 0
 && true)) then (bif r.kind == 4 then (bif r.oon == false && (r.opk == 0 && (r.odl == 0 && true)) then (bif r.don == false && (r.dpk == 0 && (r.ddl == 0 && true)) then (bif r.ion ==
 false && (r.ipk == 0 && (r.idl == 0 && true)) then leB (r.fon == false && (r.fpk == 0 && (r.fdl == 0 && true))) else leB false) else leB false) else leB false) else (bif r.oon ==
 false && (r.opk == 0 && (r.odl == 0 && true)) then (bif r.diff == 0 then (bif r.num == 0 then (bif r.den == 0 then leB (r.harm == 0) else leB false) else leB false) else leB false)
 else leB false)) else (bif r.kind == 4 then leB false else leB false)) else (bif r.kind == 4 then (bif r.don == false && (r.dpk == 0 && (r.ddl == 0 && true)) then (bif r.ion ==
 false && (r.ipk == 0 && (r.idl == 0 && true)) then leB (r.fon == false && (r.fpk == 0 && (r.fdl == 0 && true))) else leB false) else leB false) else (bif r.diff == 0 then (bif
 r.num == 0 then (bif r.den == 0 then leB (r.harm == 0) else leB false) else leB false) else leB false)))) := by kernel_rfl
def Gh (r : SRel) : Bool :=
 (bif SRel.kind r != (1 : Int) then (bif SRel.zon0 r == false && (SRel.zfw0 r == false && (SRel.zx0 r == (0 : Int) && (SRel.zr0 r == (0 : Int) && (SRel.zl0 r == (0 : Int) &&
 (SRel.zd0 r == (0 : Int) && true))))) && (SRel.zon1 r == false && (SRel.zfw1 r == false && (SRel.zx1 r == (0 : Int) && (SRel.zr1 r == (0 : Int) && (SRel.zl1 r == (0 : Int) &&
 (SRel.zd1 r == (0 : Int) && true))))) && (SRel.zon2 r == false && (SRel.zfw2 r == false && (SRel.zx2 r == (0 : Int) && (SRel.zr2 r == (0 : Int) && (SRel.zl2 r == (0 : Int) &&
 (SRel.zd2 r == (0 : Int) && true))))) && true)) then (bif SRel.min r == (0 : Int) then (bif SRel.kre r == (0 : Int) then (bif SRel.kim r == (0 : Int) then (bif SRel.scheme r == (0 :
 Int) then (bif SRel.wait r == (0 : Int) then (bif SRel.guard r == (0 : Int) then (bif SRel.shots r == (0 : Int) then (bif SRel.dead r == (0 : Int) then (bif SRel.kind r != (2 : Int)
 then (bif SRel.reclaim r == (0 : Int) then (bif SRel.uon r == false && (SRel.upk r == (0 : Int) && (SRel.udl r == (0 : Int) && true)) then (bif SRel.kind r == (4 : Int) then (bif
 SRel.oon r == false && (SRel.opk r == (0 : Int) && (SRel.odl r == (0 : Int) && true)) then (bif SRel.don r == false && (SRel.dpk r == (0 : Int) && (SRel.ddl r == (0 : Int) && true))
 then (bif SRel.ion r == false && (SRel.ipk r == (0 : Int) && (SRel.idl r == (0 : Int) && true)) then ((SRel.fon r == false && (SRel.fpk r == (0 : Int) && (SRel.fdl r == (0 : Int) &&
 true)))) else (false)) else (false)) else (false)) else (bif SRel.oon r == false && (SRel.opk r == (0 : Int) && (SRel.odl r == (0 : Int) && true)) then (bif SRel.diff r == (0 : Int)
 then (bif SRel.num r == (0 : Int) then (bif SRel.den r == (0 : Int) then ((SRel.harm r == (0 : Int))) else (false)) else (false)) else (false)) else (false))) else (bif SRel.kind r
 == (4 : Int) then (false) else (false))) else (bif SRel.kind r == (4 : Int) then (false) else (false))) else (bif SRel.kind r == (4 : Int) then (bif SRel.reclaim r == (0 : Int) then
 (bif SRel.don r == false && (SRel.dpk r == (0 : Int) && (SRel.ddl r == (0 : Int) && true)) then (bif SRel.ion r == false && (SRel.ipk r == (0 : Int) && (SRel.idl r == (0 : Int) &&
 true)) then ((SRel.fon r == false && (SRel.fpk r == (0 : Int) && (SRel.fdl r == (0 : Int) && true)))) else (false)) else (false)) else (false)) else (bif SRel.reclaim r == (0 : Int)
 then (bif SRel.diff r == (0 : Int) then (bif SRel.num r == (0 : Int) then (bif SRel.den r == (0 : Int) then ((SRel.harm r == (0 : Int))) else (false)) else (false)) else (false))
 else (false)))) else (bif SRel.kind r != (2 : Int) then (bif SRel.kind r == (4 : Int) then (false) else (false)) else (bif SRel.kind r == (4 : Int) then (false) else (false)))) else
 (bif SRel.kind r != (2 : Int) then (bif SRel.kind r == (4 : Int) then (false) else (false)) else (bif SRel.kind r == (4 : Int) then (false) else (false)))) else (bif SRel.kind r !=
 (2 : Int) then (bif SRel.kind r == (4 : Int) then (false) else (false)) else (bif SRel.kind r == (4 : Int) then (false) else (false)))) else (bif SRel.kind r != (2 : Int) then (bif
 SRel.kind r == (4 : Int) then (false) else (false)) else (bif SRel.kind r == (4 : Int) then (false) else (false)))) else (bif SRel.kind r != (2 : Int) then (bif SRel.kind r == (4 :
 Int) then (false) else (false)) else (bif SRel.kind r == (4 : Int) then (false) else (false)))) else (bif SRel.kind r != (2 : Int) then (bif SRel.kind r == (4 : Int) then (false)
 else (false)) else (bif SRel.kind r == (4 : Int) then (false) else (false)))) else (bif SRel.kind r != (2 : Int) then (bif SRel.kind r == (4 : Int) then (false) else (false)) else
 (bif SRel.kind r == (4 : Int) then (false) else (false)))) else (bif SRel.kind r != (2 : Int) then (bif SRel.kind r == (4 : Int) then (false) else (false)) else (bif SRel.kind r ==
 (4 : Int) then (false) else (false)))) else (bif SRel.kind r != (2 : Int) then (bif SRel.kind r == (4 : Int) then (false) else (false)) else (bif SRel.kind r == (4 : Int) then
 (false) else (false)))) else (bif SRel.kind r != (2 : Int) then (bif SRel.uon r == false && (SRel.upk r == (0 : Int) && (SRel.udl r == (0 : Int) && true)) then (bif SRel.kind r ==
 (4 : Int) then (bif SRel.oon r == false && (SRel.opk r == (0 : Int) && (SRel.odl r == (0 : Int) && true)) then (bif SRel.don r == false && (SRel.dpk r == (0 : Int) && (SRel.ddl r ==
 (0 : Int) && true)) then (bif SRel.ion r == false && (SRel.ipk r == (0 : Int) && (SRel.idl r == (0 : Int) && true)) then ((SRel.fon r == false && (SRel.fpk r == (0 : Int) &&
 (SRel.fdl r == (0 : Int) && true)))) else (false)) else (false)) else (false)) else (bif SRel.oon r == false && (SRel.opk r == (0 : Int) && (SRel.odl r == (0 : Int) && true)) then
 (bif SRel.diff r == (0 : Int) then (bif SRel.num r == (0 : Int) then (bif SRel.den r == (0 : Int) then ((SRel.harm r == (0 : Int))) else (false)) else (false)) else (false)) else
 (false))) else (bif SRel.kind r == (4 : Int) then (false) else (false))) else (bif SRel.kind r == (4 : Int) then (bif SRel.don r == false && (SRel.dpk r == (0 : Int) && (SRel.ddl r
 == (0 : Int) && true)) then (bif SRel.ion r == false && (SRel.ipk r == (0 : Int) && (SRel.idl r == (0 : Int) && true)) then ((SRel.fon r == false && (SRel.fpk r == (0 : Int) &&
 (SRel.fdl r == (0 : Int) && true)))) else (false)) else (false)) else (bif SRel.diff r == (0 : Int) then (bif SRel.num r == (0 : Int) then (bif SRel.den r == (0 : Int) then
 ((SRel.harm r == (0 : Int))) else (false)) else (false)) else (false)))))
theorem ev78 (r : SRel) : Al prog oW3 na 5 f133 (Ad f133) [aRel r] [] = some (.leaf (vB (Gh r), [])) := by
 rw [Ajo]
 unfold Gh
 simp only [Gs]
theorem Ajn (r : SRel) : Al prog oW3 na 5 f134 (Ad f134) [aRel r] [] =
 (bif !r.zon0 then (bif !(r.zon0 == false && (r.zfw0 == false && (r.zx0 == 0 && (r.zr0 == 0 && (r.zl0 == 0 && (r.zd0 == 0 && true)))))) then leB false else (bif !r.zon1 then (bif
 !(r.zon1 == false && (r.zfw1 == false && (r.zx1 == 0 && (r.zr1 == 0 && (r.zl1 == 0 && (r.zd1 == 0 && true)))))) then leB false else (bif !r.zon2 then (bif !(r.zon2 == false &&
 (r.zfw2 == false && (r.zx2 == 0 && (r.zr2 == 0 && (r.zl2 == 0 && (r.zd2 == 0 && true)))))) then leB false else (bif r.min == 0 then (bif r.kre == 0 then leB (r.kim == 0) else leB
 false) else leB false)) else (bif !Ac r.zx2 1 4000 then leB false else (bif !Ac r.zr2 0 4000 then leB false else (bif !Ac r.zl2 0 4000 then leB false else (bif !Ac r.zd2 0 500 then
 leB false else (bif Ac r.min 1 16383 then (bif Ac r.kre (-200) 200 then leB (Ac r.kim (-200) 200) else leB false) else leB false))))))) else (bif !Ac r.zx1 1 4000 then leB false
 else (bif !Ac r.zr1 0 4000 then leB false else (bif !Ac r.zl1 0 4000 then leB false else (bif !Ac r.zd1 0 500 then leB false else (bif !r.zon2 then (bif !(r.zon2 == false &&
 (r.zfw2 == false && (r.zx2 == 0 && (r.zr2 == 0 && (r.zl2 == 0 && (r.zd2 == 0 && true)))))) then leB false else (bif Ac r.min 1 16383 then (bif Ac r.kre (-200) 200 then leB (Ac
 r.kim (-200) 200) else leB false) else leB false)) else (bif !Ac r.zx2 1 4000 then leB false else (bif !Ac r.zr2 0 4000 then leB false else (bif !Ac r.zl2 0 4000 then leB false
 else (bif !Ac r.zd2 0 500 then leB false else (bif Ac r.min 1 16383 then (bif Ac r.kre (-200) 200 then leB (Ac r.kim (-200) 200) else leB false) else leB false)))))))))))) else
 (bif !Ac r.zx0 1 4000 then leB false else (bif !Ac r.zr0 0 4000 then leB false else (bif !Ac r.zl0 0 4000 then leB false else (bif !Ac r.zd0 0 500 then leB false else (bif !r.zon1
 then (bif !(r.zon1 == false && (r.zfw1 == false && (r.zx1 == 0 && (r.zr1 == 0 && (r.zl1 == 0 && (r.zd1 == 0 && true)))))) then leB false else (bif !r.zon2 then (bif !(r.zon2 ==
 false && (r.zfw2 == false && (r.zx2 == 0 && (r.zr2 == 0 && (r.zl2 == 0 && (r.zd2 == 0 && true)))))) then leB false else (bif Ac r.min 1 16383 then (bif Ac r.kre (-200) 200 then leB
 (Ac r.kim (-200) 200) else leB false) else leB false)) else (bif !Ac r.zx2 1 4000 then leB false else (bif !Ac r.zr2 0 4000 then leB false else (bif !Ac r.zl2 0 4000 then leB false
 else (bif !Ac r.zd2 0 500 then leB false else (bif Ac r.min 1 16383 then (bif Ac r.kre (-200) 200 then leB (Ac r.kim (-200) 200) else leB false) else leB false))))))) else (bif !Ac
 r.zx1 1 4000 then leB false else (bif !Ac r.zr1 0 4000 then leB false else (bif !Ac r.zl1 0 4000 then leB false else (bif !Ac r.zd1 0 500 then leB false else (bif !r.zon2 then (bif
 !(r.zon2 == false && (r.zfw2 == false && (r.zx2 == 0 && (r.zr2 == 0 && (r.zl2 == 0 && (r.zd2 == 0 && true)))))) then leB false else (bif Ac r.min 1 16383 then (bif Ac r.kre (-200)
 200 then leB (Ac r.kim (-200) 200) else leB false) else leB false)) else (bif !Ac r.zx2 1 4000 then leB false else (bif !Ac r.zr2 0 4000 then leB false else (bif !Ac r.zl2 0 4000
 then leB false else (bif !Ac r.zd2 0 500 then leB false else (bif Ac r.min 1 16383 then (bif Ac r.kre (-200) 200 then leB (Ac r.kim (-200) 200) else leB false) else leB
 false)))))))))))))))) := by kernel_rfl
def Cn (r : SRel) : Bool :=
 (bif !SRel.zon0 r then (bif !(SRel.zon0 r == false && (SRel.zfw0 r == false && (SRel.zx0 r == (0 : Int) && (SRel.zr0 r == (0 : Int) && (SRel.zl0 r == (0 : Int) && (SRel.zd0 r == (0
 : Int) && true)))))) then (false) else (bif !SRel.zon1 r then (bif !(SRel.zon1 r == false && (SRel.zfw1 r == false && (SRel.zx1 r == (0 : Int) && (SRel.zr1 r == (0 : Int) &&
 (SRel.zl1 r == (0 : Int) && (SRel.zd1 r == (0 : Int) && true)))))) then (false) else (bif !SRel.zon2 r then (bif !(SRel.zon2 r == false && (SRel.zfw2 r == false && (SRel.zx2 r == (0
 : Int) && (SRel.zr2 r == (0 : Int) && (SRel.zl2 r == (0 : Int) && (SRel.zd2 r == (0 : Int) && true)))))) then (false) else (bif SRel.min r == (0 : Int) then (bif SRel.kre r == (0 :
 Int) then ((SRel.kim r == (0 : Int))) else (false)) else (false))) else (bif !Ac (SRel.zx2 r) (1 : Int) (4000 : Int) then (false) else (bif !Ac (SRel.zr2 r) (0 : Int) (4000
 : Int) then (false) else (bif !Ac (SRel.zl2 r) (0 : Int) (4000 : Int) then (false) else (bif !Ac (SRel.zd2 r) (0 : Int) (500 : Int) then (false) else (bif Ac (SRel.min
 r) (1 : Int) (16383 : Int) then (bif Ac (SRel.kre r) (-200 : Int) (200 : Int) then ((Ac (SRel.kim r) (-200 : Int) (200 : Int))) else (false)) else (false)))))))) else (bif
 !Ac (SRel.zx1 r) (1 : Int) (4000 : Int) then (false) else (bif !Ac (SRel.zr1 r) (0 : Int) (4000 : Int) then (false) else (bif !Ac (SRel.zl1 r) (0 : Int) (4000 : Int)
 then (false) else (bif !Ac (SRel.zd1 r) (0 : Int) (500 : Int) then (false) else (bif !SRel.zon2 r then (bif !(SRel.zon2 r == false && (SRel.zfw2 r == false && (SRel.zx2 r == (0
 : Int) && (SRel.zr2 r == (0 : Int) && (SRel.zl2 r == (0 : Int) && (SRel.zd2 r == (0 : Int) && true)))))) then (false) else (bif Ac (SRel.min r) (1 : Int) (16383 : Int) then (bif
 Ac (SRel.kre r) (-200 : Int) (200 : Int) then ((Ac (SRel.kim r) (-200 : Int) (200 : Int))) else (false)) else (false))) else (bif !Ac (SRel.zx2 r) (1 : Int) (4000 : Int)
 then (false) else (bif !Ac (SRel.zr2 r) (0 : Int) (4000 : Int) then (false) else (bif !Ac (SRel.zl2 r) (0 : Int) (4000 : Int) then (false) else (bif !Ac (SRel.zd2 r) (0
 : Int) (500 : Int) then (false) else (bif Ac (SRel.min r) (1 : Int) (16383 : Int) then (bif Ac (SRel.kre r) (-200 : Int) (200 : Int) then ((Ac (SRel.kim r) (-200 : Int)
 (200 : Int))) else (false)) else (false))))))))))))) else (bif !Ac (SRel.zx0 r) (1 : Int) (4000 : Int) then (false) else (bif !Ac (SRel.zr0 r) (0 : Int) (4000 : Int) then
 (false) else (bif !Ac (SRel.zl0 r) (0 : Int) (4000 : Int) then (false) else (bif !Ac (SRel.zd0 r) (0 : Int) (500 : Int) then (false) else (bif !SRel.zon1 r then (bif
 !(SRel.zon1 r == false && (SRel.zfw1 r == false && (SRel.zx1 r == (0 : Int) && (SRel.zr1 r == (0 : Int) && (SRel.zl1 r == (0 : Int) && (SRel.zd1 r == (0 : Int) && true)))))) then
 (false) else (bif !SRel.zon2 r then (bif !(SRel.zon2 r == false && (SRel.zfw2 r == false && (SRel.zx2 r == (0 : Int) && (SRel.zr2 r == (0 : Int) && (SRel.zl2 r == (0 : Int) &&
 (SRel.zd2 r == (0 : Int) && true)))))) then (false) else (bif Ac (SRel.min r) (1 : Int) (16383 : Int) then (bif Ac (SRel.kre r) (-200 : Int) (200 : Int) then ((Ac
 (SRel.kim r) (-200 : Int) (200 : Int))) else (false)) else (false))) else (bif !Ac (SRel.zx2 r) (1 : Int) (4000 : Int) then (false) else (bif !Ac (SRel.zr2 r) (0 : Int)
 (4000 : Int) then (false) else (bif !Ac (SRel.zl2 r) (0 : Int) (4000 : Int) then (false) else (bif !Ac (SRel.zd2 r) (0 : Int) (500 : Int) then (false) else (bif Ac
 (SRel.min r) (1 : Int) (16383 : Int) then (bif Ac (SRel.kre r) (-200 : Int) (200 : Int) then ((Ac (SRel.kim r) (-200 : Int) (200 : Int))) else (false)) else (false))))))))
 else (bif !Ac (SRel.zx1 r) (1 : Int) (4000 : Int) then (false) else (bif !Ac (SRel.zr1 r) (0 : Int) (4000 : Int) then (false) else (bif !Ac (SRel.zl1 r) (0 : Int) (4000
 : Int) then (false) else (bif !Ac (SRel.zd1 r) (0 : Int) (500 : Int) then (false) else (bif !SRel.zon2 r then (bif !(SRel.zon2 r == false && (SRel.zfw2 r == false && (SRel.zx2 r
 == (0 : Int) && (SRel.zr2 r == (0 : Int) && (SRel.zl2 r == (0 : Int) && (SRel.zd2 r == (0 : Int) && true)))))) then (false) else (bif Ac (SRel.min r) (1 : Int) (16383 : Int)
 then (bif Ac (SRel.kre r) (-200 : Int) (200 : Int) then ((Ac (SRel.kim r) (-200 : Int) (200 : Int))) else (false)) else (false))) else (bif !Ac (SRel.zx2 r) (1 : Int)
 (4000 : Int) then (false) else (bif !Ac (SRel.zr2 r) (0 : Int) (4000 : Int) then (false) else (bif !Ac (SRel.zl2 r) (0 : Int) (4000 : Int) then (false) else (bif !Ac
 (SRel.zd2 r) (0 : Int) (500 : Int) then (false) else (bif Ac (SRel.min r) (1 : Int) (16383 : Int) then (bif Ac (SRel.kre r) (-200 : Int) (200 : Int) then ((Ac (SRel.kim
 r) (-200 : Int) (200 : Int))) else (false)) else (false)))))))))))))))))
theorem ev79 (r : SRel) : Al prog oW3 na 5 f134 (Ad f134) [aRel r] [] = some (.leaf (vB (Cn r), [])) := by
 rw [Ajn]
 unfold Cn
 simp only [Gs]
theorem Ajm (r : SRel) : Al prog oW3 na 5 f135 (Ad f135) [aRel r] [] =
 (bif !Ac r.scheme 0 3 then leB false else (bif r.scheme == 3 then (bif !Ac r.wait 1 50 then leB false else (bif r.scheme == 0 then leB (r.guard == 0) else leB (Ac r.guard 0 50)))
 else (bif r.wait != 0 then leB false else (bif r.scheme == 0 then leB (r.guard == 0) else leB (Ac r.guard 0 50))))) := by kernel_rfl
def Da (r : SRel) : Bool :=
 (bif !Ac (SRel.scheme r) (0 : Int) (3 : Int) then (false) else (bif SRel.scheme r == (3 : Int) then (bif !Ac (SRel.wait r) (1 : Int) (50 : Int) then (false) else (bif
 SRel.scheme r == (0 : Int) then ((SRel.guard r == (0 : Int))) else ((Ac (SRel.guard r) (0 : Int) (50 : Int))))) else (bif SRel.wait r != (0 : Int) then (false) else (bif
 SRel.scheme r == (0 : Int) then ((SRel.guard r == (0 : Int))) else ((Ac (SRel.guard r) (0 : Int) (50 : Int)))))))
theorem ev80 (r : SRel) : Al prog oW3 na 5 f135 (Ad f135) [aRel r] [] = some (.leaf (vB (Da r), [])) := by
 rw [Ajm]
 unfold Da
 simp only [Gs]
theorem Ajl (r : SRel) : Al prog oE3 na 5 f136 (Ad f136) [aRel r] [] =
 (bif r.ion then (bif !Ac r.ipk 1 16383 then leB false else (bif !Ac r.idl 1 1000 then leB false else (bif elOk r.don r.dpk r.ddl 0 then (bif elOk r.uon r.upk r.udl 0 then (bif elOk
 r.oon r.opk r.odl 0 then leB (elOk r.fon r.fpk r.fdl 1) else leB false) else leB false) else leB false))) else (bif !(r.ion == false && (r.ipk == 0 && (r.idl == 0 && true))) then
 leB false else (bif elOk r.don r.dpk r.ddl 0 then (bif elOk r.uon r.upk r.udl 0 then (bif elOk r.oon r.opk r.odl 0 then leB (elOk r.fon r.fpk r.fdl 1) else leB false) else leB
 false) else leB false))) := by kernel_rfl
def C9 (r : SRel) : Bool :=
 (bif SRel.ion r then (bif !Ac (SRel.ipk r) (1 : Int) (16383 : Int) then (false) else (bif !Ac (SRel.idl r) (1 : Int) (1000 : Int) then (false) else (bif elOk (SRel.don r)
 (SRel.dpk r) (SRel.ddl r) (0 : Int) then (bif elOk (SRel.uon r) (SRel.upk r) (SRel.udl r) (0 : Int) then (bif elOk (SRel.oon r) (SRel.opk r) (SRel.odl r) (0 : Int) then ((elOk
 (SRel.fon r) (SRel.fpk r) (SRel.fdl r) (1 : Int))) else (false)) else (false)) else (false)))) else (bif !(SRel.ion r == false && (SRel.ipk r == (0 : Int) && (SRel.idl r == (0 :
 Int) && true))) then (false) else (bif elOk (SRel.don r) (SRel.dpk r) (SRel.ddl r) (0 : Int) then (bif elOk (SRel.uon r) (SRel.upk r) (SRel.udl r) (0 : Int) then (bif elOk (SRel.oon
 r) (SRel.opk r) (SRel.odl r) (0 : Int) then ((elOk (SRel.fon r) (SRel.fpk r) (SRel.fdl r) (1 : Int))) else (false)) else (false)) else (false))))
theorem ev81 (r : SRel) : Al prog oE3 na 5 f136 (Ad f136) [aRel r] [] = some (.leaf (vB (C9 r), [])) := by
 rw [Ajl]
 unfold C9
 simp only [Gs]
theorem Ajk (r : SRel) : Al prog oW3 na 5 f137 (Ad f137) [aRel r] [] =
 (bif r.shots == 0 then (bif r.dead != 0 then leB false else (bif r.reclaim != 0 then leB false else (bif r.diff == 0 then (bif r.num == 0 then (bif r.den == 0 then leB (r.harm ==
 0) else leB false) else leB false) else (bif Ac r.diff 1 16383 then (bif Ac r.den 1 100 then (bif Ac r.num 0 r.den then leB (Ac r.harm 0 100) else leB false) else leB false) else
 leB false)))) else (bif !Ac r.shots 1 3 then leB false else (bif !Ac r.dead 1 100 then leB false else (bif !Ac r.reclaim 1 1000 then leB false else (bif r.diff == 0 then (bif r.num
 == 0 then (bif r.den == 0 then leB (r.harm == 0) else leB false) else leB false) else (bif Ac r.diff 1 16383 then (bif Ac r.den 1 100 then (bif Ac r.num 0 r.den then leB (Ac r.harm
 0 100) else leB false) else leB false) else leB false)))))) := by kernel_rfl
def C8 (r : SRel) : Bool :=
 (bif SRel.shots r == (0 : Int) then (bif SRel.dead r != (0 : Int) then (false) else (bif SRel.reclaim r != (0 : Int) then (false) else (bif SRel.diff r == (0 : Int) then (bif
 SRel.num r == (0 : Int) then (bif SRel.den r == (0 : Int) then ((SRel.harm r == (0 : Int))) else (false)) else (false)) else (bif Ac (SRel.diff r) (1 : Int) (16383 : Int) then
 (bif Ac (SRel.den r) (1 : Int) (100 : Int) then (bif Ac (SRel.num r) (0 : Int) (SRel.den r) then ((Ac (SRel.harm r) (0 : Int) (100 : Int))) else (false)) else (false))
 else (false))))) else (bif !Ac (SRel.shots r) (1 : Int) (3 : Int) then (false) else (bif !Ac (SRel.dead r) (1 : Int) (100 : Int) then (false) else (bif !Ac (SRel.reclaim
 r) (1 : Int) (1000 : Int) then (false) else (bif SRel.diff r == (0 : Int) then (bif SRel.num r == (0 : Int) then (bif SRel.den r == (0 : Int) then ((SRel.harm r == (0 : Int))) else
 (false)) else (false)) else (bif Ac (SRel.diff r) (1 : Int) (16383 : Int) then (bif Ac (SRel.den r) (1 : Int) (100 : Int) then (bif Ac (SRel.num r) (0 : Int) (SRel.den
 r) then ((Ac (SRel.harm r) (0 : Int) (100 : Int))) else (false)) else (false)) else (false)))))))
theorem ev82 (r : SRel) : Al prog oW3 na 5 f137 (Ad f137) [aRel r] [] = some (.leaf (vB (C8 r), [])) := by
 rw [Ajk]
 unfold C8
 simp only [Gs]
theorem Ajj (r : SRel) : Al prog oZo na 5 f138 (Ad f138) [aRel r] [] =
 (bif r.scheme == 1 then (bif r.zon0 then (bif r.zfw0 then (bif r.zon1 then leB r.zfw1 else leB false) else leB false) else leB false) else (bif r.scheme == 2 then (bif r.zon1 then
 leB r.zfw1 else leB false) else (bif r.scheme == 3 then (bif r.zon1 then (bif r.zfw1 then (bif r.zon2 then leB !r.zfw2 else leB false) else leB false) else leB false) else leB
 true))) := by kernel_rfl
def Dm (r : SRel) : Bool :=
 (bif SRel.scheme r == (1 : Int) then (bif SRel.zon0 r then (bif SRel.zfw0 r then (bif SRel.zon1 r then ((SRel.zfw1 r)) else (false)) else (false)) else (false)) else (bif
 SRel.scheme r == (2 : Int) then (bif SRel.zon1 r then ((SRel.zfw1 r)) else (false)) else (bif SRel.scheme r == (3 : Int) then (bif SRel.zon1 r then (bif SRel.zfw1 r then (bif
 SRel.zon2 r then (!SRel.zfw2 r) else (false)) else (false)) else (false)) else (true))))
theorem ev83 (r : SRel) : Al prog oZo na 5 f138 (Ad f138) [aRel r] [] = some (.leaf (vB (Dm r), [])) := by
 rw [Ajj]
 unfold Dm
 simp only [Gs]
end Go.Proofs.YtbpndheehcbldaaGreatDoor.se
namespace Go.Proofs.YtbpndheehcbldaaGreatDoor.se
open Go.RowKit Go.Eb Go.Proofs.YtbpndheehcbldaaGreatDoor.st
theorem sWi : OrcS prog oWi := .cons (.inl .nil func189 (by kernel_rfl)) .nil
theorem cWi (a : Int × Int × Int) : CX prog 189 [vI a.1, vI a.2.1, vI a.2.2] [] (vB (Ac a.1 a.2.1 a.2.2)) [] := by
 refine Ax (Orc.nil_ok _) func189 (by kernel_rfl) rfl ((evWi a.1 a.2.1 a.2.2).trans ?_)
 unfold Abs Ac
 cases decide (a.1 >= a.2.1) <;> rfl
theorem sW3 : OrcS prog oW3 := .cons (.p Q5 cWi) .nil
theorem cEl (a : Bool × Int × Int × Int) : CX prog 190 [.agg [.d (dB a.1), .d (dI a.2.1), .d (dI a.2.2.1)], vI a.2.2.2] [] (vB (elOk a.1 a.2.1 a.2.2.1 a.2.2.2)) [] := by
 refine Ax sW3.ok func190 (by kernel_rfl) rfl ((evEl a.1 a.2.1 a.2.2.1 a.2.2.2).trans ?_)
 unfold Abu elOk
 cases a.1 <;> cases (a.2.1 == 0) <;> cases (a.2.2.1 == 0) <;> cases Ac a.2.1 1 16383 <;> rfl
theorem sE3 : OrcS prog oE3 := .cons (.p AbV cEl) sW3
theorem sZo : OrcS prog oZo := .cons (.inl sW3 func191 (by kernel_rfl)) sW3
theorem c78 (r : SRel) : CX prog 133 [aRel r] [] (vB (Gh r)) [] := Ax sW3.ok func133 (by kernel_rfl) rfl (ev78 r)
theorem c79 (r : SRel) : CX prog 134 [aRel r] [] (vB (Cn r)) [] := Ax sW3.ok func134 (by kernel_rfl) rfl (ev79 r)
theorem c80 (r : SRel) : CX prog 135 [aRel r] [] (vB (Da r)) [] := Ax sW3.ok func135 (by kernel_rfl) rfl (ev80 r)
theorem c81 (r : SRel) : CX prog 136 [aRel r] [] (vB (C9 r)) [] := Ax sE3.ok func136 (by kernel_rfl) rfl (ev81 r)
theorem c82 (r : SRel) : CX prog 137 [aRel r] [] (vB (C8 r)) [] := Ax sW3.ok func137 (by kernel_rfl) rfl (ev82 r)
theorem c83 (r : SRel) : CX prog 138 [aRel r] [] (vB (Dm r)) [] := Ax sZo.ok func138 (by kernel_rfl) rfl (ev83 r)
def enRu (l : List SRule) : List AV := [.agg [.d (dF 194), .d (dF 196), .d (dF 197)], .c (.d (L6 l))]
def enSe (l : List SSet) : List AV := [.agg [.d (dF 198), .d (dF 200), .d dNF], .c (.d (J9 l))]
def enPu (l : List SPub) : List AV := [.agg [.d (dF 201), .d (dF 202), .d (dF 203)], .c (.d (T1 l))]
def enSu (l : List SSub) : List AV := [.agg [.d (dF 204), .d (dF 205), .d dNF], .c (.d (Ts l))]
theorem Wh : InjT enRu := fun a b h => At Jg _ _ (H7 (Ai (Ai h).2).1)
theorem Wg : InjT enSe := fun a b h => At Gx _ _ (H7 (Ai (Ai h).2).1)
theorem Wi : InjT enPu := fun a b h => At Ji _ _ (H7 (Ai (Ai h).2).1)
theorem Wf : InjT enSu := fun a b h => At E7 _ _ (H7 (Ai (Ai h).2).1)
def Dt (l : List SRule) : Int := Ct He SRule.name (fun x => Ej x.text) [] l
def Mx (l : List SSet) : Int := Ct Nv SSet.name Ro [] l
def Mz (l : List SPub) : Int := Ct Qd SPub.set Dr [] l
def Uo (l : List SSub) : Int := Ct Nu SSub.loc Ro [] l
def cSe (l : List SSet) : Bool := Ak l && l.all Jk
def Fs (r : SRel) : Int := bif Dt r.rules != 0 then Dt r.rules else bif Mx r.sets != 0 then Mx r.sets else bif Mz r.pubs != 0 then Mz r.pubs else Uo r.subs
theorem s85 : OrcS prog (o85 (okG enRu Ak) (okG enSe cSe) (okG enPu Ak) (okG enSu Ak) (fun x => Dt (theT enRu x)) (fun x => Mx (theT enSe x)) (fun x => Mz (theT enPu x)) fun x => Uo (theT enSu x)) := by
 refine .cons (.t' (r := fun a => vI (Dt a)) fun a h => c126 a h) (.cons (.t' (r := fun a => vI (Mx a)) fun a h => ?_) (.cons (.t' (r := fun a => vI (Mz a)) fun a h => c128 a h) (.cons (.t' (r := fun a => vI (Uo a)) fun a h => c129 a h) .nil)))
 unfold cSe at h
 simp only [Bool.and_eq_true] at h
 exact c127 a h.1 h.2
theorem c85 (r : SRel) (hr : B6 r = true) : CX prog 140 [aRel r] [] (vI (Fs r)) [] := by
 refine Ax s85.ok func140 b85 rfl ((ev85 _ _ _ _ _ _ _ _ r 1).trans ?_)
 unfold B6 at hr
 simp only [Bool.and_eq_true] at hr
 obtain ⟨h1, h2, h3, h4, h5⟩ := hr
 have k1 := Aj Wh (c := Ak) r.rules h1
 have k2 := Aj Wg (c := cSe) r.sets (by unfold cSe; rw [h2, h5]; rfl)
 have k3 := Aj Wi (c := Ak) r.pubs h3
 have k4 := Aj Wf (c := Ak) r.subs h4
 have t1 := Ag Wh r.rules
 have t2 := Ag Wg r.sets
 have t3 := Ag Wi r.pubs
 have t4 := Ag Wf r.subs
 unfold enRu at k1 t1
 unfold enSe at k2 t2
 unfold enPu at k3 t3
 unfold enSu at k4 t4
 unfold enRu enSe enPu enSu
 rw [k1, t1, k2, t2, k3, t3, k4, t4]
 unfold Fs
 simp only [cond_true]
 cases (Dt r.rules != 0) <;> cases (Mx r.sets != 0) <;> cases (Mz r.pubs != 0) <;> rfl
def F3 (x : SSet) : Bool := !(decide (1 <= x.sigs.length) && decide (x.sigs.length <= 24))
theorem s113 : OrcS prog o113 := .cons (.inl sWi func192 (by kernel_rfl)) .nil
theorem c141 (l : List SSet) (hl : Ak l = true) : CX prog 46 [.c (.d (J9 l)), .c (.d (dF 192))] [] (vI (idxP F3 0 l)) [] := by
 obtain ⟨g, hg⟩ : ∃ g, l.length < g := ⟨l.length + 1, by omega⟩
 refine Ax s113.ok func46 b141 rfl ((AkQ l g).trans ?_)
 have := Jv (p := F3) (l := l) (d0 := set0) (L := fun m i => Xh l g m i) (fun m k hk => by
  have e1 : ∀ n : Nat, decide ((n : Int) >= 1) = decide (1 <= n) := fun n => by rw [Bool.eq_iff_iff, decide_eq_true_eq, decide_eq_true_eq]; omega
  have e2 : ∀ n : Nat, decide ((n : Int) <= 24) = decide (n <= 24) := fun n => by rw [Bool.eq_iff_iff, decide_eq_true_eq, decide_eq_true_eq]; omega
  rw [Zu, lt1 hk, ge0, tn, nx hk (A7 hl), e1, e2]
  unfold F3
  simp only [tt, cond_true]
  cases decide (1 <= (l.getD k set0).sigs.length) <;> cases decide ((l.getD k set0).sigs.length <= 24) <;> rfl) (fun m => by rw [Zu, lt0 (Nat.lt_irrefl _)]; rfl) g 0 (by omega) (by omega)
 exact this
abbrev eCt := en2 (aD J9) (eFn 192)
theorem AbP : InjT eCt := Mw (S3 (At (sz := 2) (d0 := set0) Gx)) (AbO _)
def Bm (r : SRel) : Bool := decide (r.rules.length <= 16) && (decide (r.sets.length <= 4) && (decide (r.pubs.length <= 4) && (decide (r.subs.length <= 24) && !r.sets.any F3)))
theorem c84 (r : SRel) (hr : B6 r = true) : CX prog 139 [aRel r] [] (vB (Bm r)) [] := by
 have hs : OrcS prog (o84 (okG eCt cLen) fun x => idxP F3 0 (theT eCt x).1) := .cons (.inl (.cons (.t' (r := fun (a : List SSet × Unit) => vI (idxP F3 0 a.1)) fun a h => c141 a.1 h) .nil) func193 (by kernel_rfl)) .nil
 refine Ax hs.ok func139 b84 rfl ((ev84 _ _ r 1).trans ?_)
 unfold B6 at hr
 simp only [Bool.and_eq_true] at hr
 have k := Aj AbP (c := cLen) (r.sets, ()) hr.2.1
 have t := Ag AbP (r.sets, ())
 simp only [en2, aD, eFn] at k t
 rw [k, t, Mp]
 have e1 : ∀ n : Nat, decide ((n : Int) <= 16) = decide (n <= 16) := fun n => by rw [Bool.eq_iff_iff, decide_eq_true_eq, decide_eq_true_eq]; omega
 have e2 : ∀ n : Nat, decide ((n : Int) <= 4) = decide (n <= 4) := fun n => by rw [Bool.eq_iff_iff, decide_eq_true_eq, decide_eq_true_eq]; omega
 have e3 : ∀ n : Nat, decide ((n : Int) <= 24) = decide (n <= 24) := fun n => by rw [Bool.eq_iff_iff, decide_eq_true_eq, decide_eq_true_eq]; omega
 unfold Bm
 simp only [e1, e2, e3]
 cases decide (r.rules.length <= 16) <;> cases decide (r.sets.length <= 4) <;> cases decide (r.pubs.length <= 4) <;> cases decide (r.subs.length <= 24) <;> rfl
end Go.Proofs.YtbpndheehcbldaaGreatDoor.se
namespace Go.Proofs.YtbpndheehcbldaaGreatDoor.se
open Go.RowKit Go.Eb Go.Proofs.YtbpndheehcbldaaGreatDoor.st
def ann28 : Ann := A4 [(3, ⟨[3, 18, 1, 19, 20], []⟩), (8, ⟨[3, 31, 1, 32, 33], []⟩), (13, ⟨[3, 45, 1, 46, 47], []⟩), (18, ⟨[3, 59, 60, 61], []⟩)]
def Acu (s : SSta) (g m : Nat) (l2 : MV) (l3 : MV) (i20 : Int) := LK prog Orc.nil ann28 0 g f75 3 m ⟨frm [(1, .c (.ptr 0 0)), (3, .c (.ptr 1 0)), (18, .c (.d (Aa 1 busC e0 (SSta.buses s)))), (19, iA (↑(List.length (SSta.buses s)) : Int)), (20, iA i20)] 0 f75.ntmps, [(0, Blk.cells (List.map C.d (staC s)) 27), (1, Blk.cells [.d (.v (.string (SSta.name s))), C.d (Aa 1 busC e0 (SSta.buses s)), C.d (Aa 5 As Af (SSta.lines s)), C.d (Aa 6 Ar src0 (SSta.srcs s)), C.d (Aa 12 bayC bay0 (SSta.bays s)), C.mp 2, C.mp 3] 229), (2, Blk.map 0 l2), (3, Blk.map 2 l3)], 4⟩
def U7 (s : SSta) (g m : Nat) (l2 : MV) (l3 : MV) (i33 : Int) := LK prog Orc.nil ann28 0 g f75 8 m ⟨frm [(1, .c (.ptr 0 0)), (3, .c (.ptr 1 0)), (31, .c (.d (Aa 5 As Af (SSta.lines s)))), (32, iA (↑(List.length (SSta.lines s)) : Int)), (33, iA i33)] 0 f75.ntmps, [(0, Blk.cells (List.map C.d (staC s)) 27), (1, Blk.cells [.d (.v (.string (SSta.name s))), C.d (Aa 1 busC e0 (SSta.buses s)), C.d (Aa 5 As Af (SSta.lines s)), C.d (Aa 6 Ar src0 (SSta.srcs s)), C.d (Aa 12 bayC bay0 (SSta.bays s)), C.mp 2, C.mp 3] 229), (2, Blk.map 0 l2), (3, Blk.map 2 l3)], 4⟩
def P3 (s : SSta) (g m : Nat) (l2 : MV) (l3 : MV) (i47 : Int) := LK prog Orc.nil ann28 0 g f75 13 m ⟨frm [(1, .c (.ptr 0 0)), (3, .c (.ptr 1 0)), (45, .c (.d (Aa 6 Ar src0 (SSta.srcs s)))), (46, iA (↑(List.length (SSta.srcs s)) : Int)), (47, iA i47)] 0 f75.ntmps, [(0, Blk.cells (List.map C.d (staC s)) 27), (1, Blk.cells [.d (.v (.string (SSta.name s))), C.d (Aa 1 busC e0 (SSta.buses s)), C.d (Aa 5 As Af (SSta.lines s)), C.d (Aa 6 Ar src0 (SSta.srcs s)), C.d (Aa 12 bayC bay0 (SSta.bays s)), C.mp 2, C.mp 3] 229), (2, Blk.map 0 l2), (3, Blk.map 2 l3)], 4⟩
def Tn (s : SSta) (g m : Nat) (l1 : MV) (l2 : MV) (i61 : Int) := LK prog Orc.nil ann28 0 g f75 18 m ⟨frm [(3, .c (.ptr 0 0)), (59, .c (.d (Aa 12 bayC bay0 (SSta.bays s)))), (60, iA (↑(List.length (SSta.bays s)) : Int)), (61, iA i61)] 0 f75.ntmps, [(0, Blk.cells [.d (.v (.string (SSta.name s))), C.d (Aa 1 busC e0 (SSta.buses s)), C.d (Aa 5 As Af (SSta.lines s)), C.d (Aa 6 Ar src0 (SSta.srcs s)), C.d (Aa 12 bayC bay0 (SSta.bays s)), C.mp 1, C.mp 2] 229), (1, Blk.map 0 l1), (2, Blk.map 2 l2)], 3⟩
theorem b28 : f75.body = some (Ad f75) := by kernel_rfl
theorem ev28 (s : SSta) (g : Nat) : Al prog Orc.nil ann28 g f75 (Ad f75) [aSta s] [] =
 Acu s g g ([]) ([]) 0 := by kernel_rfl
theorem Aex (s : SSta) (g m : Nat) (l2 : MV) (l3 : MV) (i20 : Int) : Acu s g (m + 1) l2 l3 i20 =
 (bif decide (i20 < (↑s.buses.length : Int)) then (bif decide (0 <= i20) && decide (i20 < (↑s.buses.length : Int)) then Acu s g m ((Value.string (s.buses.getD i20.toNat e0),
 Value.bool true) :: l2) l3 (IntKind.wrap .i64 (i20 + 1)) else none) else U7 s g g l2 l3 0) := by kernel_rfl
theorem Aew (s : SSta) (g m : Nat) (l2 : MV) (l3 : MV) (i33 : Int) : U7 s g (m + 1) l2 l3 i33 =
 (bif decide (i33 < (↑s.lines.length : Int)) then (bif decide (0 <= i33) && decide (i33 < (↑s.lines.length : Int)) then U7 s g m ((Value.string (SLine.name (s.lines.getD i33.toNat
 Af)), Value.bool true) :: l2) l3 (IntKind.wrap .i64 (i33 + 1)) else none) else P3 s g g l2 l3 0) := by kernel_rfl
theorem Zr (s : SSta) (g m : Nat) (l2 : MV) (l3 : MV) (i47 : Int) : P3 s g (m + 1) l2 l3 i47 =
 (bif decide (i47 < (↑s.srcs.length : Int)) then (bif decide (0 <= i47) && decide (i47 < (↑s.srcs.length : Int)) then P3 s g m ((Value.string (SSrc.name (s.srcs.getD i47.toNat
 src0)), Value.bool true) :: l2) l3 (IntKind.wrap .i64 (i47 + 1)) else none) else Tn s g g l2 l3 0) := by kernel_rfl
theorem Zq (s : SSta) (g m : Nat) (l1 : MV) (l2 : MV) (i61 : Int) : Tn s g (m + 1) l1 l2 i61 =
 (bif decide (i61 < (↑s.bays.length : Int)) then (bif decide (0 <= i61) && decide (i61 < (↑s.bays.length : Int)) then Tn s g m ((Value.string (SBay.name (s.bays.getD i61.toNat
 bay0)), Value.bool true) :: l1) l2 (IntKind.wrap .i64 (i61 + 1)) else none) else some (T.leaf (AV.c (C.ptr ((0 : Nat)) (0)), [(0, Blk.cells [C.d (.v (.string s.name)), C.d (Aa (1)
 busC e0 s.buses), C.d (Aa (5) As Af s.lines), C.d (Aa (6) Ar src0 s.srcs), C.d (Aa (12) bayC bay0 s.bays), C.mp (1), C.mp (2)] (229)), (1, Blk.map ((0 : Nat)) l1), (2, Blk.map (2)
 l2)]))) := by kernel_rfl
def HC (s : SSta) (N B : MV) : Hp := [(0, .cells ((staC s).map .d ++ [.mp 1, .mp 2]) 229), (1, .map 0 N), (2, .map 2 B)]
def Alt : Ann := A4 []
theorem b77 : f132.body = some (Ad f132) := by kernel_rfl
theorem ev77 (s : SSta) (N B : MV) (r : SRel) (g : Nat) : Al prog (Orc.cons 189 (inl prog Orc.nil na 1 f189) Orc.nil) Alt g f132 (Ad f132) [.c (.ptr 0 0), aRel r] (HC s N B) =
 (bif r.kind == 1 then (bif decide (r.bay >= 0) then (bif !decide (r.bay <= IntKind.wrap .i64 ((↑s.bays.length : Int) - 1)) then some (T.leaf (AV.c (.d (iD 9)), [(0,
 Blk.cells [C.d (.v (.string s.name)), C.d (Aa (1) busC e0 s.buses), C.d (Aa (5) As Af s.lines), C.d (Aa (6) Ar src0 s.srcs), C.d (Aa (12) bayC bay0 s.bays), C.mp (1), C.mp (2)]
 (229)), (1, Blk.map (0) N), (2, Blk.map (2) B)])) else (bif decide (0 <= r.bay) && decide (r.bay < (↑s.bays.length : Int)) then (bif SBay.kind (s.bays.getD (Int.toNat r.bay) bay0)
 != 1 then some (T.leaf (iA 9, [(0, Blk.cells [C.d (.v (.string s.name)), C.d (Aa (1) busC e0 s.buses), C.d (Aa (5) As Af s.lines), C.d (Aa (6)
 Ar src0 s.srcs), C.d (Aa (12) bayC bay0 s.bays), C.mp (1), C.mp (2)] (229)), (1, Blk.map (0) N), (2, Blk.map (2) B)])) else (bif B0 (A2 B (Value.int IntKind.i64 r.bay)) then some
 (T.leaf (iA 12, [(0, Blk.cells [C.d (.v (.string s.name)), C.d (Aa (1) busC e0 s.buses), C.d (Aa (5) As Af s.lines), C.d (Aa (6) Ar src0
 s.srcs), C.d (Aa (12) bayC bay0 s.bays), C.mp (1), C.mp (2)] (229)), (1, Blk.map (0) N), (2, Blk.map (2) B)])) else some (T.leaf (AV.c (.d (iD 0)), [(0, Blk.cells [C.d
 (D.v (Value.string s.name)), C.d (Aa (1) busC e0 s.buses), C.d (Aa (5) As Af s.lines), C.d (Aa (6) Ar src0 s.srcs), C.d (Aa (12) bayC bay0 s.bays), C.mp (1), C.mp (2)] (229)), (1,
 Blk.map (0) N), (2, Blk.map (2) B)])))) else none)) else some (T.leaf (AV.c (.d (iD 9)), [(0, Blk.cells [C.d (.v (.string s.name)), C.d (Aa (1) busC e0 s.buses), C.d
 (Aa (5) As Af s.lines), C.d (Aa (6) Ar src0 s.srcs), C.d (Aa (12) bayC bay0 s.bays), C.mp (1), C.mp (2)] (229)), (1, Blk.map (0) N), (2, Blk.map (2) B)]))) else (bif r.kind == 2
 then (bif decide (r.bay >= 0) then (bif !decide (r.bay <= IntKind.wrap .i64 ((↑s.bays.length : Int) - 1)) then some (T.leaf (AV.c (.d (iD 9)), [(0, Blk.cells [C.d (.v
 (.string s.name)), C.d (Aa (1) busC e0 s.buses), C.d (Aa (5) As Af s.lines), C.d (Aa ((6 : Nat)) Ar src0 s.srcs), C.d (Aa (12) bayC bay0 s.bays), C.mp (1), C.mp (2)] (229)), (1,
 Blk.map (0) N), ((2 : Nat), Blk.map (2) B)])) else (bif decide (0 <= r.bay) && decide (r.bay < (↑s.bays.length : Int)) then (bif SBay.kind (s.bays.getD (Int.toNat r.bay) bay0) != 2
 then some (T.leaf (AV.c (.d (iD 9)), [(0, Blk.cells [C.d (.v (.string s.name)), C.d (Aa (1) busC e0 s.buses), C.d (Aa (5) As Af s.lines), C.d (Aa (6) Ar src0 s.srcs),
 C.d (Aa (12) bayC bay0 s.bays), C.mp (1), C.mp (2)] (229)), (1, Blk.map (0) N), (2, Blk.map (2) B)])) else (bif B0 (A2 B (Value.int IntKind.i64 r.bay)) then some (T.leaf (AV.c (.d
 (iD 12)), [(0, Blk.cells [C.d (.v (.string s.name)), C.d (Aa (1) busC e0 s.buses), C.d (Aa (5) As Af s.lines), C.d (Aa (6) Ar src0 s.srcs), C.d (Aa (12) bayC bay0
 s.bays), C.mp (1), C.mp (2)] (229)), (1, Blk.map (0) N), (2, Blk.map (2) B)])) else some (T.leaf (iA 0, [(0, Blk.cells [C.d (.v (.string
 s.name)), C.d (Aa (1) busC e0 s.buses), C.d (Aa (5) As Af s.lines), C.d (Aa (6) Ar src0 s.srcs), C.d (Aa (12) bayC bay0 s.bays), C.mp (1), C.mp (2)] (229)), ((1 : Nat), Blk.map (0)
 N), (2, Blk.map (2) B)])))) else none)) else some (T.leaf (AV.c (.d (iD 9)), [(0, Blk.cells [C.d (D.v (.string s.name)), C.d (Aa (1) busC e0 s.buses), C.d (Aa (5) As Af
 s.lines), C.d (Aa (6) Ar src0 s.srcs), C.d (Aa (12) bayC bay0 s.bays), C.mp (1), C.mp (2)] (229)), (1, Blk.map (0) N), (2, Blk.map (2) B)]))) else (bif r.kind == 3 then (bif decide
 (r.bay >= 0) then (bif !decide (r.bay <= IntKind.wrap .i64 ((↑s.bays.length : Int) - 1)) then some (T.leaf (AV.c (.d (iD 9)), [(0, Blk.cells [C.d (.v (.string s.name)),
 C.d (Aa (1) busC e0 s.buses), C.d (Aa (5) As Af s.lines), C.d (Aa (6) Ar src0 s.srcs), C.d (Aa (12) bayC bay0 s.bays), C.mp ((1 : Nat)), C.mp (2)] (229)), (1, Blk.map (0) N), (2,
 Blk.map (2) B)])) else (bif decide (0 <= r.bay) && decide (r.bay < (↑s.bays.length : Int)) then (bif SBay.kind (s.bays.getD (Int.toNat r.bay) bay0) != 3 then some (T.leaf (AV.c (C.d
 (iD 9)), [(0, Blk.cells [C.d (.v (.string s.name)), C.d (Aa (1) busC e0 s.buses), C.d (Aa (5) As Af s.lines), C.d (Aa (6) Ar src0 s.srcs), C.d (Aa (12)
 bayC bay0 s.bays), C.mp (1), C.mp (2)] (229)), (1, Blk.map (0) N), (2, Blk.map (2) B)])) else (bif B0 (A2 B (Value.int IntKind.i64 r.bay)) then some (T.leaf (AV.c (C.d (D.v
 (Value.int IntKind.i64 12))), [(0, Blk.cells [C.d (.v (.string s.name)), C.d (Aa (1) busC e0 s.buses), C.d (Aa (5) As Af s.lines), C.d (Aa (6) Ar src0 s.srcs), C.d (Aa (12) bayC
 bay0 s.bays), C.mp (1), C.mp (2)] (229)), (1, Blk.map (0) N), (2, Blk.map (2) B)])) else some (T.leaf (AV.c (.d (iD 0)), [(0, Blk.cells [C.d (D.v (Value.string
 s.name)), C.d (Aa (1) busC e0 s.buses), C.d (Aa (5) As Af s.lines), C.d (Aa (6) Ar src0 s.srcs), C.d (Aa (12) bayC bay0 s.bays), C.mp (1), C.mp (2)] (229)), (1, Blk.map (0) N), (2,
 Blk.map (2) B)])))) else none)) else some (T.leaf (AV.c (.d (iD 9)), [(0, Blk.cells [C.d (.v (.string s.name)), C.d (Aa (1) busC e0 s.buses), C.d (Aa (5) As Af
 s.lines), C.d (Aa (6) Ar src0 s.srcs), C.d (Aa (12) bayC bay0 s.bays), C.mp (1), C.mp (2)] (229)), (1, Blk.map (0) N), (2, Blk.map (2) B)]))) else (bif r.kind == 4 then (bif r.bay
 != (-1) then some (T.leaf (AV.c (.d (iD 9)), [(0, Blk.cells [C.d (.v (.string s.name)), C.d (Aa (1) busC e0 s.buses), C.d (Aa (5) As Af s.lines), C.d (Aa (6) Ar src0
 s.srcs), C.d (Aa (12) bayC bay0 s.bays), C.mp (1), C.mp ((2 : Nat))] (229)), (1, Blk.map (0) N), (2, Blk.map (2) B)])) else (bif B0 (A2 B (Value.int IntKind.i64 r.bay)) then some
 (T.leaf (AV.c (.d (iD 12)), [(0, Blk.cells [C.d (.v (.string s.name)), C.d (Aa (1) busC e0 s.buses), C.d (Aa ((5 : Nat)) As Af s.lines), C.d (Aa (6) Ar src0 s.srcs),
 C.d (Aa (12) bayC bay0 s.bays), C.mp (1), C.mp (2)] ((229 : Nat))), (1, Blk.map (0) N), (2, Blk.map (2) B)])) else some (T.leaf (AV.c (.d (iD 0)), [(0, Blk.cells [C.d
 (D.v (.string s.name)), C.d (Aa (1) busC e0 s.buses), C.d (Aa (5) As Af s.lines), C.d (Aa (6) Ar src0 s.srcs), C.d (Aa (12) bayC bay0 s.bays), C.mp (1), C.mp (2)] (229)), (1,
 Blk.map (0) N), (2, Blk.map (2) B)])))) else some (T.leaf (AV.c (.d (iD 10)), [(0, Blk.cells [C.d (.v (.string s.name)), C.d (Aa (1) busC e0 s.buses), C.d (Aa (5) As Af
 s.lines), C.d (Aa (6) Ar src0 s.srcs), C.d (Aa (12) bayC bay0 s.bays), C.mp ((1 : Nat)), C.mp (2)] (229)), (1, Blk.map (0) N), (2, Blk.map (2) B)])))))) := by kernel_rfl
structure K32 where
 okr : LB
 us : LB
 di : LB
 sc : LB
 el : LB
 ot : LB
 zo : LB
 ct : LB
 ls : LI
 okp : List AV -> Hp -> Bool
 pl : List AV -> Hp -> Int
def o32 (Z : K32) (s : SSta) (N B : MV) : Orc := oN Ae (Orc.cons 132 (ansM Z.okp (fun x H => vI (Z.pl x H)) fun _ _ => HC s N B) (Orc.cons 133 (ansG Z.okr fun x => vB (Z.us x)) (Orc.cons 134 (ansG Z.okr fun x => vB (Z.di x)) (Orc.cons 135 (ansG Z.okr fun x => vB (Z.sc x)) (Orc.cons 136 (ansG Z.okr fun x => vB (Z.el x))
 (Orc.cons 137 (ansG Z.okr fun x => vB (Z.ot x)) (Orc.cons 138 (ansG Z.okr fun x => vB (Z.zo x)) (Orc.cons 139 (ansG Z.okr fun x => vB (Z.ct x)) (Orc.cons 140 (ansG Z.okr fun x => vI (Z.ls x)) Orc.nil)))))))))
def ann32 : Ann := A4 []
theorem b32 : f76.body = some (Ad f76) := by kernel_rfl
theorem ev32 (Z : K32) (s : SSta) (N B : MV) (r : SRel) (g : Nat) : Al prog (o32 Z s N B) ann32 g f76 (Ad f76) [.c (.ptr 0 0), aRel r] (HC s N B) =
 (bif !Ae r.name then some (T.leaf (AV.c (.d (iD 7)), [(0, Blk.cells [C.d (.v (.string s.name)), C.d (Aa ((1 : Nat)) busC e0 s.buses), C.d (Aa (5) As Af s.lines), C.d
 (Aa (6) Ar src0 s.srcs), C.d (Aa (12) bayC bay0 s.bays), C.mp (1), C.mp (2)] (229)), (1, Blk.map (0) N), (2, Blk.map (2) B)])) else (bif B0 (A2 N (Value.string r.name)) then some
 (T.leaf (AV.c (.d (iD 8)), [(0, Blk.cells [C.d (.v (.string s.name)), C.d (Aa (1) busC e0 s.buses), C.d (Aa (5) As Af s.lines), C.d (Aa (6) Ar src0 s.srcs), C.d (Aa
 (12) bayC bay0 s.bays), C.mp ((1 : Nat)), C.mp (2)] (229)), (1, Blk.map (0) N), (2, Blk.map (2) B)])) else (bif K32.okp Z [AV.c (C.ptr (0) (0)), gA (relC r)]
 [(0, Blk.cells [C.d (.v (.string s.name)), C.d (Aa (1) busC e0 s.buses), C.d (Aa (5) As Af s.lines), C.d (Aa (6) Ar src0 s.srcs), C.d (Aa (12) bayC bay0 s.bays), C.mp (1), C.mp
 (2)] (229)), (1, Blk.map (0) N), (2, Blk.map (2) B)] then (bif K32.pl Z [AV.c (C.ptr (0) (0)), gA (relC r)] [(0, Blk.cells [C.d (D.v (.string s.name)), C.d (Aa
 (1) busC e0 s.buses), C.d (Aa (5) As Af s.lines), C.d (Aa (6) Ar src0 s.srcs), C.d (Aa (12) bayC bay0 s.bays), C.mp (1), C.mp (2)] (229)), (1, Blk.map (0) N), (2, Blk.map (2) B)]
 != 0 then some (T.leaf (AV.c (.d (iD (K32.pl Z [AV.c (C.ptr (0) (0)), gA (relC r)] [(0, Blk.cells [C.d (D.v (Value.string s.name)), C.d (Aa (1) busC
 e0 s.buses), C.d (Aa (5) As Af s.lines), C.d (Aa (6) Ar src0 s.srcs), C.d (Aa (12) bayC bay0 s.bays), C.mp (1), C.mp (2)] (229)), (1, Blk.map (0) N), (2, Blk.map (2) B)]))), [(0,
 Blk.cells [C.d (.v (.string s.name)), C.d (Aa (1) busC e0 s.buses), C.d (Aa (5) As Af s.lines), C.d (Aa ((6 : Nat)) Ar src0 s.srcs), C.d (Aa (12) bayC bay0 s.bays), C.mp (1), C.mp
 (2)] (229)), (1, Blk.map (0) N), ((2 : Nat), Blk.map (2) B)])) else (bif K32.okr Z [gA (relC r)] then (bif !K32.us Z [gA (relC r)] then some
 (T.leaf (iA 12, [(0, Blk.cells [C.d (.v (.string s.name)), C.d (Aa (1) busC e0 s.buses), C.d (Aa (5) As Af s.lines), C.d (Aa (6) Ar src0
 s.srcs), C.d (Aa (12) bayC bay0 s.bays), C.mp (1), C.mp (2)] (229)), ((1 : Nat), Blk.map (0) N), (2, Blk.map (2) B)])) else (bif K32.okr Z [gA (relC r)] then
 (bif !K32.di Z [gA (relC r)] then some (T.leaf (AV.c (.d (iD 2)), [(0, Blk.cells [C.d (.v (.string s.name)), C.d (Aa (1) busC e0 s.buses), C.d (Aa
 (5) As Af s.lines), C.d (Aa (6) Ar src0 s.srcs), C.d (Aa (12) bayC bay0 s.bays), C.mp (1), C.mp ((2 : Nat))] (229)), (1, Blk.map (0) N), (2, Blk.map (2) B)])) else (bif K32.okr Z
 [gA (relC r)] then (bif !K32.sc Z [gA (relC r)] then some (T.leaf (AV.c (.d (iD 2)), [(0, Blk.cells [C.d (.v (.string s.name)),
 C.d (Aa ((1 : Nat)) busC e0 s.buses), C.d (Aa (5) As Af s.lines), C.d (Aa (6) Ar src0 s.srcs), C.d (Aa (12) bayC bay0 s.bays), C.mp (1), C.mp (2)] (229)), (1, Blk.map (0) N), (2,
 Blk.map (2) B)])) else (bif K32.okr Z [gA (relC r)] then (bif !K32.el Z [gA (relC r)] then some (T.leaf (AV.c (.d (iD 2)), [(0,
 Blk.cells [C.d (D.v (Value.string s.name)), C.d (Aa (1) busC e0 s.buses), C.d (Aa (5) As Af s.lines), C.d (Aa (6) Ar src0 s.srcs), C.d (Aa (12) bayC bay0 s.bays), C.mp (1), C.mp
 (2)] (229)), (1, Blk.map (0) N), (2, Blk.map (2) B)])) else (bif K32.okr Z [gA (relC r)] then (bif !K32.ot Z [gA (relC r)] then some (T.leaf
 (AV.c (.d (iD 2)), [(0, Blk.cells [C.d (.v (.string s.name)), C.d (Aa (1) busC e0 s.buses), C.d (Aa (5) As Af s.lines), C.d (Aa (6) Ar src0 s.srcs), C.d (Aa (12) bayC
 bay0 s.bays), C.mp (1), C.mp (2)] (229)), (1, Blk.map (0) N), (2, Blk.map (2) B)])) else (bif K32.okr Z [gA (relC r)] then (bif !K32.zo Z [AV.agg (List.map C.d
 (relC r))] then some (T.leaf (iA 11, [(0, Blk.cells [C.d (.v (.string s.name)), C.d (Aa (1) busC e0 s.buses), C.d (Aa (5) As Af s.lines), C.d
 (Aa (6) Ar src0 s.srcs), C.d (Aa (12) bayC bay0 s.bays), C.mp (1), C.mp (2)] (229)), (1, Blk.map ((0 : Nat)) N), (2, Blk.map (2) B)])) else (bif K32.okr Z [AV.agg (List.map C.d
 (relC r))] then (bif !K32.ct Z [gA (relC r)] then some (T.leaf (iA 3, [(0, Blk.cells [C.d (.v (.string s.name)), C.d (Aa (1) busC e0
 s.buses), C.d (Aa (5) As Af s.lines), C.d (Aa (6) Ar src0 s.srcs), C.d (Aa (12) bayC bay0 s.bays), C.mp (1), C.mp (2)] (229)), (1, Blk.map (0) N), (2, Blk.map (2) B)])) else (bif
 K32.okr Z [gA (relC r)] then (bif K32.ls Z [gA (relC r)] != 0 then some (T.leaf (AV.c (.d (iD (K32.ls Z [gA (relC
 r)]))), [(0, Blk.cells [C.d (.v (.string s.name)), C.d (Aa (1) busC e0 s.buses), C.d (Aa (5) As Af s.lines), C.d (Aa (6) Ar src0 s.srcs), C.d (Aa (12) bayC bay0 s.bays), C.mp
 (1), C.mp (2)] (229)), (1, Blk.map (0) N), (2, Blk.map (2) B)])) else some (T.leaf (iA 0, [(0, Blk.cells [C.d (.v (.string s.name)), C.d (Aa
 (1) busC e0 s.buses), C.d (Aa (5) As Af s.lines), C.d (Aa (6) Ar src0 s.srcs), C.d (Aa (12) bayC bay0 s.bays), C.mp (1), C.mp (2)] (229)), ((1 : Nat), Blk.map (0) ((Value.string
 r.name, Value.bool true) :: N)), (2, Blk.map (2) ((Value.int IntKind.i64 r.bay, Value.bool true) :: B))]))) else none)) else none)) else none)) else none)) else none)) else none))
 else none)) else none)) else none))) := by kernel_rfl
end Go.Proofs.YtbpndheehcbldaaGreatDoor.se
namespace Go.Proofs.YtbpndheehcbldaaGreatDoor.se
open Go.RowKit Go.Eb Go.Proofs.YtbpndheehcbldaaGreatDoor.st
theorem c28 (s : SSta) (hs : D7 s = true) : CX prog 75 [aSta s] [] (.c (.ptr 0 0)) (HC s (Ao (A9 s)) []) := by
 obtain ⟨a1, a2, a3, a4, _⟩ := Et hs
 obtain ⟨g, g1, g2, g3, g4⟩ : ∃ g, s.buses.length < g /\ s.lines.length < g /\ s.srcs.length < g /\ s.bays.length < g := ⟨s.buses.length + s.lines.length + s.srcs.length + s.bays.length + 1, by omega⟩
 refine Ax (Orc.nil_ok _) func75 b28 rfl ((ev28 s g).trans ?_)
 have l4 := fun N => Ev (nm := SBay.name) (d0 := bay0) (l := s.bays) (L := fun m mp i => Tn s g m mp [] i) (NX := fun mp => some (.leaf (.c (.ptr 0 0), HC s mp []))) (fun m k N hk => by
  rw [Zq, lt1 hk, ge0, tn, nx hk a4, B3]; simp only [tt, cond_true]) (fun m mp => by rw [Zq, lt0 (Nat.lt_irrefl _)]; rfl) g 0 N (by omega) (by omega)
 have l3 := fun N => Ev (nm := SSrc.name) (d0 := src0) (l := s.srcs) (L := fun m mp i => P3 s g m mp [] i) (NX := fun mp => Tn s g g mp [] 0) (fun m k N hk => by
  rw [Zr, lt1 hk, ge0, tn, nx hk a3, B3]; simp only [tt, cond_true]) (fun m mp => by rw [Zr, lt0 (Nat.lt_irrefl _)]; simp only [cond_false]) g 0 N (by omega) (by omega)
 have l2 := fun N => Ev (nm := SLine.name) (d0 := Af) (l := s.lines) (L := fun m mp i => U7 s g m mp [] i) (NX := fun mp => P3 s g g mp [] 0) (fun m k N hk => by
  rw [Aew, lt1 hk, ge0, tn, nx hk a2, B3]; simp only [tt, cond_true]) (fun m mp => by rw [Aew, lt0 (Nat.lt_irrefl _)]; simp only [cond_false]) g 0 N (by omega) (by omega)
 have l1 := fun N => Ev (nm := id) (d0 := e0) (l := s.buses) (L := fun m mp i => Acu s g m mp [] i) (NX := fun mp => U7 s g g mp [] 0) (fun m k N hk => by
  rw [Aex, lt1 hk, ge0, tn, nx hk a1, B3]; simp only [tt, cond_true, id]) (fun m mp => by rw [Aex, lt0 (Nat.lt_irrefl _)]; simp only [cond_false]) g 0 N (by omega) (by omega)
 have e := l1 []
 simp only [List.drop_zero, List.map_id, List.nil_append] at e l2 l3 l4
 have e' : Acu s g g [] [] 0 = U7 s g g (Ao s.buses) [] 0 := e
 have f2 : U7 s g g (Ao s.buses) [] 0 = P3 s g g (Ao (s.buses ++ s.lines.map SLine.name)) [] 0 := l2 s.buses
 have f3 := l3 (s.buses ++ s.lines.map SLine.name)
 have f4 := l4 (s.buses ++ s.lines.map SLine.name ++ s.srcs.map SSrc.name)
 refine e'.trans (f2.trans (Eq.trans f3 (Eq.trans f4 ?_)))
 unfold A9
 simp only [List.append_assoc]
def Xp (B : List Int) (n : Int) : Int := bif B.any fun m => n == m then 12 else 0
def Rv (bays : List SBay) (B : List Int) (r : SRel) (k : Int) : Int := bif !Ac r.bay 0 ((bays.length : Int) - 1) then 9 else bif (bays.getD r.bay.toNat bay0).kind != k then 9 else Xp B r.bay
def Bg (bays : List SBay) (B : List Int) (r : SRel) : Int :=
 bif r.kind == 1 then Rv bays B r 1 else bif r.kind == 2 then Rv bays B r 2 else bif r.kind == 3 then Rv bays B r 3 else bif r.kind == 4 then (bif r.bay != -1 then 9 else Xp B r.bay) else 10
theorem AgD {β : Type} (X : Int -> Option β) (n len : Int) (kb sn : Bool) : (bif decide (n >= 0) then (bif !decide (n <= len - 1) then X 9 else (bif decide (0 <= n) && decide (n < len) then (bif kb then X 9 else (bif sn then X 12 else X 0)) else none)) else X 9) = X (bif !Ac n 0 (len - 1) then 9 else bif kb then 9 else bif sn then 12 else 0) := by
 unfold Ac
 by_cases h1 : n >= 0
 ·by_cases h2 : n <= len - 1
  ·have h3 : n < len := by omega
   have h4 : (0 : Int) <= n := h1
   simp only [h2, h3, h4, ge_iff_le, decide_true, Bool.not_true, Bool.and_self, cond_true, cond_false]
   cases kb <;> cases sn <;> rfl
  ·have h4 : (0 : Int) <= n := h1
   simp only [h2, h4, ge_iff_le, decide_true, decide_false, Bool.not_false, Bool.and_false, cond_true]
 ·have h4 : ¬ (0 : Int) <= n := h1
  simp only [h4, ge_iff_le, decide_false, Bool.not_false, Bool.false_and, cond_true, cond_false]
theorem c77 (s : SSta) (N : MV) (B : List Int) (r : SRel) (hb : s.bays.length <= 9223372036854775807) : CX prog 132 [.c (.ptr 0 0), aRel r] (HC s N (Cs B)) (vI (Bg s.bays B r)) (HC s N (Cs B)) := by
 refine Ax sWi.ok func132 b77 rfl ((ev77 s N (Cs B) r 1).trans ?_)
 have w : IntKind.wrap IntKind.i64 ((s.bays.length : Int) - 1) = (s.bays.length : Int) - 1 := Fz (by omega) (by omega)
 rw [w, U0]
 have key : ∀ (kb sn : Bool), _ := fun kb sn => AgD (fun n => some (T.leaf (vI n, HC s N (Cs B)))) r.bay s.bays.length kb sn
 unfold Bg
 cases (r.kind == 1) with
 | true => exact key _ _
 | false =>
  cases (r.kind == 2) with
  | true => exact key _ _
  | false =>
   cases (r.kind == 3) with
   | true => exact key _ _
   | false =>
    cases (r.kind == 4) with
    | false => rfl
    | true =>
     unfold Xp
     cases (r.bay != -1) with
     | true => rfl
     | false => cases (B.any fun m => r.bay == m) <;> rfl
def Hn (r : SRel) : Int := bif !Gh r then 12 else bif !Cn r then 2 else bif !Da r then 2 else bif !C9 r then 2 else bif !C8 r then 2 else bif !Dm r then 11 else bif !Bm r then 3 else Fs r
def Cl (bays : List SBay) (N : List ByteArray) (B : List Int) (r : SRel) : Int := bif !Ae r.name then 7 else bif inB N r.name then 8 else bif Bg bays B r != 0 then Bg bays B r else Hn r
def eP (s : SSta) (a : List ByteArray × List Int × SRel) : List AV × Hp := ([.c (.ptr 0 0), aRel a.2.2], HC s (Ao a.1) (Cs a.2.1))
theorem Afb (s : SSta) : InjY (eP s) := fun a b h1 h2 => by
 obtain ⟨n, i, r⟩ := a
 obtain ⟨n', i', r'⟩ := b
 have e1 : r = r' := G7 _ _ (Ai (Ai h1).2).1
 have e2 := R5 (Acd (G4 h2 1 (a := .map 0 (Ao n)) (b := .map 0 (Ao n')) rfl rfl))
 have e3 := AaI (Acd (G4 h2 2 (a := .map 2 (Cs i)) (b := .map 2 (Cs i')) rfl rfl))
 rw [e1, e2, e3]
def eQ (s : SSta) (n : List ByteArray) (b : List Int) (r : SRel) : List AV × Hp := ([.c (.ptr 0 0), aRel r], HC s (Ao n) (Cs b))
theorem Afa (s : SSta) (n : List ByteArray) (b : List Int) : InjY (eQ s n b) := fun x y h1 _ => G7 _ _ (Ai (Ai h1).2).1
abbrev eR := en1 aRel
theorem My : InjT eR := Ea G7
def Z32 (s : SSta) (n : List ByteArray) (b : List Int) : K32 where
 okr := okG eR B6
 us x := Gh (theT eR x)
 di x := Cn (theT eR x)
 sc x := Da (theT eR x)
 el x := C9 (theT eR x)
 ot x := C8 (theT eR x)
 zo x := Dm (theT eR x)
 ct x := Bm (theT eR x)
 ls x := Fs (theT eR x)
 okp := okZ (eQ s n b) fun _ => true
 pl x H := Bg s.bays b (theY (eQ s n b) x H)
theorem s32 (s : SSta) (n : List ByteArray) (b : List Int) (hb : s.bays.length <= 9223372036854775807) : OrcS prog (o32 (Z32 s n b) s (Ao n) (Cs b)) := by
 refine sN (.cons (.m (enc := eQ s n b) (c := fun _ => true) (r := fun r => vI (Bg s.bays b r)) (H' := fun _ => HC s (Ao n) (Cs b)) fun r _ => c77 s (Ao n) b r hb) ?_)
 exact .cons (.t' (r := fun a => vB (Gh a)) fun a _ => c78 a) (.cons (.t' (r := fun a => vB (Cn a)) fun a _ => c79 a) (.cons (.t' (r := fun a => vB (Da a)) fun a _ => c80 a) (.cons (.t' (r := fun a => vB (C9 a)) fun a _ => c81 a)
  (.cons (.t' (r := fun a => vB (C8 a)) fun a _ => c82 a) (.cons (.t' (r := fun a => vB (Dm a)) fun a _ => c83 a) (.cons (.t' (r := fun a => vB (Bm a)) fun a h => c84 a h) (.cons (.t' (r := fun a => vI (Fs a)) fun a h => c85 a h) .nil)))))))
def addN (bays : List SBay) (N : List ByteArray) (B : List Int) (r : SRel) : List ByteArray := bif Cl bays N B r != 0 then N else N ++ [r.name]
def addB (bays : List SBay) (N : List ByteArray) (B : List Int) (r : SRel) : List Int := bif Cl bays N B r != 0 then B else B ++ [r.bay]
theorem c32 (s : SSta) (N : List ByteArray) (B : List Int) (r : SRel) (hs : s.bays.length <= 9223372036854775807) (hr : B6 r = true) :
  CX prog 76 [.c (.ptr 0 0), aRel r] (HC s (Ao N) (Cs B)) (vI (Cl s.bays N B r)) (HC s (Ao (addN s.bays N B r)) (Cs (addB s.bays N B r))) := by
 refine Ax (s32 s N B hs).ok func76 b32 rfl ((ev32 (Z32 s N B) s (Ao N) (Cs B) r 1).trans ?_)
 have k1 : (Z32 s N B).okp [.c (.ptr 0 0), aRel r] (HC s (Ao N) (Cs B)) = true := Hs (Afa s N B) (c := fun _ => true) r rfl
 have k2 : (Z32 s N B).pl [.c (.ptr 0 0), aRel r] (HC s (Ao N) (Cs B)) = Bg s.bays B r := congrArg (Bg s.bays B) (E6 (Afa s N B) r)
 have k3 : (Z32 s N B).okr [aRel r] = true := Aj My (c := B6) r hr
 have t := Ag My r
 have k4 : (Z32 s N B).us [aRel r] = Gh r := congrArg Gh t
 have k5 : (Z32 s N B).di [aRel r] = Cn r := congrArg Cn t
 have k6 : (Z32 s N B).sc [aRel r] = Da r := congrArg Da t
 have k7 : (Z32 s N B).el [aRel r] = C9 r := congrArg C9 t
 have k8 : (Z32 s N B).ot [aRel r] = C8 r := congrArg C8 t
 have k9 : (Z32 s N B).zo [aRel r] = Dm r := congrArg Dm t
 have k10 : (Z32 s N B).ct [aRel r] = Bm r := congrArg Bm t
 have k11 : (Z32 s N B).ls [aRel r] = Fs r := congrArg Fs t
 unfold HC at k1 k2
 simp only [staC, List.map_cons, List.map_nil, List.cons_append, List.nil_append] at k1 k2
 rw [k1, k2, k3, k4, k5, k6, k7, k8, k9, k10, k11, Ss]
 unfold addN addB
 unfold Cl
 cases Ae r.name with
 | false => rfl
 | true =>
  cases inB N r.name with
  | true => rfl
  | false =>
   cases hp : (Bg s.bays B r != 0) with
   | true => simp only [Bool.not_true, cond_false, cond_true, hp]; rfl
   | false =>
    unfold Hn
    cases Gh r with
    | false => rfl
    | true =>
     cases Cn r with
     | false => rfl
     | true =>
      cases Da r with
      | false => rfl
      | true =>
       cases C9 r with
       | false => rfl
       | true =>
        cases C8 r with
        | false => rfl
        | true =>
         cases Dm r with
         | false => rfl
         | true =>
          cases Bm r with
          | false => rfl
          | true =>
           cases hl : (Fs r != 0) with
           | true => simp only [Bool.not_true, cond_false, cond_true, hl]; rfl
           | false =>
            have e0 : Fs r = 0 := by simpa using hl
            have z0 : ((0 : Int) != 0) = false := rfl
            simp only [Bool.not_true, cond_false, cond_true, e0, z0, B3, AaJ]; rfl
end Go.Proofs.YtbpndheehcbldaaGreatDoor.se
namespace Go.Proofs.YtbpndheehcbldaaGreatDoor.se
open Go.RowKit Go.Eb Go.Proofs.YtbpndheehcbldaaGreatDoor.st
structure K13 where
 okS : LB
 chk : LI
 okn : List AV -> Hp -> Bool
 n0 : MV
 oka : List AV -> Hp -> Bool
 ad : List AV -> Hp -> Int
 an : List AV -> Hp -> List (Value × Value)
 ab : List AV -> Hp -> List (Value × Value)
def o13c (Z : K13) (s : SSta) : Orc := Orc.cons 31 (ansG Z.okS fun x => vI (Z.chk x)) (Orc.cons 75 (ansM Z.okn (fun _ _ => .c (.ptr 0 0)) fun _ _ => HC s Z.n0 []) (Orc.cons 76 (ansM Z.oka (fun x H => vI (Z.ad x H)) fun x H => HC s (Z.an x H) (Z.ab x H)) Orc.nil))
def AfH : Ann := A4 [(5, ⟨[6, 15, 16, 17], []⟩)]
def Tp (Z : K13) (s : SSta) (l : List SRel) (g m : Nat) (l1 : MV) (l2 : MV) (i17 : Int) := LK prog (o13c Z s) AfH 0 g f32 5 m ⟨frm [(6, .c (.ptr 0 0)), (15, .c (.d (Aa 53 relC rel0 l))), (16, iA (↑(List.length l) : Int)), (17, iA i17)] 0 f32.ntmps, [(0, Blk.cells [.d (.v (.string (SSta.name s))), C.d (Aa 1 busC e0 (SSta.buses s)), C.d (Aa 5 As Af (SSta.lines s)), C.d (Aa 6 Ar src0 (SSta.srcs s)), C.d (Aa 12 bayC bay0 (SSta.bays s)), C.mp 1, C.mp 2] 229), (1, Blk.map 0 l1), (2, Blk.map 2 l2)], 3⟩
theorem b13c : f32.body = some (Ad f32) := by kernel_rfl
theorem AkR (Z : K13) (s : SSta) (l : List SRel) (g : Nat) : Al prog (o13c Z s) AfH g f32 (Ad f32) [aSta s, .c (.d (Cq l))] [] =
 (bif K13.okS Z [gA (staC s)] then (bif K13.chk Z [gA (staC s)] != 0 then some (T.leaf (AV.tup [(false, [C.d (iD 0)]),
 (false, [C.d (iD 1)])], [])) else (bif K13.okn Z [gA (staC s)] [] then Tp Z s l g g (K13.n0 Z) ([]) 0 else none)) else none) := by kernel_rfl
theorem Agp (Z : K13) (s : SSta) (l : List SRel) (g m : Nat) (l1 : MV) (l2 : MV) (i17 : Int) : Tp Z s l g (m + 1) l1 l2 i17 =
 (bif decide (i17 < (↑l.length : Int)) then (bif decide (0 <= i17) && decide (i17 < (↑l.length : Int)) then (bif K13.oka Z [AV.c (C.ptr (0) (0)), gA (relC (l.getD
 i17.toNat rel0))] [(0, Blk.cells [C.d (.v (.string s.name)), C.d (Aa (1) busC e0 s.buses), C.d (Aa (5) As Af s.lines), C.d (Aa (6) Ar src0 s.srcs), C.d (Aa (12) bayC bay0 s.bays),
 C.mp (1), C.mp ((2 : Nat))] (229)), (1, Blk.map (0) l1), (2, Blk.map (2) l2)] then (bif K13.ad Z [AV.c (C.ptr (0) (0)), gA (relC (l.getD i17.toNat rel0))] [(0,
 Blk.cells [C.d (.v (.string s.name)), C.d (Aa (1) busC e0 s.buses), C.d (Aa (5) As Af s.lines), C.d (Aa (6) Ar src0 s.srcs), C.d (Aa (12) bayC bay0 s.bays), C.mp (1), C.mp (2)]
 (229)), ((1 : Nat), Blk.map (0) l1), (2, Blk.map (2) l2)] != 0 then some (T.leaf (AV.tup [(false, [C.d (iD i17)]), (false, [C.d (iD (K13.ad Z
 [AV.c (C.ptr (0) (0)), gA (relC (l.getD i17.toNat rel0))] [(0, Blk.cells [C.d (D.v (Value.string s.name)), C.d (Aa (1) busC e0 s.buses), C.d (Aa (5) As Af
 s.lines), C.d (Aa (6) Ar src0 s.srcs), C.d (Aa (12) bayC bay0 s.bays), C.mp (1), C.mp (2)] (229)), (1, Blk.map (0) l1), (2, Blk.map (2) l2)]))])], [])) else Tp Z s l g m (K13.an Z
 [AV.c (C.ptr (0) (0)), gA (relC (l.getD i17.toNat rel0))] [(0, Blk.cells [C.d (D.v (.string s.name)), C.d (Aa (1) busC e0 s.buses), C.d (Aa (5) As Af s.lines),
 C.d (Aa (6) Ar src0 s.srcs), C.d (Aa (12) bayC bay0 s.bays), C.mp (1), C.mp (2)] (229)), (1, Blk.map (0) l1), (2, Blk.map (2) l2)]) (K13.ab Z [AV.c (C.ptr (0) (0)), AV.agg
 (List.map C.d (relC (l.getD i17.toNat rel0)))] [(0, Blk.cells [C.d (.v (.string s.name)), C.d (Aa (1) busC e0 s.buses), C.d (Aa (5) As Af s.lines), C.d (Aa (6) Ar src0 s.srcs), C.d
 (Aa (12) bayC bay0 s.bays), C.mp (1), C.mp (2)] (229)), (1, Blk.map (0) l1), (2, Blk.map (2) l2)]) (IntKind.wrap .i64 (i17 + 1))) else none) else none) else some (T.leaf (AV.tup
 [(false, [C.d (iD 0)]), (false, [C.d (iD 0)])], []))) := by kernel_rfl
end Go.Proofs.YtbpndheehcbldaaGreatDoor.se
namespace Go.Proofs.YtbpndheehcbldaaGreatDoor.se
open Go.RowKit Go.Eb Go.Proofs.YtbpndheehcbldaaGreatDoor.st
def vII (a b : Int) : AV := .tup [(false, [.d (dI a)]), (false, [.d (dI b)])]
def vP (p : Int × Int) : AV := vII p.1 p.2
def B4 (bays : List SBay) (N : List ByteArray) (B : List Int) (i : Nat) : List SRel -> Int × Int
 | [] => (0, 0)
 | r :: t => bif Cl bays N B r != 0 then ((i : Int), Cl bays N B r) else B4 bays (N ++ [r.name]) (B ++ [r.bay]) (i + 1) t
def M6 (s : SSta) (l : List SRel) : Int × Int := bif C2 s != 0 then (0, 1) else B4 s.bays (A9 s) [] 0 l
abbrev eSt := en1 aSta
theorem Ec : InjT eSt := Ea Lt
def eN1 (s : SSta) (_ : Unit) : List AV × Hp := ([aSta s], [])
theorem Ahz (s : SSta) : InjY (eN1 s) := fun _ _ _ _ => rfl
def okA (a : List ByteArray × List Int × SRel) : Bool := B6 a.2.2
def Z13 (s : SSta) : K13 where
 okS := okG eSt D7
 chk x := C2 (theT eSt x)
 okn := okZ (eN1 s) fun _ => true
 n0 := Ao (A9 s)
 oka := okZ (eP s) okA
 ad x H := Cl s.bays (theY (eP s) x H).1 (theY (eP s) x H).2.1 (theY (eP s) x H).2.2
 an x H := Ao (addN s.bays (theY (eP s) x H).1 (theY (eP s) x H).2.1 (theY (eP s) x H).2.2)
 ab x H := Cs (addB s.bays (theY (eP s) x H).1 (theY (eP s) x H).2.1 (theY (eP s) x H).2.2)
theorem s13c (s : SSta) (hs : D7 s = true) : OrcS prog (o13c (Z13 s) s) :=
 .cons (.t' (r := fun a => vI (C2 a)) fun a h => c12 a (Et h).2.2.2.2) (.cons (.m (enc := eN1 s) (c := fun _ => true) (r := fun _ => .c (.ptr 0 0)) (H' := fun _ => HC s (Ao (A9 s)) []) fun _ _ => c28 s hs)
  (.cons (.m (enc := eP s) (c := okA) (r := fun a => vI (Cl s.bays a.1 a.2.1 a.2.2)) (H' := fun a => HC s (Ao (addN s.bays a.1 a.2.1 a.2.2)) (Cs (addB s.bays a.1 a.2.1 a.2.2))) fun a h => c32 s a.1 a.2.1 a.2.2 (Et hs).2.2.2.1 h) .nil))
theorem AiN (s : SSta) (l : List SRel) (g : Nat) (hl : Ak l = true) (ha : l.all B6 = true) : ∀ (m k : Nat) (N : List ByteArray) (B : List Int), k <= l.length -> l.length - k < m -> Tp (Z13 s) s l g m (Ao N) (Cs B) k = some (.leaf (vP (B4 s.bays N B k (l.drop k)), []))
 | 0, k, _, _, _, h => by omega
 | m + 1, k, N, B, hk, h => by
  rw [Agp]
  by_cases hlt : k < l.length
  ·have hr : B6 (l.getD k rel0) = true := Dv ha rfl k
   rw [Am (d := rel0) hlt]
   rw [lt1 hlt, ge0, tn, nx hlt (A7 hl)]
   generalize l.getD k rel0 = r at hr ⊢
   have k1 : (Z13 s).oka [.c (.ptr 0 0), aRel r] (HC s (Ao N) (Cs B)) = true := Hs (Afb s) (c := okA) (N, B, r) hr
   have t : theY (eP s) [.c (.ptr 0 0), aRel r] (HC s (Ao N) (Cs B)) = (N, B, r) := E6 (Afb s) (N, B, r)
   have k2 : (Z13 s).ad [.c (.ptr 0 0), aRel r] (HC s (Ao N) (Cs B)) = Cl s.bays N B r := by dsimp only [Z13]; rw [t]
   have k3 : (Z13 s).an [.c (.ptr 0 0), aRel r] (HC s (Ao N) (Cs B)) = Ao (addN s.bays N B r) := by dsimp only [Z13]; rw [t]
   have k4 : (Z13 s).ab [.c (.ptr 0 0), aRel r] (HC s (Ao N) (Cs B)) = Cs (addB s.bays N B r) := by dsimp only [Z13]; rw [t]
   unfold HC at k1 k2 k3 k4
   simp only [staC, List.map_cons, List.map_nil, List.cons_append, List.nil_append] at k1 k2 k3 k4
   have ih := AiN s l g hl ha m (k + 1) (N ++ [r.name]) (B ++ [r.bay]) (by omega) (by omega)
   simp only [tt, cond_true]
   refine Eq.trans (congrArg (fun b => cond b _ _) k1) ?_
   simp only [cond_true]
   rw [k2, k3, k4]
   unfold addN addB
   simp only [B4]
   cases hz : (Cl s.bays N B r != 0) with
   | true => rfl
   | false => exact ih
  ·rw [lt0 hlt, List.drop_of_length_le (by omega)]
   rfl
theorem c13c (s : SSta) (l : List SRel) (hs : D7 s = true) (hl : Ak l = true) (ha : l.all B6 = true) : CX prog 32 [aSta s, .c (.d (Cq l))] [] (vP (M6 s l)) [] := by
 obtain ⟨g, hg⟩ : ∃ g, l.length < g := ⟨l.length + 1, by omega⟩
 refine Ax (s13c s hs).ok func32 b13c rfl ((AkR (Z13 s) s l g).trans ?_)
 have k1 : (Z13 s).okS [aSta s] = true := Aj Ec (c := D7) s hs
 have k2 : (Z13 s).chk [aSta s] = C2 s := congrArg C2 (Ag Ec s)
 have k3 : (Z13 s).okn [aSta s] [] = true := Hs (Ahz s) (c := fun _ => true) () rfl
 have e : Tp (Z13 s) s l g g (Ao (A9 s)) (Cs []) ((0 : Nat) : Int) = _ := AiN s l g hl ha g 0 (A9 s) [] (by omega) (by omega)
 rw [k1, k2, k3]
 unfold M6
 cases (C2 s != 0) with
 | true => rfl
 | false => exact e
end Go.Proofs.YtbpndheehcbldaaGreatDoor.se
namespace Go.Proofs.YtbpndheehcbldaaGreatDoor.se
open Go.RowKit Go.Eb
theorem Aho (s : ByteArray) : Al prog (Orc.cons 52 (inl prog Orc.nil na 20 f52) Orc.nil) na 20 f188 (Ad f188) [vS s] [] =
 (bif ByteArray.toList (⟨#[116, 114, 117, 101]⟩) == s.toList then leB true else (bif ByteArray.toList (⟨#[102, 97, 108, 115, 101]⟩) == s.toList then leB true else (bif
 ByteArray.toList (⟨#[110, 111, 116]⟩) == s.toList then leB true else (bif ByteArray.toList (⟨#[97, 110, 100]⟩) == s.toList then leB true else (bif ByteArray.toList (⟨#[111, 114]⟩)
 == s.toList then leB true else (bif ByteArray.toList (⟨#[120, 111, 114]⟩) == s.toList then leB true else (bif ByteArray.toList (⟨#[109, 105, 110]⟩) == s.toList then leB true else
 (bif ByteArray.toList (⟨#[109, 97, 120]⟩) == s.toList then leB true else (bif ByteArray.toList (⟨#[97, 98, 115]⟩) == s.toList then leB true else (bif ByteArray.toList (⟨#[105,
 102]⟩) == s.toList then leB true else (bif ByteArray.toList (⟨#[114, 105, 115, 101]⟩) == s.toList then leB true else (bif ByteArray.toList (⟨#[102, 97, 108, 108]⟩) == s.toList then
 leB true else (bif ByteArray.toList (⟨#[100, 101, 108, 97, 121]⟩) == s.toList then leB true else (bif ByteArray.toList (⟨#[104, 111, 108, 100]⟩) == s.toList then leB true else (bif
 ByteArray.toList (⟨#[108, 97, 116, 99, 104]⟩) == s.toList then leB true else (bif ByteArray.toList (⟨#[99, 111, 117, 110, 116]⟩) == s.toList then leB true else leB
 false)))))))))))))))) := by kernel_rfl
def Qy (s : ByteArray) : Bool :=
 (bif ByteArray.toList (ByteArray.mk #[(116 : UInt8), (114 : UInt8), (117 : UInt8), (101 : UInt8)]) == ByteArray.toList s then (true) else (bif ByteArray.toList (ByteArray.mk #[(102
 : UInt8), (97 : UInt8), (108 : UInt8), (115 : UInt8), (101 : UInt8)]) == ByteArray.toList s then (true) else (bif ByteArray.toList (ByteArray.mk #[(110 : UInt8), (111 : UInt8), (116
 : UInt8)]) == ByteArray.toList s then (true) else (bif ByteArray.toList (ByteArray.mk #[(97 : UInt8), (110 : UInt8), (100 : UInt8)]) == ByteArray.toList s then (true) else (bif
 ByteArray.toList (ByteArray.mk #[(111 : UInt8), (114 : UInt8)]) == ByteArray.toList s then (true) else (bif ByteArray.toList (ByteArray.mk #[(120 : UInt8), (111 : UInt8), (114 :
 UInt8)]) == ByteArray.toList s then (true) else (bif ByteArray.toList (ByteArray.mk #[(109 : UInt8), (105 : UInt8), (110 : UInt8)]) == ByteArray.toList s then (true) else (bif
 ByteArray.toList (ByteArray.mk #[(109 : UInt8), (97 : UInt8), (120 : UInt8)]) == ByteArray.toList s then (true) else (bif ByteArray.toList (ByteArray.mk #[(97 : UInt8), (98 :
 UInt8), (115 : UInt8)]) == ByteArray.toList s then (true) else (bif ByteArray.toList (ByteArray.mk #[(105 : UInt8), (102 : UInt8)]) == ByteArray.toList s then (true) else (bif
 ByteArray.toList (ByteArray.mk #[(114 : UInt8), (105 : UInt8), (115 : UInt8), (101 : UInt8)]) == ByteArray.toList s then (true) else (bif ByteArray.toList (ByteArray.mk #[(102 :
 UInt8), (97 : UInt8), (108 : UInt8), (108 : UInt8)]) == ByteArray.toList s then (true) else (bif ByteArray.toList (ByteArray.mk #[(100 : UInt8), (101 : UInt8), (108 : UInt8), (97 :
 UInt8), (121 : UInt8)]) == ByteArray.toList s then (true) else (bif ByteArray.toList (ByteArray.mk #[(104 : UInt8), (111 : UInt8), (108 : UInt8), (100 : UInt8)]) == ByteArray.toList
 s then (true) else (bif ByteArray.toList (ByteArray.mk #[(108 : UInt8), (97 : UInt8), (116 : UInt8), (99 : UInt8), (104 : UInt8)]) == ByteArray.toList s then (true) else (bif
 ByteArray.toList (ByteArray.mk #[(99 : UInt8), (111 : UInt8), (117 : UInt8), (110 : UInt8), (116 : UInt8)]) == ByteArray.toList s then (true) else (false)))))))))))))))))
theorem AkS (s : ByteArray) : Al prog (Orc.cons 52 (inl prog Orc.nil na 20 f52) Orc.nil) na 20 f188 (Ad f188) [vS s] [] = some (.leaf (vB (Qy s), [])) := by
 rw [Aho]
 unfold Qy
 simp only [Gs]
def AjB : Ann := A4 [(4, ⟨[1, 3], []⟩)]
def Acs (r : SRel) (g m : Nat) (i3 : Int) := LK prog Orc.nil AjB 0 g f122 4 m ⟨frm [(1, .c (.ptr 0 0)), (3, iA i3)] 0 f122.ntmps, [(0, Blk.cells (List.map C.d (relC r)) 64)], 1⟩
theorem b91 : f122.body = some (Ad f122) := by kernel_rfl
theorem ev91 (r : SRel) (g : Nat) : Al prog Orc.nil AjB g f122 (Ad f122) [aRel r] [] =
 (bif decide ((↑r.rules.length : Int) > 16) then leB true else (bif decide ((↑r.sets.length : Int) > 4) then leB true else (bif decide ((↑r.pubs.length : Int) > 4) then leB true
 else (bif decide ((↑r.subs.length : Int) > 24) then leB true else Acs r g g 0)))) := by kernel_rfl
theorem Aeq (r : SRel) (g m : Nat) (i3 : Int) : Acs r g (m + 1) i3 =
 (bif decide (i3 < (↑r.sets.length : Int)) then (bif decide (0 <= i3) && decide (i3 < (↑r.sets.length : Int)) then (bif decide ((↑(SSet.sigs (r.sets.getD i3.toNat set0)).length :
 Int) < 1) then leB true else (bif decide (0 <= i3) && decide (i3 < (↑r.sets.length : Int)) then (bif decide ((↑(SSet.sigs (r.sets.getD i3.toNat set0)).length : Int) > 24) then leB
 true else Acs r g m (IntKind.wrap .i64 (i3 + 1))) else none)) else none) else leB false) := by kernel_rfl
def AjC : Ann := A4 [(16, ⟨[5, 1, 8], []⟩)]
def J7 (s : SSta) (b : List SRel) (r : SRel) (g m : Nat) (i8 : Int) := LK prog Orc.nil AjC 0 g f118 16 m ⟨frm [(1, .c (.d (Aa 53 relC rel0 b))), (5, .c (.ptr 0 0)), (8, iA i8)] 0 f118.ntmps, [(0, Blk.cells (List.map C.d (relC r)) 64)], 1⟩
theorem b87 : f118.body = some (Ad f118) := by kernel_rfl
theorem ev87 (s : SSta) (b : List SRel) (r : SRel) (g : Nat) : Al prog Orc.nil AjC g f118 (Ad f118) [aSta s, .c (.d (Cq b)), aRel r] [] =
 (bif r.kind == 1 then (bif decide (r.bay < 0) then leI 9 else (bif decide (r.bay >= (↑s.bays.length : Int)) then leI 9 else (bif decide (0 <= r.bay) && decide (r.bay <
 (↑s.bays.length : Int)) then (bif SBay.kind (s.bays.getD (Int.toNat r.bay) bay0) != 1 then leI 9 else J7 s b r g g 0) else none))) else (bif r.kind == 2 then (bif decide (r.bay <
 0) then leI 9 else (bif decide (r.bay >= (↑s.bays.length : Int)) then leI 9 else (bif decide (0 <= r.bay) && decide (r.bay < (↑s.bays.length : Int)) then (bif SBay.kind (s.bays.getD
 (Int.toNat r.bay) bay0) != 2 then leI 9 else J7 s b r g g 0) else none))) else (bif r.kind == 3 then (bif decide (r.bay < 0) then leI 9 else (bif decide (r.bay >= (↑s.bays.length :
 Int)) then leI 9 else (bif decide (0 <= r.bay) && decide (r.bay < (↑s.bays.length : Int)) then (bif SBay.kind (s.bays.getD (Int.toNat r.bay) bay0) != 3 then leI 9 else J7 s b r g g
 0) else none))) else (bif r.kind == 4 then (bif r.bay != (-1) then leI 9 else J7 s b r g g 0) else leI 10)))) := by kernel_rfl
theorem Zp (s : SSta) (b : List SRel) (r : SRel) (g m : Nat) (i8 : Int) : J7 s b r g (m + 1) i8 =
 (bif decide (i8 < (↑b.length : Int)) then (bif decide (0 <= i8) && decide (i8 < (↑b.length : Int)) then (bif SRel.bay (b.getD i8.toNat rel0) == r.bay then leI 12 else J7 s b r g m
 (IntKind.wrap .i64 (i8 + 1))) else none) else leI 0) := by kernel_rfl
def oIx (oki : LB) (ix : LI) (r : Orc) : Orc := Orc.cons 52 (ansL oki fun x => vI (ix x)) r
def o92 (nk rv : ByteArray -> Bool) (oki : LB) (ix : LI) : Orc := oIx oki ix (Orc.cons 57 (ansP decS fun s => vB (nk s)) (Orc.cons 188 (ansP decS fun s => vB (rv s)) Orc.nil))
def AhQ : Ann := A4 [(3, ⟨[1, 4, 3], [(3, 0, 1, 9)]⟩), (13, ⟨[5, 1, 4, 3, 6], []⟩)]
def U5 (nk rv : ByteArray -> Bool) (oki : LB) (ix : LI) (r : SRel) (g m : Nat) (n1 : Nat) (f1 : RD) (i4 : Int) := LK prog (o92 nk rv oki ix) AhQ 0 g f123 3 m ⟨frm [(1, .c (.ptr 0 0)), (3, .c (.row 1 1 n1)), (4, iA i4)] 0 f123.ntmps, [(0, Blk.cells (List.map C.d (relC r)) 64), (1, Blk.row n1 f1 1 9)], 2⟩
def Tk (nk rv : ByteArray -> Bool) (oki : LB) (ix : LI) (r : SRel) (g mo m : Nat) (n1 : Nat) (f1 : RD) (i4 : Int) (i6 : Int) := LK2 prog (o92 nk rv oki ix) AhQ 0 g f123 3 mo 13 m ⟨frm [(1, .c (.ptr 0 0)), (3, .c (.row 1 1 n1)), (4, iA i4), (5, .c (.ptr 2 0)), (6, iA i6)] 0 f123.ntmps, [(0, Blk.cells (List.map C.d (relC r)) 64), (1, Blk.row n1 f1 1 9), (2, Blk.cells (List.map C.d (D1 (List.getD (SRel.rules r) (Int.toNat i4) Bb))) 136)], 3⟩
theorem b92 : f123.body = some (Ad f123) := by kernel_rfl
theorem ev92 (nk rv : ByteArray -> Bool) (oki : LB) (ix : LI) (r : SRel) (g : Nat) : Al prog (o92 nk rv oki ix) AhQ g f123 (Ad f123) [aRel r] [] =
 U5 nk rv oki ix r g g 0 (fun x => []) 0 := by kernel_rfl
theorem Aep (nk rv : ByteArray -> Bool) (oki : LB) (ix : LI) (r : SRel) (g m : Nat) (n1 : Nat) (f1 : RD) (i4 : Int) : U5 nk rv oki ix r g (m + 1) n1 f1 i4 =
 (bif decide (i4 < (↑r.rules.length : Int)) then (bif decide (0 <= i4) && decide (i4 < (↑r.rules.length : Int)) then (bif !nk (SRule.name (r.rules.getD i4.toNat Bb)) then leI 7 else
 (bif rv (SRule.name (r.rules.getD i4.toNat Bb)) then leI 7 else (bif oki [AV.c (C.d (D.sl (1) n1 f1)), AV.c (C.d (D.v (Value.string (SRule.name (r.rules.getD i4.toNat Bb)))))] then
 (bif decide (ix [AV.c (C.d (D.sl (1) n1 f1)), AV.c (.d (.v (.string (SRule.name (r.rules.getD i4.toNat Bb)))))] >= 0) then leI 8 else (bif decide ((↑(ByteArray.size (SRule.text
 (r.rules.getD i4.toNat Bb))) : Int) > 120) then leI 4 else Tk nk rv oki ix r g m g n1 f1 i4 0)) else none))) else none) else leI 0) := by kernel_rfl
theorem Agl (nk rv : ByteArray -> Bool) (oki : LB) (ix : LI) (r : SRel) (g mo m : Nat) (n1 : Nat) (f1 : RD) (i4 : Int) (i6 : Int) : Tk nk rv oki ix r g mo (m + 1) n1 f1 i4 i6 =
 (bif decide (i6 < (↑(ByteArray.size (SRule.text (r.rules.getD i4.toNat Bb))) : Int)) then (bif decide (0 <= i6) && decide (i6 < (↑(ByteArray.size (SRule.text (r.rules.getD i4.toNat
 Bb))) : Int)) then (bif decide ((↑(UInt8.toNat ((Array.toList (ByteArray.data (SRule.text (r.rules.getD i4.toNat Bb)))).getD i6.toNat 0)) : Int) < 32) then leI 5 else (bif decide
 (0 <= i6) && decide (i6 < (↑(ByteArray.size (SRule.text (r.rules.getD i4.toNat Bb))) : Int)) then (bif decide ((↑(UInt8.toNat ((Array.toList (ByteArray.data (SRule.text
 (r.rules.getD i4.toNat Bb)))).getD i6.toNat 0)) : Int) > 126) then leI 5 else (bif decide (0 <= i6) && decide (i6 < (↑(ByteArray.size (SRule.text (r.rules.getD i4.toNat Bb))) :
 Int)) then (bif (↑(UInt8.toNat ((Array.toList (ByteArray.data (SRule.text (r.rules.getD i4.toNat Bb)))).getD i6.toNat 0)) : Int) == 34 then leI 5 else Tk nk rv oki ix r g mo m n1
 f1 i4 (IntKind.wrap .i64 (i6 + 1))) else none)) else none)) else none) else (bif decide ((n1 + 1) * 16 <= 140737488355328) && decide (n1 + 1 <= 9223372036854775807) then U5 nk rv oki
 ix r g mo (n1 + 1) (appF n1 f1 (Au [dS (SRule.name (r.rules.getD i4.toNat Bb))] (0 + 1))) (IntKind.wrap .i64 (i4 + 1)) else none)) := by kernel_rfl
def o93 (nk : ByteArray -> Bool) (oki : LB) (ix : LI) : Orc := oIx oki ix (Orc.cons 57 (ansP decS fun s => vB (nk s)) (Orc.cons 186 (ansP dec3 fun a => vB (Ac a.1 a.2.1 a.2.2)) Orc.nil))
def Acm : Ann := A4 [(3, ⟨[1, 4, 3], [(3, 0, 1, 9)]⟩), (9, ⟨[5, 1, 4, 3, 6], []⟩), (18, ⟨[1, 7, 3], [(3, 0, 1, 9)]⟩), (30, ⟨[1, 9, 3], [(3, 0, 1, 9)]⟩)]
def Tj (nk : ByteArray -> Bool) (oki : LB) (ix : LI) (r : SRel) (g m : Nat) (n1 : Nat) (f1 : RD) (i4 : Int) := LK prog (o93 nk oki ix) Acm 0 g f124 3 m ⟨frm [(1, .c (.ptr 0 0)), (3, .c (.row 1 1 n1)), (4, iA i4)] 0 f124.ntmps, [(0, Blk.cells (List.map C.d (relC r)) 64), (1, Blk.row n1 f1 1 9)], 2⟩
def Rb (nk : ByteArray -> Bool) (oki : LB) (ix : LI) (r : SRel) (g mo m : Nat) (n1 : Nat) (f1 : RD) (i4 : Int) (i6 : Int) := LK2 prog (o93 nk oki ix) Acm 0 g f124 3 mo 9 m ⟨frm [(1, .c (.ptr 0 0)), (3, .c (.row 1 1 n1)), (4, iA i4), (5, .c (.ptr 2 0)), (6, iA i6)] 0 f124.ntmps, [(0, Blk.cells (List.map C.d (relC r)) 64), (1, Blk.row n1 f1 1 9), (2, Blk.cells (List.map C.d (setC (List.getD (SRel.sets r) (Int.toNat i4) set0))) 125)], 3⟩
def J6 (nk : ByteArray -> Bool) (oki : LB) (ix : LI) (r : SRel) (g m : Nat) (n1 : Nat) (f1 : RD) (i7 : Int) := LK prog (o93 nk oki ix) Acm 0 g f124 18 m ⟨frm [(1, .c (.ptr 0 0)), (3, .c (.row 1 1 n1)), (7, iA i7)] 0 f124.ntmps, [(0, Blk.cells (List.map C.d (relC r)) 64), (1, Blk.row n1 f1 1 9)], 2⟩
def J5 (nk : ByteArray -> Bool) (oki : LB) (ix : LI) (r : SRel) (g m : Nat) (n1 : Nat) (f1 : RD) (i9 : Int) := LK prog (o93 nk oki ix) Acm 0 g f124 30 m ⟨frm [(1, .c (.ptr 0 0)), (3, .c (.row 1 1 n1)), (9, iA i9)] 0 f124.ntmps, [(0, Blk.cells (List.map C.d (relC r)) 64), (1, Blk.row n1 f1 1 9)], 2⟩
theorem b93 : f124.body = some (Ad f124) := by kernel_rfl
theorem ev93 (nk : ByteArray -> Bool) (oki : LB) (ix : LI) (r : SRel) (g : Nat) : Al prog (o93 nk oki ix) Acm g f124 (Ad f124) [aRel r] [] =
 Tj nk oki ix r g g 0 (fun x => []) 0 := by kernel_rfl
theorem Aeo (nk : ByteArray -> Bool) (oki : LB) (ix : LI) (r : SRel) (g m : Nat) (n1 : Nat) (f1 : RD) (i4 : Int) : Tj nk oki ix r g (m + 1) n1 f1 i4 =
 (bif decide (i4 < (↑r.sets.length : Int)) then (bif decide (0 <= i4) && decide (i4 < (↑r.sets.length : Int)) then (bif !nk (SSet.name (r.sets.getD i4.toNat set0)) then leI 7 else Rb
 nk oki ix r g m g n1 f1 i4 0) else none) else J6 nk oki ix r g g 0 (fun x => []) 0) := by kernel_rfl
theorem Aen (nk : ByteArray -> Bool) (oki : LB) (ix : LI) (r : SRel) (g mo m : Nat) (n1 : Nat) (f1 : RD) (i4 : Int) (i6 : Int) : Rb nk oki ix r g mo (m + 1) n1 f1 i4 i6 =
 (bif decide (i6 < (↑(SSet.sigs (r.sets.getD i4.toNat set0)).length : Int)) then (bif decide (0 <= i6) && decide (i6 < (↑(SSet.sigs (r.sets.getD i4.toNat set0)).length : Int)) then
 (bif !nk ((SSet.sigs (r.sets.getD i4.toNat set0)).getD i6.toNat e0) then leI 7 else Rb nk oki ix r g mo m n1 f1 i4 (IntKind.wrap .i64 (i6 + 1))) else none) else (bif oki [AV.c (C.d
 (D.sl ((1 : Nat)) n1 f1)), AV.c (.d (.v (.string (SSet.name (r.sets.getD i4.toNat set0)))))] then (bif decide (ix [AV.c (C.d (D.sl (1) n1 f1)), AV.c (C.d (D.v (Value.string
 (SSet.name (r.sets.getD i4.toNat set0)))))] >= 0) then leI 8 else (bif decide ((n1 + 1) * 16 <= 140737488355328) && decide (n1 + 1 <= 9223372036854775807) then Tj nk oki ix r g mo (n1
 + 1) (appF n1 f1 (Au [dS (SSet.name (r.sets.getD i4.toNat set0))] (0 + 1))) (IntKind.wrap .i64 (i4 + 1)) else none)) else none)) := by kernel_rfl
theorem Zo (nk : ByteArray -> Bool) (oki : LB) (ix : LI) (r : SRel) (g m : Nat) (n1 : Nat) (f1 : RD) (i7 : Int) : J6 nk oki ix r g (m + 1) n1 f1 i7 =
 (bif decide (i7 < (↑r.pubs.length : Int)) then (bif decide (0 <= i7) && decide (i7 < (↑r.pubs.length : Int)) then (bif !nk (SPub.set (r.pubs.getD i7.toNat pub0)) then leI 7 else
 (bif oki [AV.c (C.d (D.sl (1) n1 f1)), AV.c (C.d (D.v (Value.string (SPub.set (r.pubs.getD i7.toNat pub0)))))] then (bif decide (ix [AV.c (C.d (D.sl (1) n1 f1)), AV.c (.d (.v
 (.string (SPub.set (r.pubs.getD i7.toNat pub0)))))] >= 0) then leI 8 else (bif !Ac (SPub.fst (r.pubs.getD i7.toNat pub0)) 1 100 then leI 2 else (bif !Ac (SPub.max (r.pubs.getD
 i7.toNat pub0)) (SPub.fst (r.pubs.getD i7.toNat pub0)) 1000 then leI 2 else (bif decide ((n1 + 1) * 16 <= 140737488355328) && decide (n1 + 1 <= 9223372036854775807) then J6 nk oki ix
 r g m (n1 + 1) (appF n1 f1 (Au [dS (SPub.set (r.pubs.getD i7.toNat pub0))] (0 + 1))) (IntKind.wrap .i64 (i7 + 1)) else none)))) else none)) else none) else J5 nk oki ix r g g 0
 (fun x => []) 0) := by kernel_rfl
theorem Zn (nk : ByteArray -> Bool) (oki : LB) (ix : LI) (r : SRel) (g m : Nat) (n1 : Nat) (f1 : RD) (i9 : Int) : J5 nk oki ix r g (m + 1) n1 f1 i9 =
 (bif decide (i9 < (↑r.subs.length : Int)) then (bif decide (0 <= i9) && decide (i9 < (↑r.subs.length : Int)) then (bif !nk (SSub.loc (r.subs.getD i9.toNat sub0)) then leI 7 else
 (bif !nk (SSub.dev (r.subs.getD i9.toNat sub0)) then leI 7 else (bif !nk (SSub.set (r.subs.getD i9.toNat sub0)) then leI 7 else (bif !nk (SSub.sig (r.subs.getD i9.toNat sub0)) then
 leI 7 else (bif oki [AV.c (C.d (D.sl (1) n1 f1)), AV.c (.d (.v (.string (SSub.loc (r.subs.getD i9.toNat sub0)))))] then (bif decide (ix [AV.c (C.d (D.sl (1) n1 f1)), AV.c (.d (.v
 (.string (SSub.loc (r.subs.getD i9.toNat sub0)))))] >= 0) then leI 8 else (bif decide ((n1 + 1) * 16 <= 140737488355328) && decide (n1 + 1 <= 9223372036854775807) then J5 nk oki ix r
 g m (n1 + 1) (appF n1 f1 (Au [dS (SSub.loc (r.subs.getD i9.toNat sub0))] (0 + 1))) (IntKind.wrap .i64 (i9 + 1)) else none)) else none))))) else none) else leI 0) := by kernel_rfl
end Go.Proofs.YtbpndheehcbldaaGreatDoor.se
namespace Go.Proofs.YtbpndheehcbldaaGreatDoor.st
open Go.RowKit Go.Eb
theorem bOr (a b : Bool) : (bif a then lB false else lB b) = lB (!a && b) := by cases a <;> rfl
theorem sBe : OrcS prog oBe := .cons (.inl .nil func113 (by kernel_rfl)) .nil
theorem sOh : OrcS prog oOh := .cons (.inl sBe func60 (by kernel_rfl)) sBe
theorem c49 (x : SBay) : CX prog 115 [aBay x] [] (vB (Dc x)) [] := by
 refine Ax sOh.ok func115 b49 rfl ((ev49 x 1).trans ?_)
 unfold ev49_1 ev49_2 ev49_3 ev49_4 ev49_5 ev49_6
 unfold Dc Mo Ac
 cases h3 : (x.kind == 3) with
 | true =>
  cases h1 : (x.kind == 1) with
  | true => simp at h1 h3; omega
  | false =>
   simp only [cond_true, cond_false, fNot, bAnd, bOr, neN, Bool.and_true]
   refine congrArg lB ?_
   rw [Bool.eq_iff_iff]
   simp only [Bool.and_eq_true, decide_eq_true_eq, beq_iff_eq, Bool.not_eq_true', bne_iff_ne, ne_eq, Bool.not_not, Bool.or_eq_true, Bool.and_eq_false_iff, decide_eq_false_iff_not, beq_eq_false_iff_ne, Bool.not_eq_false', Bool.not_and, Bool.not_or]
   omega
 | false =>
  cases h1 : (x.kind == 1) with
  | true =>
   simp only [cond_true, cond_false, fNot, bAnd, bOr, neN, Bool.and_true]
   refine congrArg lB ?_
   rw [Bool.eq_iff_iff]
   simp only [Bool.and_eq_true, decide_eq_true_eq, beq_iff_eq, Bool.not_eq_true', bne_iff_ne, ne_eq, Bool.not_not, Bool.or_eq_true, Bool.and_eq_false_iff, decide_eq_false_iff_not, beq_eq_false_iff_ne, Bool.not_eq_false', Bool.not_and, Bool.not_or]
   omega
  | false =>
   simp only [cond_true, cond_false, fNot, bAnd, bOr, neN, Bool.and_true]
   refine congrArg lB ?_
   rw [Bool.eq_iff_iff]
   simp only [Bool.and_eq_true, decide_eq_true_eq, beq_iff_eq, Bool.not_eq_true', bne_iff_ne, ne_eq, Bool.not_not, Bool.or_eq_true, Bool.and_eq_false_iff, decide_eq_false_iff_not, beq_eq_false_iff_ne, Bool.not_eq_false', Bool.not_and, Bool.not_or]
   omega
theorem bge (b : Int) (n : Nat) : (decide (b < 0) || decide (b >= (n : Int))) = !Ac b 0 ((n : Int) - 1) := by
 unfold Ac
 rw [Bool.eq_iff_iff]
 simp only [Bool.or_eq_true, decide_eq_true_eq, Bool.not_eq_true', Bool.and_eq_false_iff, decide_eq_false_iff_not]
 omega
theorem lp50 (s : SSta) (x : SBay) (hl : x.links.length <= 9223372036854775807) (g : Nat) : ∀ (m k : Nat), k <= x.links.length -> x.links.length - k < m -> Re s x g m k = lI (Ge s.buses.length x.kind (Xs x.links k) (x.links.drop k)) []
 | 0, k, _, h => by omega
 | m + 1, k, hk, h => by
  rw [Aig]
  by_cases hlt : k < x.links.length
  ·have ih := lp50 s x hl g m (k + 1) (by omega) (by omega)
   rw [Am (d := Ba) hlt]
   simp only [lt1 hlt, ge0, tn, Bool.and_self, cond_true, nx hlt (by omega), ih, Ge, fOr, bge]
   cases k with
   | zero =>
    simp only [Xs, List.getD_cons_zero]
    generalize Ac (x.links.getD 0 Ba).bus 0 ((s.buses.length : Int) - 1) = b1
    generalize ((x.links.getD 0 Ba).pos != 1) = b3
    generalize ((x.links.getD 0 Ba).pos != 0) = b4
    generalize (x.kind == 3) = b5
    cases b1 <;> cases b3 <;> cases b4 <;> cases b5 <;> rfl
   | succ k =>
    have e1 : IntKind.wrap IntKind.i64 (((k + 1 : Nat) : Int) - 1) = (k : Int) := by rw [Fz (by omega) (by omega)]; omega
    have e2 : decide (((k + 1 : Nat) : Int) > 0) = true := by rw [gt0]; simp
    have e3 : decide ((k : Int) < (x.links.length : Int)) = true := lt1 (by omega)
    have e4 : (some (x.links.getD k Ba).bus == some (x.links.getD (k + 1) Ba).bus) = ((x.links.getD (k + 1) Ba).bus == (x.links.getD k Ba).bus) := by
     show ((x.links.getD k Ba).bus == (x.links.getD (k + 1) Ba).bus) = _
     exact Bool.beq_comm
    simp only [Xs, e1, e2, e3, e4, ge0, tn, Bool.and_self, cond_true]
    generalize Ac (x.links.getD (k + 1) Ba).bus 0 ((s.buses.length : Int) - 1) = b1
    generalize ((x.links.getD (k + 1) Ba).pos != 1) = b3
    generalize ((x.links.getD (k + 1) Ba).pos != 0) = b4
    generalize (x.kind == 3) = b5
    generalize ((x.links.getD (k + 1) Ba).bus == (x.links.getD k Ba).bus) = b6
    cases b1 <;> cases b3 <;> cases b4 <;> cases b5 <;> cases b6 <;> rfl
  ·rw [lt0 hlt, List.drop_of_length_le (by omega)]
   rfl
theorem c50 (s : SSta) (x : SBay) (hl : x.links.length <= 9223372036854775807) : CX prog 116 [aSta s, aBay x] [] (vI (B1 s.buses.length x)) [] := by
 obtain ⟨g, hg⟩ : ∃ g, x.links.length < g := ⟨x.links.length + 1, by omega⟩
 refine Ax (Orc.nil_ok _) func116 b50 rfl ((ev50 s x g).trans ?_)
 have e0 : Re s x g g 0 = lI (Ge s.buses.length x.kind none x.links) [] := lp50 s x hl g g 0 (by omega) (by omega)
 rw [e0, AaU, AaV, AaT]
 unfold B1
 generalize decide (x.links.length < 1) = b1
 generalize decide (2 < x.links.length) = b2
 generalize (x.kind == 3) = b3
 generalize (x.links.length != 2) = b4
 cases b1 <;> cases b2 <;> cases b3 <;> cases b4 <;> rfl
end Go.Proofs.YtbpndheehcbldaaGreatDoor.st
namespace Go.Proofs.YtbpndheehcbldaaGreatDoor.se
open Go.RowKit Go.Eb
def oB3 : Orc := Orc.cons 186 (ansP dec3 fun a => vB (Ac a.1 a.2.1 a.2.2)) Orc.nil
def oNu (okr zo : LB) : Orc := Orc.cons 185 (ansG okr fun x => vB (zo x)) (Orc.cons 187 (ansP decE fun a => vB (elOk a.1 a.2.1 a.2.2.1 a.2.2.2)) oB3)
theorem Ajg (a b c : Int) : Al prog Orc.nil na 5 f186 (Ad f186) [vI a, vI b, vI c] [] =
 (bif decide (a >= b) then leB (decide (a <= c)) else leB false) := by kernel_rfl
def Abv (a b c : Int) : Bool :=
 (bif decide (a >= b) then ((decide (a <= c))) else (false))
theorem evBt (a b c : Int) : Al prog Orc.nil na 5 f186 (Ad f186) [vI a, vI b, vI c] [] = some (.leaf (vB (Abv a b c), [])) := by
 rw [Ajg]
 unfold Abv
 simp only [Gs]
theorem Ajd (o : Bool) (a b c : Int) : Al prog oB3 na 5 f187 (Ad f187) [.agg [.d (dB o), .d (dI a), .d (dI b)], vI c] [] =
 (bif !o then leB (o == false && (a == 0 && (b == 0 && true))) else (bif Ac a 1 16383 then leB (Ac b c 500) else leB false)) := by kernel_rfl
def Abt (o : Bool) (a b c : Int) : Bool :=
 (bif !o then ((o == false && (a == (0 : Int) && (b == (0 : Int) && true)))) else (bif Ac a (1 : Int) (16383 : Int) then ((Ac b c (500 : Int))) else (false)))
theorem evEm (o : Bool) (a b c : Int) : Al prog oB3 na 5 f187 (Ad f187) [.agg [.d (dB o), .d (dI a), .d (dI b)], vI c] [] = some (.leaf (vB (Abt o a b c), [])) := by
 rw [Ajd]
 unfold Abt
 simp only [Gs]
theorem Aji (r : SRel) : Al prog oB3 na 5 f119 (Ad f119) [aRel r] [] =
 (bif !r.kind == 1 then (bif !(r.zon0 == false && (r.zfw0 == false && (r.zx0 == 0 && (r.zr0 == 0 && (r.zl0 == 0 && (r.zd0 == 0 && true))))) && (r.zon1 == false && (r.zfw1 == false
 && (r.zx1 == 0 && (r.zr1 == 0 && (r.zl1 == 0 && (r.zd1 == 0 && true))))) && (r.zon2 == false && (r.zfw2 == false && (r.zx2 == 0 && (r.zr2 == 0 && (r.zl2 == 0 && (r.zd2 == 0 &&
 true))))) && true))) then leB true else (bif r.min != 0 then leB true else (bif r.kre != 0 then leB true else (bif r.kim != 0 then leB true else (bif r.scheme != 0 then leB true
 else (bif r.wait != 0 then leB true else (bif r.guard != 0 then leB true else (bif r.shots != 0 then leB true else (bif r.dead != 0 then leB true else (bif r.reclaim != 0 then leB
 true else (bif !r.kind == 2 then (bif !(r.uon == false && (r.upk == 0 && (r.udl == 0 && true))) then leB true else (bif !(r.oon == false && (r.opk == 0 && (r.odl == 0 && true)))
 then leB true else (bif r.kind == 4 then (bif !(r.don == false && (r.dpk == 0 && (r.ddl == 0 && true))) then leB true else (bif !(r.ion == false && (r.ipk == 0 && (r.idl == 0 &&
 true))) then leB true else (bif !(r.fon == false && (r.fpk == 0 && (r.fdl == 0 && true))) then leB true else (bif !r.kind == 4 then (bif r.diff != 0 then leB true else (bif r.num
 != 0 then leB true else (bif r.den != 0 then leB true else leB (r.harm != 0)))) else leB false)))) else (bif !r.kind == 4 then (bif r.diff != 0 then leB true else (bif r.num != 0
 then leB true else (bif r.den != 0 then leB true else leB (r.harm != 0)))) else leB false)))) else (bif r.kind == 4 then (bif !(r.don == false && (r.dpk == 0 && (r.ddl == 0 &&
 true))) then leB true else (bif !(r.ion == false && (r.ipk == 0 && (r.idl == 0 && true))) then leB true else (bif !(r.fon == false && (r.fpk == 0 && (r.fdl == 0 && true))) then leB
 true else (bif !r.kind == 4 then (bif r.diff != 0 then leB true else (bif r.num != 0 then leB true else (bif r.den != 0 then leB true else leB (r.harm != 0)))) else leB false))))
 else (bif !r.kind == 4 then (bif r.diff != 0 then leB true else (bif r.num != 0 then leB true else (bif r.den != 0 then leB true else leB (r.harm != 0)))) else leB
 false))))))))))))) else (bif !r.kind == 2 then (bif !(r.uon == false && (r.upk == 0 && (r.udl == 0 && true))) then leB true else (bif !(r.oon == false && (r.opk == 0 && (r.odl == 0
 && true))) then leB true else (bif r.kind == 4 then (bif !(r.don == false && (r.dpk == 0 && (r.ddl == 0 && true))) then leB true else (bif !(r.ion == false && (r.ipk == 0 && (r.idl
 == 0 && true))) then leB true else (bif !(r.fon == false && (r.fpk == 0 && (r.fdl == 0 && true))) then leB true else (bif !r.kind == 4 then (bif r.diff != 0 then leB true else (bif
 r.num != 0 then leB true else (bif r.den != 0 then leB true else leB (r.harm != 0)))) else leB false)))) else (bif !r.kind == 4 then (bif r.diff != 0 then leB true else (bif r.num
 != 0 then leB true else (bif r.den != 0 then leB true else leB (r.harm != 0)))) else leB false)))) else (bif r.kind == 4 then (bif !(r.don == false && (r.dpk == 0 && (r.ddl == 0 &&
 true))) then leB true else (bif !(r.ion == false && (r.ipk == 0 && (r.idl == 0 && true))) then leB true else (bif !(r.fon == false && (r.fpk == 0 && (r.fdl == 0 && true))) then leB
 true else (bif !r.kind == 4 then (bif r.diff != 0 then leB true else (bif r.num != 0 then leB true else (bif r.den != 0 then leB true else leB (r.harm != 0)))) else leB false))))
 else (bif !r.kind == 4 then (bif r.diff != 0 then leB true else (bif r.num != 0 then leB true else (bif r.den != 0 then leB true else leB (r.harm != 0)))) else leB false)))) := by kernel_rfl
def We (r : SRel) : Bool :=
 (bif !SRel.kind r == (1 : Int) then (bif !(SRel.zon0 r == false && (SRel.zfw0 r == false && (SRel.zx0 r == (0 : Int) && (SRel.zr0 r == (0 : Int) && (SRel.zl0 r == (0 : Int) &&
 (SRel.zd0 r == (0 : Int) && true))))) && (SRel.zon1 r == false && (SRel.zfw1 r == false && (SRel.zx1 r == (0 : Int) && (SRel.zr1 r == (0 : Int) && (SRel.zl1 r == (0 : Int) &&
 (SRel.zd1 r == (0 : Int) && true))))) && (SRel.zon2 r == false && (SRel.zfw2 r == false && (SRel.zx2 r == (0 : Int) && (SRel.zr2 r == (0 : Int) && (SRel.zl2 r == (0 : Int) &&
 (SRel.zd2 r == (0 : Int) && true))))) && true))) then (true) else (bif SRel.min r != (0 : Int) then (true) else (bif SRel.kre r != (0 : Int) then (true) else (bif SRel.kim r != (0 :
 Int) then (true) else (bif SRel.scheme r != (0 : Int) then (true) else (bif SRel.wait r != (0 : Int) then (true) else (bif SRel.guard r != (0 : Int) then (true) else (bif SRel.shots
 r != (0 : Int) then (true) else (bif SRel.dead r != (0 : Int) then (true) else (bif SRel.reclaim r != (0 : Int) then (true) else (bif !SRel.kind r == (2 : Int) then (bif !(SRel.uon
 r == false && (SRel.upk r == (0 : Int) && (SRel.udl r == (0 : Int) && true))) then (true) else (bif !(SRel.oon r == false && (SRel.opk r == (0 : Int) && (SRel.odl r == (0 : Int) &&
 true))) then (true) else (bif SRel.kind r == (4 : Int) then (bif !(SRel.don r == false && (SRel.dpk r == (0 : Int) && (SRel.ddl r == (0 : Int) && true))) then (true) else (bif
 !(SRel.ion r == false && (SRel.ipk r == (0 : Int) && (SRel.idl r == (0 : Int) && true))) then (true) else (bif !(SRel.fon r == false && (SRel.fpk r == (0 : Int) && (SRel.fdl r == (0
 : Int) && true))) then (true) else (bif !SRel.kind r == (4 : Int) then (bif SRel.diff r != (0 : Int) then (true) else (bif SRel.num r != (0 : Int) then (true) else (bif SRel.den r
 != (0 : Int) then (true) else ((SRel.harm r != (0 : Int)))))) else (false))))) else (bif !SRel.kind r == (4 : Int) then (bif SRel.diff r != (0 : Int) then (true) else (bif SRel.num
 r != (0 : Int) then (true) else (bif SRel.den r != (0 : Int) then (true) else ((SRel.harm r != (0 : Int)))))) else (false))))) else (bif SRel.kind r == (4 : Int) then (bif
 !(SRel.don r == false && (SRel.dpk r == (0 : Int) && (SRel.ddl r == (0 : Int) && true))) then (true) else (bif !(SRel.ion r == false && (SRel.ipk r == (0 : Int) && (SRel.idl r == (0
 : Int) && true))) then (true) else (bif !(SRel.fon r == false && (SRel.fpk r == (0 : Int) && (SRel.fdl r == (0 : Int) && true))) then (true) else (bif !SRel.kind r == (4 : Int) then
 (bif SRel.diff r != (0 : Int) then (true) else (bif SRel.num r != (0 : Int) then (true) else (bif SRel.den r != (0 : Int) then (true) else ((SRel.harm r != (0 : Int)))))) else
 (false))))) else (bif !SRel.kind r == (4 : Int) then (bif SRel.diff r != (0 : Int) then (true) else (bif SRel.num r != (0 : Int) then (true) else (bif SRel.den r != (0 : Int) then
 (true) else ((SRel.harm r != (0 : Int)))))) else (false)))))))))))))) else (bif !SRel.kind r == (2 : Int) then (bif !(SRel.uon r == false && (SRel.upk r == (0 : Int) && (SRel.udl r
 == (0 : Int) && true))) then (true) else (bif !(SRel.oon r == false && (SRel.opk r == (0 : Int) && (SRel.odl r == (0 : Int) && true))) then (true) else (bif SRel.kind r == (4 : Int)
 then (bif !(SRel.don r == false && (SRel.dpk r == (0 : Int) && (SRel.ddl r == (0 : Int) && true))) then (true) else (bif !(SRel.ion r == false && (SRel.ipk r == (0 : Int) &&
 (SRel.idl r == (0 : Int) && true))) then (true) else (bif !(SRel.fon r == false && (SRel.fpk r == (0 : Int) && (SRel.fdl r == (0 : Int) && true))) then (true) else (bif !SRel.kind r
 == (4 : Int) then (bif SRel.diff r != (0 : Int) then (true) else (bif SRel.num r != (0 : Int) then (true) else (bif SRel.den r != (0 : Int) then (true) else ((SRel.harm r != (0 :
 Int)))))) else (false))))) else (bif !SRel.kind r == (4 : Int) then (bif SRel.diff r != (0 : Int) then (true) else (bif SRel.num r != (0 : Int) then (true) else (bif SRel.den r !=
 (0 : Int) then (true) else ((SRel.harm r != (0 : Int)))))) else (false))))) else (bif SRel.kind r == (4 : Int) then (bif !(SRel.don r == false && (SRel.dpk r == (0 : Int) &&
 (SRel.ddl r == (0 : Int) && true))) then (true) else (bif !(SRel.ion r == false && (SRel.ipk r == (0 : Int) && (SRel.idl r == (0 : Int) && true))) then (true) else (bif !(SRel.fon r
 == false && (SRel.fpk r == (0 : Int) && (SRel.fdl r == (0 : Int) && true))) then (true) else (bif !SRel.kind r == (4 : Int) then (bif SRel.diff r != (0 : Int) then (true) else (bif
 SRel.num r != (0 : Int) then (true) else (bif SRel.den r != (0 : Int) then (true) else ((SRel.harm r != (0 : Int)))))) else (false))))) else (bif !SRel.kind r == (4 : Int) then (bif
 SRel.diff r != (0 : Int) then (true) else (bif SRel.num r != (0 : Int) then (true) else (bif SRel.den r != (0 : Int) then (true) else ((SRel.harm r != (0 : Int)))))) else
 (false)))))
theorem ev88 (r : SRel) : Al prog oB3 na 5 f119 (Ad f119) [aRel r] [] = some (.leaf (vB (We r), [])) := by
 rw [Aji]
 unfold We
 simp only [Gs]
theorem Ahp (r : SRel) : Al prog oB3 na 5 f185 (Ad f185) [aRel r] [] =
 (bif !r.zon0 then (bif !(r.zon0 == false && (r.zfw0 == false && (r.zx0 == 0 && (r.zr0 == 0 && (r.zl0 == 0 && (r.zd0 == 0 && true)))))) then leB false else (bif !r.zon1 then (bif
 !(r.zon1 == false && (r.zfw1 == false && (r.zx1 == 0 && (r.zr1 == 0 && (r.zl1 == 0 && (r.zd1 == 0 && true)))))) then leB false else (bif !r.zon2 then (bif !(r.zon2 == false &&
 (r.zfw2 == false && (r.zx2 == 0 && (r.zr2 == 0 && (r.zl2 == 0 && (r.zd2 == 0 && true)))))) then leB false else (bif r.min == 0 then (bif r.kre == 0 then leB (r.kim == 0) else leB
 false) else leB false)) else (bif !Ac r.zx2 1 4000 then leB false else (bif !Ac r.zr2 0 4000 then leB false else (bif !Ac r.zl2 0 4000 then leB false else (bif !Ac r.zd2 0 500 then
 leB false else (bif Ac r.min 1 16383 then (bif Ac r.kre (-200) 200 then leB (Ac r.kim (-200) 200) else leB false) else leB false))))))) else (bif !Ac r.zx1 1 4000 then leB false
 else (bif !Ac r.zr1 0 4000 then leB false else (bif !Ac r.zl1 0 4000 then leB false else (bif !Ac r.zd1 0 500 then leB false else (bif !r.zon2 then (bif !(r.zon2 == false &&
 (r.zfw2 == false && (r.zx2 == 0 && (r.zr2 == 0 && (r.zl2 == 0 && (r.zd2 == 0 && true)))))) then leB false else (bif Ac r.min 1 16383 then (bif Ac r.kre (-200) 200 then leB (Ac
 r.kim (-200) 200) else leB false) else leB false)) else (bif !Ac r.zx2 1 4000 then leB false else (bif !Ac r.zr2 0 4000 then leB false else (bif !Ac r.zl2 0 4000 then leB false
 else (bif !Ac r.zd2 0 500 then leB false else (bif Ac r.min 1 16383 then (bif Ac r.kre (-200) 200 then leB (Ac r.kim (-200) 200) else leB false) else leB false)))))))))))) else
 (bif !Ac r.zx0 1 4000 then leB false else (bif !Ac r.zr0 0 4000 then leB false else (bif !Ac r.zl0 0 4000 then leB false else (bif !Ac r.zd0 0 500 then leB false else (bif !r.zon1
 then (bif !(r.zon1 == false && (r.zfw1 == false && (r.zx1 == 0 && (r.zr1 == 0 && (r.zl1 == 0 && (r.zd1 == 0 && true)))))) then leB false else (bif !r.zon2 then (bif !(r.zon2 ==
 false && (r.zfw2 == false && (r.zx2 == 0 && (r.zr2 == 0 && (r.zl2 == 0 && (r.zd2 == 0 && true)))))) then leB false else (bif Ac r.min 1 16383 then (bif Ac r.kre (-200) 200 then leB
 (Ac r.kim (-200) 200) else leB false) else leB false)) else (bif !Ac r.zx2 1 4000 then leB false else (bif !Ac r.zr2 0 4000 then leB false else (bif !Ac r.zl2 0 4000 then leB false
 else (bif !Ac r.zd2 0 500 then leB false else (bif Ac r.min 1 16383 then (bif Ac r.kre (-200) 200 then leB (Ac r.kim (-200) 200) else leB false) else leB false))))))) else (bif !Ac
 r.zx1 1 4000 then leB false else (bif !Ac r.zr1 0 4000 then leB false else (bif !Ac r.zl1 0 4000 then leB false else (bif !Ac r.zd1 0 500 then leB false else (bif !r.zon2 then (bif
 !(r.zon2 == false && (r.zfw2 == false && (r.zx2 == 0 && (r.zr2 == 0 && (r.zl2 == 0 && (r.zd2 == 0 && true)))))) then leB false else (bif Ac r.min 1 16383 then (bif Ac r.kre (-200)
 200 then leB (Ac r.kim (-200) 200) else leB false) else leB false)) else (bif !Ac r.zx2 1 4000 then leB false else (bif !Ac r.zr2 0 4000 then leB false else (bif !Ac r.zl2 0 4000
 then leB false else (bif !Ac r.zd2 0 500 then leB false else (bif Ac r.min 1 16383 then (bif Ac r.kre (-200) 200 then leB (Ac r.kim (-200) 200) else leB false) else leB
 false)))))))))))))))) := by kernel_rfl
def Um (r : SRel) : Bool :=
 (bif !SRel.zon0 r then (bif !(SRel.zon0 r == false && (SRel.zfw0 r == false && (SRel.zx0 r == (0 : Int) && (SRel.zr0 r == (0 : Int) && (SRel.zl0 r == (0 : Int) && (SRel.zd0 r == (0
 : Int) && true)))))) then (false) else (bif !SRel.zon1 r then (bif !(SRel.zon1 r == false && (SRel.zfw1 r == false && (SRel.zx1 r == (0 : Int) && (SRel.zr1 r == (0 : Int) &&
 (SRel.zl1 r == (0 : Int) && (SRel.zd1 r == (0 : Int) && true)))))) then (false) else (bif !SRel.zon2 r then (bif !(SRel.zon2 r == false && (SRel.zfw2 r == false && (SRel.zx2 r == (0
 : Int) && (SRel.zr2 r == (0 : Int) && (SRel.zl2 r == (0 : Int) && (SRel.zd2 r == (0 : Int) && true)))))) then (false) else (bif SRel.min r == (0 : Int) then (bif SRel.kre r == (0 :
 Int) then ((SRel.kim r == (0 : Int))) else (false)) else (false))) else (bif !Ac (SRel.zx2 r) (1 : Int) (4000 : Int) then (false) else (bif !Ac (SRel.zr2 r) (0 : Int) (4000
 : Int) then (false) else (bif !Ac (SRel.zl2 r) (0 : Int) (4000 : Int) then (false) else (bif !Ac (SRel.zd2 r) (0 : Int) (500 : Int) then (false) else (bif Ac (SRel.min
 r) (1 : Int) (16383 : Int) then (bif Ac (SRel.kre r) (-200 : Int) (200 : Int) then ((Ac (SRel.kim r) (-200 : Int) (200 : Int))) else (false)) else (false)))))))) else (bif
 !Ac (SRel.zx1 r) (1 : Int) (4000 : Int) then (false) else (bif !Ac (SRel.zr1 r) (0 : Int) (4000 : Int) then (false) else (bif !Ac (SRel.zl1 r) (0 : Int) (4000 : Int)
 then (false) else (bif !Ac (SRel.zd1 r) (0 : Int) (500 : Int) then (false) else (bif !SRel.zon2 r then (bif !(SRel.zon2 r == false && (SRel.zfw2 r == false && (SRel.zx2 r == (0
 : Int) && (SRel.zr2 r == (0 : Int) && (SRel.zl2 r == (0 : Int) && (SRel.zd2 r == (0 : Int) && true)))))) then (false) else (bif Ac (SRel.min r) (1 : Int) (16383 : Int) then (bif
 Ac (SRel.kre r) (-200 : Int) (200 : Int) then ((Ac (SRel.kim r) (-200 : Int) (200 : Int))) else (false)) else (false))) else (bif !Ac (SRel.zx2 r) (1 : Int) (4000 : Int)
 then (false) else (bif !Ac (SRel.zr2 r) (0 : Int) (4000 : Int) then (false) else (bif !Ac (SRel.zl2 r) (0 : Int) (4000 : Int) then (false) else (bif !Ac (SRel.zd2 r) (0
 : Int) (500 : Int) then (false) else (bif Ac (SRel.min r) (1 : Int) (16383 : Int) then (bif Ac (SRel.kre r) (-200 : Int) (200 : Int) then ((Ac (SRel.kim r) (-200 : Int)
 (200 : Int))) else (false)) else (false))))))))))))) else (bif !Ac (SRel.zx0 r) (1 : Int) (4000 : Int) then (false) else (bif !Ac (SRel.zr0 r) (0 : Int) (4000 : Int) then
 (false) else (bif !Ac (SRel.zl0 r) (0 : Int) (4000 : Int) then (false) else (bif !Ac (SRel.zd0 r) (0 : Int) (500 : Int) then (false) else (bif !SRel.zon1 r then (bif
 !(SRel.zon1 r == false && (SRel.zfw1 r == false && (SRel.zx1 r == (0 : Int) && (SRel.zr1 r == (0 : Int) && (SRel.zl1 r == (0 : Int) && (SRel.zd1 r == (0 : Int) && true)))))) then
 (false) else (bif !SRel.zon2 r then (bif !(SRel.zon2 r == false && (SRel.zfw2 r == false && (SRel.zx2 r == (0 : Int) && (SRel.zr2 r == (0 : Int) && (SRel.zl2 r == (0 : Int) &&
 (SRel.zd2 r == (0 : Int) && true)))))) then (false) else (bif Ac (SRel.min r) (1 : Int) (16383 : Int) then (bif Ac (SRel.kre r) (-200 : Int) (200 : Int) then ((Ac
 (SRel.kim r) (-200 : Int) (200 : Int))) else (false)) else (false))) else (bif !Ac (SRel.zx2 r) (1 : Int) (4000 : Int) then (false) else (bif !Ac (SRel.zr2 r) (0 : Int)
 (4000 : Int) then (false) else (bif !Ac (SRel.zl2 r) (0 : Int) (4000 : Int) then (false) else (bif !Ac (SRel.zd2 r) (0 : Int) (500 : Int) then (false) else (bif Ac
 (SRel.min r) (1 : Int) (16383 : Int) then (bif Ac (SRel.kre r) (-200 : Int) (200 : Int) then ((Ac (SRel.kim r) (-200 : Int) (200 : Int))) else (false)) else (false))))))))
 else (bif !Ac (SRel.zx1 r) (1 : Int) (4000 : Int) then (false) else (bif !Ac (SRel.zr1 r) (0 : Int) (4000 : Int) then (false) else (bif !Ac (SRel.zl1 r) (0 : Int) (4000
 : Int) then (false) else (bif !Ac (SRel.zd1 r) (0 : Int) (500 : Int) then (false) else (bif !SRel.zon2 r then (bif !(SRel.zon2 r == false && (SRel.zfw2 r == false && (SRel.zx2 r
 == (0 : Int) && (SRel.zr2 r == (0 : Int) && (SRel.zl2 r == (0 : Int) && (SRel.zd2 r == (0 : Int) && true)))))) then (false) else (bif Ac (SRel.min r) (1 : Int) (16383 : Int)
 then (bif Ac (SRel.kre r) (-200 : Int) (200 : Int) then ((Ac (SRel.kim r) (-200 : Int) (200 : Int))) else (false)) else (false))) else (bif !Ac (SRel.zx2 r) (1 : Int)
 (4000 : Int) then (false) else (bif !Ac (SRel.zr2 r) (0 : Int) (4000 : Int) then (false) else (bif !Ac (SRel.zl2 r) (0 : Int) (4000 : Int) then (false) else (bif !Ac
 (SRel.zd2 r) (0 : Int) (500 : Int) then (false) else (bif Ac (SRel.min r) (1 : Int) (16383 : Int) then (bif Ac (SRel.kre r) (-200 : Int) (200 : Int) then ((Ac (SRel.kim
 r) (-200 : Int) (200 : Int))) else (false)) else (false)))))))))))))))))
theorem AkT (r : SRel) : Al prog oB3 na 5 f185 (Ad f185) [aRel r] [] = some (.leaf (vB (Um r), [])) := by
 rw [Ahp]
 unfold Um
 simp only [Gs]
theorem Ajh (r : SRel) : Al prog oB3 na 5 f121 (Ad f121) [aRel r] [] =
 (bif r.zon0 then (bif r.zon1 then (bif r.scheme == 1 then (bif !r.zfw0 then leB true else leB !r.zfw1) else (bif r.scheme == 2 then leB !r.zfw1 else (bif r.scheme == 3 then (bif
 !r.zfw1 then leB true else (bif !r.zon2 then leB true else leB r.zfw2)) else leB false))) else (bif r.scheme == 1 then (bif !r.zfw0 then leB true else leB true) else (bif r.scheme
 == 2 then leB true else (bif r.scheme == 3 then leB true else leB false)))) else (bif r.zon1 then (bif r.scheme == 1 then leB true else (bif r.scheme == 2 then leB !r.zfw1 else
 (bif r.scheme == 3 then (bif !r.zfw1 then leB true else (bif !r.zon2 then leB true else leB r.zfw2)) else leB false))) else (bif r.scheme == 1 then leB true else (bif r.scheme == 2
 then leB true else (bif r.scheme == 3 then leB true else leB false))))) := by kernel_rfl
def Wd (r : SRel) : Bool :=
 (bif SRel.zon0 r then (bif SRel.zon1 r then (bif SRel.scheme r == (1 : Int) then (bif !SRel.zfw0 r then (true) else (!SRel.zfw1 r)) else (bif SRel.scheme r == (2 : Int) then
 (!SRel.zfw1 r) else (bif SRel.scheme r == (3 : Int) then (bif !SRel.zfw1 r then (true) else (bif !SRel.zon2 r then (true) else ((SRel.zfw2 r)))) else (false)))) else (bif
 SRel.scheme r == (1 : Int) then (bif !SRel.zfw0 r then (true) else (true)) else (bif SRel.scheme r == (2 : Int) then (true) else (bif SRel.scheme r == (3 : Int) then (true) else
 (false))))) else (bif SRel.zon1 r then (bif SRel.scheme r == (1 : Int) then (true) else (bif SRel.scheme r == (2 : Int) then (!SRel.zfw1 r) else (bif SRel.scheme r == (3 : Int) then
 (bif !SRel.zfw1 r then (true) else (bif !SRel.zon2 r then (true) else ((SRel.zfw2 r)))) else (false)))) else (bif SRel.scheme r == (1 : Int) then (true) else (bif SRel.scheme r ==
 (2 : Int) then (true) else (bif SRel.scheme r == (3 : Int) then (true) else (false))))))
theorem ev90 (r : SRel) : Al prog oB3 na 5 f121 (Ad f121) [aRel r] [] = some (.leaf (vB (Wd r), [])) := by
 rw [Ajh]
 unfold Wd
 simp only [Gs]
def S2 : Ann := A4 [(100003, ⟨[1], []⟩), (100005, ⟨[1], []⟩), (100007, ⟨[1], []⟩), (100009, ⟨[1], []⟩), (100011, ⟨[1], []⟩), (100013, ⟨[1], []⟩)]
def Aef (okr zo : LB) (r : SRel) (g m : Nat)  := GK prog (oNu okr zo) S2 0 g f120 3 m ⟨frm [(1, .c (.ptr 0 0))] 0 f120.ntmps, [(0, Blk.cells (List.map C.d (relC r)) 64)], 1⟩
def Yo (okr zo : LB) (r : SRel) (g m : Nat)  := GK prog (oNu okr zo) S2 0 g f120 5 m ⟨frm [(1, .c (.ptr 0 0))] 0 f120.ntmps, [(0, Blk.cells (List.map C.d (relC r)) 64)], 1⟩
def AhU (okr zo : LB) (r : SRel) (g m : Nat)  := GK prog (oNu okr zo) S2 0 g f120 7 m ⟨frm [(1, .c (.ptr 0 0))] 0 f120.ntmps, [(0, Blk.cells (List.map C.d (relC r)) 64)], 1⟩
def Yn (okr zo : LB) (r : SRel) (g m : Nat)  := GK prog (oNu okr zo) S2 0 g f120 9 m ⟨frm [(1, .c (.ptr 0 0))] 0 f120.ntmps, [(0, Blk.cells (List.map C.d (relC r)) 64)], 1⟩
def P2 (okr zo : LB) (r : SRel) (g m : Nat)  := GK prog (oNu okr zo) S2 0 g f120 11 m ⟨frm [(1, .c (.ptr 0 0))] 0 f120.ntmps, [(0, Blk.cells (List.map C.d (relC r)) 64)], 1⟩
def Xf (okr zo : LB) (r : SRel) (g m : Nat)  := GK prog (oNu okr zo) S2 0 g f120 13 m ⟨frm [(1, .c (.ptr 0 0))] 0 f120.ntmps, [(0, Blk.cells (List.map C.d (relC r)) 64)], 1⟩
theorem b89 : f120.body = some (Ad f120) := by kernel_rfl
theorem ev89 (okr zo : LB) (r : SRel) (g : Nat) : Al prog (oNu okr zo) S2 g f120 (Ad f120) [aRel r] [] =
 (bif okr [gA (relC r)] then (bif !zo [gA (relC r)] then leB false else (bif !Ac r.scheme 0 3 then leB false else (bif !Ac r.guard 0 50 then
 leB false else (bif r.scheme == 0 then (bif r.guard != 0 then leB false else Aef okr zo r g g) else Aef okr zo r g g)))) else none) := by kernel_rfl
theorem Aie (okr zo : LB) (r : SRel) (g m : Nat) : Aef okr zo r g (m + 1) =
 (bif r.scheme == 3 then (bif !Ac r.wait 1 50 then leB false else (bif r.scheme != 3 then (bif r.wait != 0 then leB false else Yo okr zo r g g) else Yo okr zo r g g)) else (bif
 r.scheme != 3 then (bif r.wait != 0 then leB false else Yo okr zo r g g) else Yo okr zo r g g)) := by kernel_rfl
theorem Aid (okr zo : LB) (r : SRel) (g m : Nat) : Yo okr zo r g (m + 1) =
 (bif !elOk r.don r.dpk r.ddl 0 then leB false else (bif !elOk r.uon r.upk r.udl 0 then leB false else (bif !elOk r.oon r.opk r.odl 0 then leB false else (bif !elOk r.fon r.fpk
 r.fdl 1 then leB false else AhU okr zo r g g)))) := by kernel_rfl
theorem Aic (okr zo : LB) (r : SRel) (g m : Nat) : AhU okr zo r g (m + 1) =
 (bif r.ion then (bif !Ac r.ipk 1 16383 then leB false else (bif !Ac r.idl 1 1000 then leB false else (bif !r.ion then (bif !(r.ion == false && (r.ipk == 0 && (r.idl == 0 && true)))
 then leB false else Yn okr zo r g g) else Yn okr zo r g g))) else (bif !r.ion then (bif !(r.ion == false && (r.ipk == 0 && (r.idl == 0 && true))) then leB false else Yn okr zo r g
 g) else Yn okr zo r g g)) := by kernel_rfl
theorem Aib (okr zo : LB) (r : SRel) (g m : Nat) : Yn okr zo r g (m + 1) =
 (bif !Ac r.shots 0 3 then leB false else (bif r.shots == 0 then (bif r.dead != 0 then leB false else (bif r.reclaim != 0 then leB false else (bif decide (r.shots > 0) then (bif !Ac
 r.dead 1 100 then leB false else (bif !Ac r.reclaim 1 1000 then leB false else P2 okr zo r g g)) else P2 okr zo r g g))) else (bif decide (r.shots > 0) then (bif !Ac r.dead 1 100
 then leB false else (bif !Ac r.reclaim 1 1000 then leB false else P2 okr zo r g g)) else P2 okr zo r g g))) := by kernel_rfl
theorem Agn (okr zo : LB) (r : SRel) (g m : Nat) : P2 okr zo r g (m + 1) =
 (bif !Ac r.diff 0 16383 then leB false else (bif r.diff == 0 then (bif r.num != 0 then leB false else (bif r.den != 0 then leB false else (bif r.harm != 0 then leB false else Xf
 okr zo r g g))) else Xf okr zo r g g)) := by kernel_rfl
theorem Agm (okr zo : LB) (r : SRel) (g m : Nat) : Xf okr zo r g (m + 1) =
 (bif r.diff == 0 then leB true else (bif Ac r.den 1 100 then (bif Ac r.num 0 r.den then leB (Ac r.harm 0 100) else leB false) else leB false)) := by kernel_rfl
end Go.Proofs.YtbpndheehcbldaaGreatDoor.se
namespace Go.Proofs.YtbpndheehcbldaaGreatDoor.se
open Go.RowKit Go.Eb Go.Proofs.YtbpndheehcbldaaGreatDoor.st
theorem bIx : f52.body = some (Ad f52) := by kernel_rfl
theorem sIx {r : Orc} (h : OrcS prog r) : OrcS prog (oIx (okG eIx cIx) (fun x => idxF (theT eIx x).2 0 (theT eIx x).1) r) :=
 .cons (.lt (r := fun (a : List ByteArray × ByteArray) => vI (idxF a.2 0 a.1)) func52 bIx (fun _ => rfl) fun a h => c46 a.1 a.2 (A7 h)) h
theorem Alm (a b : Bool) : (bif a then (bif a then true else false) else b) = bif a then true else b := by cases a <;> rfl
theorem Ail (s : ByteArray) : Qy s = Cu s := by
 have h : ∀ a : ByteArray, (a.toList == s.toList) = (s.toList == a.toList) := fun a => Bool.beq_comm ..
 unfold Qy Cu
 simp only [h, Alm]
theorem c133 (s : ByteArray) : CX prog 188 [vS s] [] (vB (Cu s)) [] := by
 have hs : OrcS prog (Orc.cons 52 (inl prog Orc.nil na 20 f52) Orc.nil) := .cons (.inl .nil func52 bIx) .nil
 have := Ax hs.ok func188 (by kernel_rfl) rfl (AkS s)
 rw [Ail] at this
 exact this
theorem c91 (r : SRel) (hr : B6 r = true) : CX prog 122 [aRel r] [] (vB (!Bm r)) [] := by
 obtain ⟨h1, h2, h3, h4, h5⟩ := Ga hr
 obtain ⟨g, hg⟩ : ∃ g, r.sets.length < g := ⟨r.sets.length + 1, by omega⟩
 refine Ax (Orc.nil_ok _) func122 b91 rfl ((ev91 r g).trans ?_)
 have l1 := E5 (p := F3) (l := r.sets) (d0 := set0) (L := fun m i => Acs r g m i) (A := lB true) (B := lB false) (fun m k hk => by
  rw [Aeq, lt1 hk, ge0, tn, nx hk h2]
  unfold F3
  have e1 : decide (((r.sets.getD k set0).sigs.length : Int) < 1) = !decide (1 <= (r.sets.getD k set0).sigs.length) := by
   rw [Bool.eq_iff_iff, decide_eq_true_eq, Bool.not_eq_true', decide_eq_false_iff_not]; omega
  have e2 : decide (((r.sets.getD k set0).sigs.length : Int) > 24) = !decide ((r.sets.getD k set0).sigs.length <= 24) := by
   rw [Bool.eq_iff_iff, decide_eq_true_eq, Bool.not_eq_true', decide_eq_false_iff_not]; omega
  rw [e1, e2]
  cases decide (1 <= (r.sets.getD k set0).sigs.length) <;> cases decide ((r.sets.getD k set0).sigs.length <= 24) <;> rfl) (fun m => by rw [Aeq, lt0 (Nat.lt_irrefl _)]; rfl) g 0 (by omega) (by omega)
 have e1 : Acs r g g 0 = _ := l1
 have g1 : ∀ n k : Nat, decide ((n : Int) > (k : Int)) = !decide (n <= k) := fun n k => by
  rw [Bool.eq_iff_iff, decide_eq_true_eq, Bool.not_eq_true', decide_eq_false_iff_not]; omega
 have g16 := g1 r.rules.length 16
 have g4 := g1 r.sets.length 4
 have g4' := g1 r.pubs.length 4
 have g24 := g1 r.subs.length 24
 have f16 : decide ((r.rules.length : Int) > 16) = !decide (r.rules.length <= 16) := g16
 have f4 : decide ((r.sets.length : Int) > 4) = !decide (r.sets.length <= 4) := g4
 have f4' : decide ((r.pubs.length : Int) > 4) = !decide (r.pubs.length <= 4) := g4'
 have f24 : decide ((r.subs.length : Int) > 24) = !decide (r.subs.length <= 24) := g24
 rw [e1, f16, f4, f4', f24]
 simp only [List.drop_zero]
 unfold Bm
 cases decide (r.rules.length <= 16) <;> cases decide (r.sets.length <= 4) <;> cases decide (r.pubs.length <= 4) <;> cases decide (r.subs.length <= 24) <;> cases r.sets.any F3 <;> rfl
theorem lp87 (s : SSta) (b : List SRel) (r : SRel) (g : Nat) (hb : b.length <= 9223372036854775807) (hg : b.length < g) : J7 s b r g g 0 = lN (Xp (b.map SRel.bay) r.bay) := by
 have l1 := E5 (p := fun x : SRel => x.bay == r.bay) (l := b) (d0 := rel0) (L := fun m i => J7 s b r g m i) (A := lN 12) (B := lN 0) (fun m k hk => by
  rw [Zp, lt1 hk, ge0, tn, nx hk hb]; rfl) (fun m => by rw [Zp, lt0 (Nat.lt_irrefl _)]; rfl) g 0 (by omega) (by omega)
 have e1 : J7 s b r g g 0 = _ := l1
 rw [e1]
 simp only [List.drop_zero]
 unfold Xp
 rw [List.any_map]
 have e2 : (b.any fun x => x.bay == r.bay) = b.any ((fun m => r.bay == m) ∘ SRel.bay) := by
  congr 1; funext x; exact Bool.beq_comm ..
 rw [e2]
 cases b.any ((fun m => r.bay == m) ∘ SRel.bay) <;> rfl
theorem c87 (s : SSta) (b : List SRel) (r : SRel) (hs : s.bays.length <= 9223372036854775807) (hb : Ak b = true) : CX prog 118 [aSta s, .c (.d (Cq b)), aRel r] [] (vI (Bg s.bays (b.map SRel.bay) r)) [] := by
 obtain ⟨g, hg⟩ : ∃ g, b.length < g := ⟨b.length + 1, by omega⟩
 refine Ax (Orc.nil_ok _) func118 b87 rfl ((ev87 s b r g).trans ?_)
 rw [lp87 s b r g (A7 hb) hg]
 have w : Ac r.bay 0 ((s.bays.length : Int) - 1) = (!decide (r.bay < 0) && !decide (r.bay >= (s.bays.length : Int))) := by
  unfold Ac
  by_cases h1 : r.bay < 0
  ·rw [decide_eq_true h1, decide_eq_false (by omega)]; rfl
  ·by_cases h2 : r.bay >= (s.bays.length : Int)
   ·rw [decide_eq_false h1, decide_eq_true h2, decide_eq_false (show ¬ r.bay <= (s.bays.length : Int) - 1 by omega)]; simp
   ·rw [decide_eq_false h1, decide_eq_false h2, decide_eq_true (show r.bay <= (s.bays.length : Int) - 1 by omega), decide_eq_true (show r.bay >= 0 by omega)]; rfl
 have i : r.bay < (0 : Int) \/ r.bay >= (s.bays.length : Int) \/ (decide ((0 : Int) <= r.bay) && decide (r.bay < (s.bays.length : Int))) = true := by
  by_cases h1 : r.bay < 0
  ·exact .inl h1
  ·by_cases h2 : r.bay >= (s.bays.length : Int)
   ·exact .inr (.inl h2)
   ·refine .inr (.inr ?_); rw [decide_eq_true (by omega), decide_eq_true (by omega)]; rfl
 unfold Bg Rv
 rw [w]
 generalize Xp (b.map SRel.bay) r.bay = sb
 generalize (s.bays.getD r.bay.toNat bay0).kind = kd
 rcases i with h | h | h
 ·rw [decide_eq_true h]
  cases (r.kind == 1) <;> cases (r.kind == 2) <;> cases (r.kind == 3) <;> cases (r.kind == 4) <;> cases (r.bay != -1) <;> rfl
 ·rw [decide_eq_true h]
  cases decide (r.bay < 0) <;> cases (r.kind == 1) <;> cases (r.kind == 2) <;> cases (r.kind == 3) <;> cases (r.kind == 4) <;> cases (r.bay != -1) <;> rfl
 ·rw [h]
  cases decide (r.bay < 0) <;> cases decide (r.bay >= (s.bays.length : Int)) <;> cases (r.kind == 1) <;> cases (r.kind == 2) <;> cases (r.kind == 3) <;> cases (r.kind == 4) <;> cases (r.bay != -1) <;> cases (kd != 1) <;> cases (kd != 2) <;> cases (kd != 3) <;> rfl
abbrev ix2 : LI := fun x => idxF (theT eIx x).2 0 (theT eIx x).1
abbrev ok2 : LB := okG eIx cIx
theorem Adl {n : Nat} {f : RD} {l : List ByteArray} (hr : RL busC e0 n f l) (hn : n <= 9000) (s : ByteArray) : ok2 [.c (.d (.sl 1 n f)), vS s] = true /\ decide (ix2 [.c (.d (.sl 1 n f)), vS s] >= 0) = inB l s := by
 obtain ⟨h1, h2⟩ := AiT hr hn s
 refine ⟨h1, ?_⟩
 unfold ix2
 rw [h2, Qw]
theorem s92 : OrcS prog (o92 Ae Cu ok2 ix2) := sIx (.cons (.p Em c16) (.cons (.p Em c133) .nil))
theorem AiJ (r : SRel) (g mo n : Nat) (f : RD) (k : Nat) (hs : (r.rules.getD k Bb).text.size <= 120) (hk : k < r.rules.length) (hl : r.rules.length <= 9000) (hn : n <= 9000) : ∀ (m j : Nat), j <= (r.rules.getD k Bb).text.size -> (r.rules.getD k Bb).text.size - j < m ->
  Tk Ae Cu ok2 ix2 r g mo m n f k j = bif ((r.rules.getD k Bb).text.data.toList.drop j).any Kp then lN 5 else U5 Ae Cu ok2 ix2 r g mo (n + 1) (appF n f (Au (busC (r.rules.getD k Bb).name) 1)) ((k + 1 : Nat) : Int)
 | 0, j, _, h => by omega
 | m + 1, j, hj, h => by
  rw [Agl, tn]
  have ih := AiJ r g mo n f k hs hk hl hn m (j + 1)
  generalize hx : r.rules.getD k Bb = x at ih hs hj h ⊢
  by_cases hlt : j < x.text.size
  ·have hlt' : j < x.text.data.toList.length := by simpa using hlt
   rw [Am (d := 0) hlt', lt1 hlt, ge0, tn, nx hlt (by omega), ih (by omega) (by omega)]
   simp only [tt, cond_true, List.any_cons, Kp]
   generalize decide (((x.text.data.toList.getD j 0).toNat : Int) < 32) = a1
   generalize decide (((x.text.data.toList.getD j 0).toNat : Int) > 126) = a2
   generalize (((x.text.data.toList.getD j 0).toNat : Int) == 34) = a3
   cases a1 <;> cases a2 <;> cases a3 <;> rfl
  ·rw [lt0 hlt, List.drop_of_length_le (by simp; omega), Fv hn, nx hk (by omega)]
   rfl
theorem c92 (r : SRel) (h1 : r.rules.length <= 9000) : CX prog 123 [aRel r] [] (vI (Dt r.rules)) [] := by
 obtain ⟨g, g1, g2⟩ : ∃ g, r.rules.length < g /\ 120 < g := ⟨r.rules.length + 121, by omega, by omega⟩
 refine Ax s92.ok func123 b92 rfl ((ev92 _ _ _ _ r g).trans ?_)
 have key := Er (valid := He) (key := SRule.name) (rest := fun x => Ej x.text) (l := r.rules) (d0 := Bb) (L := fun m n f i => U5 Ae Cu ok2 ix2 r g m n f i) (NX := lN 0) h1 (fun m k n f seen hk hr hn => by
  obtain ⟨q1, q2⟩ := Adl hr hn (r.rules.getD k Bb).name
  show U5 Ae Cu ok2 ix2 r g (m + 1) n f k = _
  rw [Aep, lt1 hk, ge0, tn]
  have q1' : ok2 [AV.c (C.d (D.sl 1 n f)), AV.c (C.d (D.v (Value.string (r.rules.getD k Bb).name)))] = true := q1
  have q2' : decide (ix2 [AV.c (C.d (D.sl 1 n f)), AV.c (C.d (D.v (Value.string (r.rules.getD k Bb).name)))] >= 0) = inB seen (r.rules.getD k Bb).name := q2
  rw [q1', q2']
  have hi := fun hs => AiJ r g m n f k hs hk h1 hn g 0 (by omega) (by omega)
  unfold He Ej
  simp only [tt, cond_true]
  have e120 : decide (((r.rules.getD k Bb).text.size : Int) > 120) = decide (120 < (r.rules.getD k Bb).text.size) := by
   rw [Bool.eq_iff_iff, decide_eq_true_eq, decide_eq_true_eq]; omega
  rw [e120]
  cases Ae (r.rules.getD k Bb).name with
  | false => rfl
  | true =>
   cases Cu (r.rules.getD k Bb).name with
   | true => rfl
   | false =>
    cases inB seen (r.rules.getD k Bb).name with
    | true => rfl
    | false =>
     by_cases hs : 120 < (r.rules.getD k Bb).text.size
     ·rw [decide_eq_true hs]; rfl
     ·have hi' : Tk Ae Cu ok2 ix2 r g m g n f k 0 = _ := hi (by omega)
      rw [decide_eq_false hs]
      simp only [Bool.not_true, Bool.not_false, Bool.and_self, cond_true, cond_false]
      refine Eq.trans hi' ?_
      simp only [List.drop_zero]
      cases ((r.rules.getD k Bb).text.data.toList.any Kp) <;> rfl) (fun m n f => by show U5 Ae Cu ok2 ix2 r g (m + 1) n f (r.rules.length : Nat) = _; rw [Aep, lt0 (Nat.lt_irrefl _)]; rfl) g 0 0 (fun _ => []) [] (.nil _) rfl (by omega) (by omega)
 refine Eq.trans (b := bif Dt r.rules != 0 then lN (Dt r.rules) else lN 0) key ?_
 cases hz : (Dt r.rules != 0) with
 | true => rfl
 | false =>
  have : Dt r.rules = 0 := by simpa using hz
  rw [this]; rfl
theorem cBt (a : Int × Int × Int) : CX prog 186 [vI a.1, vI a.2.1, vI a.2.2] [] (vB (Ac a.1 a.2.1 a.2.2)) [] := by
 refine Ax (Orc.nil_ok _) func186 (by kernel_rfl) rfl ((evBt a.1 a.2.1 a.2.2).trans ?_)
 unfold Abv Ac
 cases decide (a.1 >= a.2.1) <;> rfl
theorem s93 : OrcS prog (o93 Ae ok2 ix2) := sIx (.cons (.p Em c16) (.cons (.p Q5 cBt) .nil))
theorem Akb (r : SRel) (g mo n : Nat) (f : RD) (k : Nat) (seen : List ByteArray) (hr : RL busC e0 n f seen) (hk : k < r.sets.length) (hl : r.sets.length <= 9000) (hn : n <= 9000) (hs : Jk (r.sets.getD k set0) = true) (hg : (r.sets.getD k set0).sigs.length < g) :
  Rb Ae ok2 ix2 r g mo g n f k 0 = bif !(r.sets.getD k set0).sigs.all Ae then lN 7 else bif inB seen (r.sets.getD k set0).name then lN 8 else Tj Ae ok2 ix2 r g mo (n + 1) (appF n f (Au (busC (r.sets.getD k set0).name) 1)) ((k + 1 : Nat) : Int) := by
 have hS := A7 hs
 obtain ⟨q1, q2⟩ := Adl hr hn (r.sets.getD k set0).name
 have q1' : ok2 [AV.c (C.d (D.sl 1 n f)), AV.c (C.d (D.v (Value.string (r.sets.getD k set0).name)))] = true := q1
 have q2' : decide (ix2 [AV.c (C.d (D.sl 1 n f)), AV.c (C.d (D.v (Value.string (r.sets.getD k set0).name)))] >= 0) = inB seen (r.sets.getD k set0).name := q2
 have l1 := E5 (p := fun s => !Ae s) (l := (r.sets.getD k set0).sigs) (d0 := e0) (L := fun m i => Rb Ae ok2 ix2 r g mo m n f k i) (A := lN 7) (B := bif inB seen (r.sets.getD k set0).name then lN 8 else Tj Ae ok2 ix2 r g mo (n + 1) (appF n f (Au (busC (r.sets.getD k set0).name) 1)) ((k + 1 : Nat) : Int)) (fun m j hj => by
  show Rb Ae ok2 ix2 r g mo (m + 1) n f k j = _
  rw [Aen, tn, lt1 hj, ge0, tn, nx hj hS]; rfl) (fun m => by
  show Rb Ae ok2 ix2 r g mo (m + 1) n f k ((r.sets.getD k set0).sigs.length : Nat) = _
  rw [Aen, tn, lt0 (Nat.lt_irrefl _), q1', q2', Fv hn, nx hk (by omega)]; rfl) g 0 (by omega) (by omega)
 have e1 : Rb Ae ok2 ix2 r g mo g n f k 0 = _ := l1
 rw [e1]
 simp only [List.drop_zero]
 rw [<- Afh, Bool.not_not]
theorem AiU (x : SPub) : Dr x = bif !Ac x.fst 1 100 then 2 else bif !Ac x.max x.fst 1000 then 2 else 0 := by
 unfold Dr Ac
 cases decide (x.fst >= 1) <;> cases decide (x.fst <= 100) <;> cases decide (x.max >= x.fst) <;> cases decide (x.max <= 1000) <;> rfl
def Fb (r : SRel) : Int := bif Mx r.sets != 0 then Mx r.sets else bif Mz r.pubs != 0 then Mz r.pubs else Uo r.subs
theorem k93c (r : SRel) (g : Nat) (h3 : r.subs.length <= 9000) (g3 : r.subs.length < g) : J5 Ae ok2 ix2 r g g 0 (fun _ => []) 0 = bif Uo r.subs != 0 then lN (Uo r.subs) else lN 0 := by
 have kc := Er (valid := Nu) (key := SSub.loc) (rest := Ro) (l := r.subs) (d0 := sub0) (L := fun m n f i => J5 Ae ok2 ix2 r g m n f i) (NX := lN 0) h3 (fun m k n f seen hk hr hn => by
  obtain ⟨q1, q2⟩ := Adl hr hn (r.subs.getD k sub0).loc
  have q1' : ok2 [AV.c (C.d (D.sl 1 n f)), AV.c (C.d (D.v (Value.string (r.subs.getD k sub0).loc)))] = true := q1
  have q2' : decide (ix2 [AV.c (C.d (D.sl 1 n f)), AV.c (C.d (D.v (Value.string (r.subs.getD k sub0).loc)))] >= 0) = inB seen (r.subs.getD k sub0).loc := q2
  have st := Zn Ae ok2 ix2 r g m n f k
  rw [lt1 hk, ge0, tn, q1', q2', Fv hn, nx hk (by omega)] at st
  refine Eq.trans st ?_
  unfold Nu
  simp only [tt, cond_true]
  generalize J5 Ae ok2 ix2 r g m = LL
  cases Ae (r.subs.getD k sub0).loc <;> cases Ae (r.subs.getD k sub0).dev <;> cases Ae (r.subs.getD k sub0).set <;> cases Ae (r.subs.getD k sub0).sig <;> rfl) (fun m n f => by
  have st := Zn Ae ok2 ix2 r g m n f (r.subs.length : Nat)
  rw [lt0 (Nat.lt_irrefl _)] at st
  rw [cond_false] at st
  exact st) g 0 0 (fun _ => []) [] (.nil _) rfl (by omega) (by omega)
 exact kc
theorem k93b (r : SRel) (g : Nat) (h2 : r.pubs.length <= 9000) (g2 : r.pubs.length < g) : J6 Ae ok2 ix2 r g g 0 (fun _ => []) 0 = bif Mz r.pubs != 0 then lN (Mz r.pubs) else J5 Ae ok2 ix2 r g g 0 (fun _ => []) 0 := by
 have kb := Er (valid := Qd) (key := SPub.set) (rest := Dr) (l := r.pubs) (d0 := pub0) (L := fun m n f i => J6 Ae ok2 ix2 r g m n f i) (NX := J5 Ae ok2 ix2 r g g 0 (fun _ => []) 0) h2 (fun m k n f seen hk hr hn => by
  obtain ⟨q1, q2⟩ := Adl hr hn (r.pubs.getD k pub0).set
  have q1' : ok2 [AV.c (C.d (D.sl 1 n f)), AV.c (C.d (D.v (Value.string (r.pubs.getD k pub0).set)))] = true := q1
  have q2' : decide (ix2 [AV.c (C.d (D.sl 1 n f)), AV.c (C.d (D.v (Value.string (r.pubs.getD k pub0).set)))] >= 0) = inB seen (r.pubs.getD k pub0).set := q2
  have st := Zo Ae ok2 ix2 r g m n f k
  rw [lt1 hk, ge0, tn, q1', q2', Fv hn, nx hk (by omega)] at st
  refine Eq.trans st ?_
  rw [AiU]
  unfold Qd
  simp only [tt, cond_true]
  generalize J6 Ae ok2 ix2 r g m = LL
  generalize J5 Ae ok2 ix2 r g g 0 (fun x => []) 0 = MM
  cases Ae (r.pubs.getD k pub0).set <;> cases Ac (r.pubs.getD k pub0).fst 1 100 <;> cases Ac (r.pubs.getD k pub0).max (r.pubs.getD k pub0).fst 1000 <;> rfl) (fun m n f => by
  have st := Zo Ae ok2 ix2 r g m n f (r.pubs.length : Nat)
  rw [lt0 (Nat.lt_irrefl _)] at st
  rw [cond_false] at st
  exact st) g 0 0 (fun _ => []) [] (.nil _) rfl (by omega) (by omega)
 exact kb
theorem k93a (r : SRel) (g : Nat) (h1 : r.sets.length <= 9000) (g1 : r.sets.length < g) (g4 : ∀ k, (r.sets.getD k set0).sigs.length < g) (hs : r.sets.all Jk = true) : Tj Ae ok2 ix2 r g g 0 (fun _ => []) 0 = bif Mx r.sets != 0 then lN (Mx r.sets) else J6 Ae ok2 ix2 r g g 0 (fun _ => []) 0 := by
 have ka := Er (valid := Nv) (key := SSet.name) (rest := Ro) (l := r.sets) (d0 := set0) (L := fun m n f i => Tj Ae ok2 ix2 r g m n f i) (NX := J6 Ae ok2 ix2 r g g 0 (fun _ => []) 0) h1 (fun m k n f seen hk hr hn => by
  have hi : Rb Ae ok2 ix2 r g m g n f k 0 = _ := Akb r g m n f k seen hr hk h1 hn (Dv hs rfl k) (g4 k)
  have st := Aeo Ae ok2 ix2 r g m n f k
  rw [lt1 hk, ge0, tn, hi] at st
  refine Eq.trans st ?_
  unfold Nv
  simp only [tt, cond_true]
  generalize Tj Ae ok2 ix2 r g m = LL
  generalize J6 Ae ok2 ix2 r g g 0 (fun x => []) 0 = MM
  cases Ae (r.sets.getD k set0).name <;> cases (r.sets.getD k set0).sigs.all Ae <;> rfl) (fun m n f => by
  have st := Aeo Ae ok2 ix2 r g m n f (r.sets.length : Nat)
  rw [lt0 (Nat.lt_irrefl _)] at st
  rw [cond_false] at st
  exact st) g 0 0 (fun _ => []) [] (.nil _) rfl (by omega) (by omega)
 exact ka
theorem c93 (r : SRel) (h1 : r.sets.length <= 9000) (h2 : r.pubs.length <= 9000) (h3 : r.subs.length <= 9000) (hs : r.sets.all Jk = true) : CX prog 124 [aRel r] [] (vI (Fb r)) [] := by
 obtain ⟨g, g1, g2, g3, g4⟩ : ∃ g, r.sets.length < g /\ r.pubs.length < g /\ r.subs.length < g /\ ∀ k, (r.sets.getD k set0).sigs.length < g := by
  have key : ∀ l : List SSet, ∃ g, ∀ k, (l.getD k set0).sigs.length < g := by
   intro l
   induction l with
   | nil => exact ⟨1, fun k => by simp [set0]⟩
   | cons x t ih =>
    obtain ⟨g, hg⟩ := ih
    refine ⟨g + x.sigs.length + 1, fun k => ?_⟩
    cases k with
    | zero => simp only [List.getD_cons_zero]; omega
    | succ k => have := hg k; simp only [List.getD_cons_succ]; omega
  obtain ⟨g, hg⟩ := key r.sets
  exact ⟨g + r.sets.length + r.pubs.length + r.subs.length + 1, by omega, by omega, by omega, fun k => by have := hg k; omega⟩
 refine Ax s93.ok func124 b93 rfl ((ev93 _ _ _ r g).trans ?_)
 have ec := k93c r g h3 g3
 have eb := k93b r g h2 g2
 have ea := k93a r g h1 g1 g4 hs
 refine Eq.trans ea ?_
 rw [eb, ec]
 unfold Fb
 have z : ∀ n : Int, (bif n != 0 then lN n else lN 0) = lN n := fun n => by
  cases h : (n != 0) with
  | true => rfl
  | false => have : n = 0 := by simpa using h
             rw [this]; rfl
 rw [z]
 cases (Mx r.sets != 0) <;> cases (Mz r.pubs != 0) <;> rfl
end Go.Proofs.YtbpndheehcbldaaGreatDoor.se
namespace Go.Proofs.YtbpndheehcbldaaGreatDoor.se
open Go.RowKit Go.Eb
theorem tAnd (a b : Bool) : (bif a then b else false) = (a && b) := by cases a <;> rfl
theorem AjO (a b : Bool) : (bif !a then true else b) = !(a && !b) := by cases a <;> cases b <;> rfl
theorem neI (a b : Int) : (a != b) = !(a == b) := rfl
def AfN (r : SRel) : Bool :=
 ((r.zon0 == false && (r.zfw0 == false && (r.zx0 == 0 && (r.zr0 == 0 && (r.zl0 == 0 && (r.zd0 == 0 && true)))))) &&
   ((r.zon1 == false && (r.zfw1 == false && (r.zx1 == 0 && (r.zr1 == 0 && (r.zl1 == 0 && (r.zd1 == 0 && true)))))) &&
     ((r.zon2 == false && (r.zfw2 == false && (r.zx2 == 0 && (r.zr2 == 0 && (r.zl2 == 0 && (r.zd2 == 0 && true)))))) && true))) &&
 (r.min == 0 && (r.kre == 0 && (r.kim == 0 && (r.scheme == 0 && (r.wait == 0 && (r.guard == 0 && (r.shots == 0 && (r.dead == 0 && r.reclaim == 0))))))))
def zSrc (r : SRel) : Bool := (r.uon == false && (r.upk == 0 && (r.udl == 0 && true))) && (r.oon == false && (r.opk == 0 && (r.odl == 0 && true)))
def zBus (r : SRel) : Bool := (r.don == false && (r.dpk == 0 && (r.ddl == 0 && true))) && ((r.ion == false && (r.ipk == 0 && (r.idl == 0 && true))) && (r.fon == false && (r.fpk == 0 && (r.fdl == 0 && true))))
def zDif (r : SRel) : Bool := r.diff == 0 && (r.num == 0 && (r.den == 0 && r.harm == 0))
def Hb (r : SRel) : Bool := (r.kind == 1 || AfN r) && ((r.kind == 2 || zSrc r) && (bif r.kind == 4 then zBus r else zDif r))
theorem AfQ (r : SRel) : Gh r = Hb r := by
 unfold Gh Hb AfN zSrc zBus zDif
 simp only [neI]
 generalize (r.kind == 1) = k1
 generalize (r.kind == 2) = k2
 generalize (r.kind == 4) = k4
 cases k1 <;> cases k2 <;> cases k4 <;> simp only [cond_true, cond_false, Bool.not_true, Bool.not_false, tAnd, Bool.and_assoc, Bool.true_and, Bool.and_true, Bool.false_and, Bool.and_false, Bool.true_or, Bool.false_or, Bool.cond_self]
theorem Yb (r : SRel) : We r = !Hb r := by
 unfold We Hb AfN zSrc zBus zDif
 simp only [neI]
 generalize (r.kind == 1) = k1
 generalize (r.kind == 2) = k2
 generalize (r.kind == 4) = k4
 cases k1 <;> cases k2 <;> cases k4 <;> simp only [cond_true, cond_false, Bool.not_true, Bool.not_false, AjO, Bool.not_not, Bool.and_assoc, Bool.true_and, Bool.and_true, Bool.false_and, Bool.and_false, Bool.true_or, Bool.false_or, Bool.cond_self]
theorem Acw (r : SRel) : Um r = Cn r := rfl
theorem Xx (r : SRel) : Wd r = !Dm r := by
 unfold Wd Dm
 generalize (r.scheme == 1) = k1
 generalize (r.scheme == 2) = k2
 generalize (r.scheme == 3) = k3
 generalize r.zon0 = a
 generalize r.zfw0 = b
 generalize r.zon1 = c
 generalize r.zfw1 = d
 generalize r.zon2 = e
 generalize r.zfw2 = f
 cases k1 <;> cases k2 <;> cases k3 <;> cases a <;> cases b <;> cases c <;> cases d <;> cases e <;> cases f <;> rfl
def nSch (r : SRel) : Bool := Ac r.scheme 0 3 && (Ac r.guard 0 50 && !(r.scheme == 0 && r.guard != 0))
def T7 (r : SRel) : Bool := bif r.scheme == 3 then Ac r.wait 1 50 else r.wait == 0
def nEl (r : SRel) : Bool := elOk r.don r.dpk r.ddl 0 && (elOk r.uon r.upk r.udl 0 && (elOk r.oon r.opk r.odl 0 && elOk r.fon r.fpk r.fdl 1))
def nInv (r : SRel) : Bool := bif r.ion then Ac r.ipk 1 16383 && Ac r.idl 1 1000 else r.ipk == 0 && r.idl == 0
def nRec (r : SRel) : Bool := Ac r.shots 0 3 && (bif r.shots == 0 then r.dead == 0 && r.reclaim == 0 else Ac r.dead 1 100 && Ac r.reclaim 1 1000)
def nDif (r : SRel) : Bool := bif r.diff == 0 then r.num == 0 && (r.den == 0 && r.harm == 0) else Ac r.diff 0 16383 && (Ac r.den 1 100 && (Ac r.num 0 r.den && Ac r.harm 0 100))
theorem g13 (okr zo : LB) (r : SRel) : Xf okr zo r 1 1 = lB (bif r.diff == 0 then true else Ac r.den 1 100 && (Ac r.num 0 r.den && Ac r.harm 0 100)) := by
 rw [Agm]
 cases (r.diff == 0) <;> cases Ac r.den 1 100 <;> cases Ac r.num 0 r.den <;> rfl
theorem g11 (okr zo : LB) (r : SRel) : P2 okr zo r 1 1 = lB (nDif r) := by
 rw [Agn, g13]
 unfold nDif
 by_cases h : r.diff = 0
 ·rw [h]
  simp only [neI]
  have w : Ac 0 0 16383 = true := rfl
  rw [w]
  cases (r.num == 0) <;> cases (r.den == 0) <;> cases (r.harm == 0) <;> rfl
 ·have h' : (r.diff == 0) = false := by simpa using h
  rw [h']
  cases Ac r.diff 0 16383 <;> rfl
theorem g9 (okr zo : LB) (r : SRel) : Yn okr zo r 1 1 = lB (nRec r && nDif r) := by
 rw [Aib, g11]
 unfold nRec
 by_cases h : r.shots = 0
 ·rw [h]
  simp only [neI]
  have w : Ac 0 0 3 = true := rfl
  have w2 : decide ((0 : Int) > 0) = false := rfl
  rw [w, w2]
  cases (r.dead == 0) <;> cases (r.reclaim == 0) <;> rfl
 ·have h' : (r.shots == 0) = false := by simpa using h
  rw [h']
  by_cases h2 : r.shots > 0
  ·rw [decide_eq_true h2]
   cases Ac r.shots 0 3 <;> cases Ac r.dead 1 100 <;> cases Ac r.reclaim 1 1000 <;> rfl
  ·have w : Ac r.shots 0 3 = false := by unfold Ac; rw [decide_eq_false (by omega)]; rfl
   rw [w]
   rfl
theorem g7 (okr zo : LB) (r : SRel) : AhU okr zo r 1 1 = lB (nInv r && (nRec r && nDif r)) := by
 rw [Aic, g9]
 unfold nInv
 generalize (nRec r && nDif r) = q
 cases r.ion <;> cases Ac r.ipk 1 16383 <;> cases Ac r.idl 1 1000 <;> cases (r.ipk == 0) <;> cases (r.idl == 0) <;> rfl
theorem g5 (okr zo : LB) (r : SRel) : Yo okr zo r 1 1 = lB (nEl r && (nInv r && (nRec r && nDif r))) := by
 rw [Aid, g7]
 unfold nEl
 generalize (nInv r && (nRec r && nDif r)) = q
 cases elOk r.don r.dpk r.ddl 0 <;> cases elOk r.uon r.upk r.udl 0 <;> cases elOk r.oon r.opk r.odl 0 <;> cases elOk r.fon r.fpk r.fdl 1 <;> rfl
theorem g3 (okr zo : LB) (r : SRel) : Aef okr zo r 1 1 = lB (T7 r && (nEl r && (nInv r && (nRec r && nDif r)))) := by
 rw [Aie, g5]
 unfold T7
 generalize (nEl r && (nInv r && (nRec r && nDif r))) = q
 simp only [neI]
 cases (r.scheme == 3) <;> cases Ac r.wait 1 50 <;> cases (r.wait == 0) <;> rfl
def nums (r : SRel) : Bool := nSch r && (T7 r && (nEl r && (nInv r && (nRec r && nDif r))))
theorem g1 (okr zo : LB) (r : SRel) (h1 : okr [aRel r] = true) : Al prog (oNu okr zo) S2 1 f120 (Ad f120) [aRel r] [] = lB (zo [aRel r] && nums r) := by
 refine (ev89 okr zo r 1).trans ?_
 rw [h1, g3]
 unfold nums nSch
 generalize (T7 r && (nEl r && (nInv r && (nRec r && nDif r)))) = q
 simp only [neI]
 cases zo [aRel r] <;> cases Ac r.scheme 0 3 <;> cases Ac r.guard 0 50 <;> cases (r.scheme == 0) <;> cases (r.guard == 0) <;> rfl
theorem e80 (r : SRel) : Da r = (nSch r && T7 r) := by
 unfold Da nSch T7
 simp only [neI]
 by_cases h : r.guard = 0
 ·rw [h]
  have w : Ac 0 0 50 = true := rfl
  rw [w]
  cases Ac r.scheme 0 3 <;> cases (r.scheme == 3) <;> cases Ac r.wait 1 50 <;> cases (r.scheme == 0) <;> cases (r.wait == 0) <;> rfl
 ·have h' : (r.guard == 0) = false := by simpa using h
  rw [h']
  cases Ac r.scheme 0 3 <;> cases (r.scheme == 3) <;> cases Ac r.wait 1 50 <;> cases (r.scheme == 0) <;> cases (r.wait == 0) <;> cases Ac r.guard 0 50 <;> rfl
theorem e81 (r : SRel) : C9 r = (nInv r && nEl r) := by
 unfold C9 nInv nEl
 cases r.ion <;> cases Ac r.ipk 1 16383 <;> cases Ac r.idl 1 1000 <;> cases (r.ipk == 0) <;> cases (r.idl == 0) <;> cases elOk r.don r.dpk r.ddl 0 <;> cases elOk r.uon r.upk r.udl 0 <;> cases elOk r.oon r.opk r.odl 0 <;> rfl
theorem Nz (n k : Int) (h : (n == 0) = false) : Ac n 1 k = Ac n 0 k := by
 have h' : n ≠ 0 := by simpa using h
 unfold Ac
 by_cases h1 : n >= 1
 ·rw [decide_eq_true h1, decide_eq_true (show n >= 0 by omega)]
 ·rw [decide_eq_false h1, decide_eq_false (show ¬ n >= 0 by omega)]
theorem e82 (r : SRel) : C8 r = (nRec r && nDif r) := by
 unfold C8 nRec nDif
 simp only [neI]
 have hs : (r.shots == 0) = true -> Ac r.shots 0 3 = true := fun h => by
  have : r.shots = 0 := by simpa using h
  rw [this]; rfl
 have hs2 := Nz r.shots 3
 have hd2 := Nz r.diff 16383
 cases a : (r.shots == 0) with
 | true =>
  rw [hs a]
  cases b : (r.diff == 0) with
  | true => cases (r.dead == 0) <;> cases (r.reclaim == 0) <;> cases (r.num == 0) <;> cases (r.den == 0) <;> rfl
  | false =>
   rw [hd2 b]
   cases (r.dead == 0) <;> cases (r.reclaim == 0) <;> cases Ac r.diff 0 16383 <;> cases Ac r.den 1 100 <;> cases Ac r.num 0 r.den <;> rfl
 | false =>
  rw [hs2 a]
  cases b : (r.diff == 0) with
  | true => cases Ac r.shots 0 3 <;> cases Ac r.dead 1 100 <;> cases Ac r.reclaim 1 1000 <;> cases (r.num == 0) <;> cases (r.den == 0) <;> rfl
  | false =>
   rw [hd2 b]
   cases Ac r.shots 0 3 <;> cases Ac r.dead 1 100 <;> cases Ac r.reclaim 1 1000 <;> cases Ac r.diff 0 16383 <;> cases Ac r.den 1 100 <;> cases Ac r.num 0 r.den <;> rfl
theorem AgM (r : SRel) : nums r = (Da r && (C9 r && C8 r)) := by
 rw [e80, e81, e82]
 unfold nums
 cases nSch r <;> cases T7 r <;> cases nEl r <;> cases nInv r <;> rfl
end Go.Proofs.YtbpndheehcbldaaGreatDoor.se
namespace Go.Proofs.YtbpndheehcbldaaGreatDoor.se
open Go.RowKit Go.Eb
structure KOn where
 okn : LB
 nm : List AV -> List ByteArray
 oki : LB
 ix : LI
 okp : LB
 pl : LI
 okr : LB
 fo : LB
 nu : LB
 mi : LB
 ma : LB
 oku : LB
 ru : LI
 li : LI
def oOn (Z : KOn) (nk : ByteArray -> Bool) : Orc := Orc.cons 57 (ansP decS fun s => vB (nk s)) (Orc.cons 117 (ansG Z.okn fun x => .c (.d (Ab (Z.nm x)))) (Orc.cons 52 (ansL Z.oki fun x => vI (Z.ix x)) (Orc.cons 118 (ansG Z.okp fun x => vI (Z.pl x))
 (Orc.cons 119 (ansG Z.okr fun x => vB (Z.fo x)) (Orc.cons 120 (ansG Z.okr fun x => vB (Z.nu x)) (Orc.cons 121 (ansG Z.okr fun x => vB (Z.mi x)) (Orc.cons 122 (ansG Z.okr fun x => vB (Z.ma x))
 (Orc.cons 123 (ansG Z.oku fun x => vI (Z.ru x)) (Orc.cons 124 (ansG Z.oku fun x => vI (Z.li x)) Orc.nil)))))))))
def Aft : Ann := A4 [(6, ⟨[5, 1, 3, 7], []⟩)]
def P1 (Z : KOn) (nk : ByteArray -> Bool) (s : SSta) (b : List SRel) (r : SRel) (g m : Nat) (i7 : Int) := LK prog (oOn Z nk) Aft 0 g f63 6 m ⟨frm [(1, .c (.d (Aa 53 relC rel0 b))), (3, .c (.ptr 0 0)), (5, .c (.ptr 1 0)), (7, iA i7)] 0 f63.ntmps, [(0, Blk.cells (List.map C.d (staC s)) 27), (1, Blk.cells (List.map C.d (relC r)) 64)], 2⟩
theorem bon7 : f63.body = some (Ad f63) := by kernel_rfl
theorem AkB (Z : KOn) (nk : ByteArray -> Bool) (s : SSta) (b : List SRel) (r : SRel) (g : Nat) : Al prog (oOn Z nk) Aft g f63 (Ad f63) [aSta s, .c (.d (Cq b)), aRel r] [] =
 (bif !nk r.name then leI 7 else (bif KOn.okn Z [gA (staC s)] then (bif KOn.oki Z [AV.c (C.d (Aa (1) busC e0 (KOn.nm Z [gA (staC s)]))), AV.c
 (.d (.v (.string r.name)))] then (bif decide (KOn.ix Z [AV.c (C.d (Aa ((1 : Nat)) busC e0 (KOn.nm Z [gA (staC s)]))), AV.c (.d (.v (.string r.name)))] >= 0) then
 leI 8 else P1 Z nk s b r g g 0) else none) else none)) := by kernel_rfl
theorem Zd (Z : KOn) (nk : ByteArray -> Bool) (s : SSta) (b : List SRel) (r : SRel) (g m : Nat) (i7 : Int) : P1 Z nk s b r g (m + 1) i7 =
 (bif decide (i7 < (↑b.length : Int)) then (bif decide (0 <= i7) && decide (i7 < (↑b.length : Int)) then (bif (SRel.name (b.getD i7.toNat rel0)).toList == r.name.toList then leI 8
 else P1 Z nk s b r g m (IntKind.wrap .i64 (i7 + 1))) else none) else (bif KOn.okp Z [gA (staC s), AV.c (C.d (Aa (53) relC rel0 b)), gA (relC
 r)] then (bif KOn.pl Z [gA (staC s), AV.c (C.d (Aa (53) relC rel0 b)), gA (relC r)] != 0 then leI (KOn.pl Z [gA (staC s),
 AV.c (C.d (Aa (53) relC rel0 b)), gA (relC r)]) else (bif KOn.okr Z [gA (relC r)] then (bif KOn.fo Z [gA (relC r)] then leI
 12 else (bif KOn.okr Z [gA (relC r)] then (bif !KOn.nu Z [gA (relC r)] then leI 2 else (bif KOn.okr Z [gA (relC r)] then
 (bif KOn.mi Z [gA (relC r)] then leI 11 else (bif KOn.okr Z [gA (relC r)] then (bif KOn.ma Z [gA (relC r)] then leI 3 else
 (bif KOn.oku Z [gA (relC r)] then (bif KOn.ru Z [gA (relC r)] != 0 then leI (KOn.ru Z [gA (relC r)]) else (bif KOn.oku Z
 [gA (relC r)] then leI (KOn.li Z [gA (relC r)]) else none)) else none)) else none)) else none)) else none)) else none)) else none)) := by kernel_rfl
def oCk (oko : LB) (on : LI) : Orc := Orc.cons 63 (ansG oko fun x => vI (on x)) Orc.nil
def AfE : Ann := A4 [(2, ⟨[6, 1, 2], []⟩)]
def Xe (oko : LB) (on : LI) (s : SSta) (l : List SRel) (g m : Nat) (i6 : Int) := LK prog (oCk oko on) AfE 0 g f29 2 m ⟨frm [(1, .c (.d (Aa 53 relC rel0 l))), (2, .c (.ptr 0 0)), (6, iA i6)] 0 f29.ntmps, [(0, Blk.cells (List.map C.d (staC s)) 27)], 1⟩
theorem bck7 : f29.body = some (Ad f29) := by kernel_rfl
theorem AkN (oko : LB) (on : LI) (s : SSta) (l : List SRel) (g : Nat) : Al prog (oCk oko on) AfE g f29 (Ad f29) [aSta s, .c (.d (Cq l))] [] =
 Xe oko on s l g g 0 := by kernel_rfl
theorem Agk (oko : LB) (on : LI) (s : SSta) (l : List SRel) (g m : Nat) (i6 : Int) : Xe oko on s l g (m + 1) i6 =
 (bif decide (i6 < (↑l.length : Int)) then (bif decide (0 <= (↑(0 : Nat) : Int)) && decide ((↑(0 : Nat) : Int) <= i6) && decide (i6 <= (↑l.length : Int)) then (bif decide (0 <= i6) &&
 decide (i6 < (↑l.length : Int)) then (bif oko [gA (staC s), AV.c (C.d (D.sl (53) (i6.toNat - Int.toNat (↑(0 : Nat) : Int)) fun i => relC (l.getD (Int.toNat (↑(0
 : Nat) : Int) + i) rel0))), gA (relC (l.getD i6.toNat rel0))] then (bif on [gA (staC s), AV.c (C.d (D.sl (53) (i6.toNat - Int.toNat (↑(0 :
 Nat) : Int)) fun i => relC (l.getD (Int.toNat (↑(0 : Nat) : Int) + i) rel0))), gA (relC (l.getD i6.toNat rel0))] != 0 then some (T.leaf (AV.tup [(false, [C.d (.v
 (.int .i64 i6))]), (false, [C.d (iD (on [gA (staC s), AV.c (C.d (D.sl (53) (i6.toNat - Int.toNat (↑(0 : Nat) : Int)) fun i => relC (l.getD (Int.toNat
 (↑(0 : Nat) : Int) + i) rel0))), gA (relC (l.getD i6.toNat rel0))]))])], [])) else Xe oko on s l g m (IntKind.wrap .i64 (i6 + 1))) else none) else none) else
 none) else some (T.leaf (AV.tup [(false, [C.d (iD 0)]), (false, [C.d (iD 0)])], []))) := by kernel_rfl
end Go.Proofs.YtbpndheehcbldaaGreatDoor.se
namespace Go.Proofs.YtbpndheehcbldaaGreatDoor.st
open Go.RowKit Go.Eb
def o9n (okn : LB) (nm : List AV -> List ByteArray) : Orc := Orc.cons 59 (ansG okn fun x => .c (.d (Ab (nm x)))) Orc.nil
def Alq : Ann := A4 []
theorem b9n : f117.body = some (Ad f117) := by kernel_rfl
theorem ev9n (okn : LB) (nm : List AV -> List ByteArray) (s : SSta) (g : Nat) : Al prog (o9n okn nm) Alq g f117 (Ad f117) [aSta s] [] =
 (bif okn [gA (staC s), AV.c (.d (iD (↑s.buses.length : Int))), AV.c (.d (iD (↑s.lines.length : Int))), AV.c (.d (.v (.int .i64
 (↑s.srcs.length : Int)))), AV.c (.d (iD (↑s.bays.length : Int)))] then some (T.leaf (AV.c (C.d (Aa (1) busC e0 (nm [gA (staC s), AV.c (.d (.v (.int
 .i64 (↑s.buses.length : Int)))), AV.c (.d (iD (↑s.lines.length : Int))), AV.c (.d (iD (↑s.srcs.length : Int))), AV.c (C.d (D.v (Value.int IntKind.i64
 (↑s.bays.length : Int))))]))), [])) else none) := by kernel_rfl
end Go.Proofs.YtbpndheehcbldaaGreatDoor.st
namespace Go.Proofs.YtbpndheehcbldaaGreatDoor.st
open Go.RowKit Go.Eb
abbrev eN5 := en5 aSta vN vN vN vN
theorem AbL : InjT eN5 := Ahw Lt U8 U8 U8 U8
def c5 (a : SSta × Nat × Nat × Nat × Nat) : Bool := (decide (a.2.1 <= a.1.buses.length) && (decide (a.2.2.1 <= a.1.lines.length) && (decide (a.2.2.2.1 <= a.1.srcs.length) && decide (a.2.2.2.2 <= a.1.bays.length)))) && (decide (a.2.1 <= 900) && (decide (a.2.2.1 <= 900) && (decide (a.2.2.2.1 <= 900) && decide (a.2.2.2.2 <= 900))))
def nm5 (a : SSta × Nat × Nat × Nat × Nat) : List ByteArray := Bs a.1 a.2.1 a.2.2.1 a.2.2.2.1 a.2.2.2.2
theorem s9n : OrcS prog (o9n (okG eN5 c5) fun x => nm5 (theT eN5 x)) := by
 refine .cons (.t' (r := fun a => .c (.d (Ab (nm5 a)))) fun a h => ?_) .nil
 unfold c5 at h
 simp only [Bool.and_eq_true, decide_eq_true_eq] at h
 exact c21 a.1 a.2.1 a.2.2.1 a.2.2.2.1 a.2.2.2.2 h.1.1 h.1.2.1 h.1.2.2.1 h.1.2.2.2 h.2.1 h.2.2.1 h.2.2.2.1 h.2.2.2.2
theorem cNm (s : SSta) (h1 : s.buses.length <= 900) (h2 : s.lines.length <= 900) (h3 : s.srcs.length <= 900) (h4 : s.bays.length <= 900) : CX prog 117 [aSta s] [] (.c (.d (Ab (A9 s)))) [] := by
 refine Ax s9n.ok func117 b9n rfl ((ev9n _ _ s 1).trans ?_)
 have k := Aj AbL (c := c5) (s, s.buses.length, s.lines.length, s.srcs.length, s.bays.length) (by unfold c5; simp only [h1, h2, h3, h4, Nat.le_refl, decide_true, tt])
 have t := Ag AbL (s, s.buses.length, s.lines.length, s.srcs.length, s.bays.length)
 have e : nm5 (s, s.buses.length, s.lines.length, s.srcs.length, s.bays.length) = A9 s := by unfold nm5 Bs A9; simp
 simp only [en5, vN] at k t
 rw [k, t, e]
 rfl
end Go.Proofs.YtbpndheehcbldaaGreatDoor.st
namespace Go.Proofs.YtbpndheehcbldaaGreatDoor.se
open Go.RowKit Go.Eb Go.Proofs.YtbpndheehcbldaaGreatDoor.st
theorem cEm (a : Bool × Int × Int × Int) : CX prog 187 [.agg [.d (dB a.1), .d (dI a.2.1), .d (dI a.2.2.1)], vI a.2.2.2] [] (vB (elOk a.1 a.2.1 a.2.2.1 a.2.2.2)) [] := by
 have hs : OrcS prog oB3 := .cons (.p Q5 cBt) .nil
 refine Ax hs.ok func187 (by kernel_rfl) rfl ((evEm a.1 a.2.1 a.2.2.1 a.2.2.2).trans ?_)
 unfold Abt elOk
 cases a.1 <;> cases (a.2.1 == 0) <;> cases (a.2.2.1 == 0) <;> cases Ac a.2.1 1 16383 <;> rfl
theorem sB3 : OrcS prog oB3 := .cons (.p Q5 cBt) .nil
theorem c88 (r : SRel) : CX prog 119 [aRel r] [] (vB (!Hb r)) [] := by
 have := Ax sB3.ok func119 (by kernel_rfl) rfl (ev88 r)
 rw [Yb] at this
 exact this
theorem c130 (r : SRel) : CX prog 185 [aRel r] [] (vB (Cn r)) [] := by
 have := Ax sB3.ok func185 (by kernel_rfl) rfl (AkT r)
 rw [Acw] at this
 exact this
theorem c90 (r : SRel) : CX prog 121 [aRel r] [] (vB (!Dm r)) [] := by
 have := Ax sB3.ok func121 (by kernel_rfl) rfl (ev90 r)
 rw [Xx] at this
 exact this
theorem c89 (r : SRel) : CX prog 120 [aRel r] [] (vB (Cn r && (Da r && (C9 r && C8 r)))) [] := by
 have hs : OrcS prog (oNu (okG eR fun _ => true) fun x => Cn (theT eR x)) := .cons (.t' (r := fun a => vB (Cn a)) fun a _ => c130 a) (.cons (.p AbV cEm) sB3)
 have k := Aj My (c := fun _ => true) r rfl
 have t := Ag My r
 have := Ax hs.ok func120 b89 rfl (g1 _ _ r k)
 have e : Cn (theT eR [aRel r]) = Cn r := congrArg Cn t
 rw [e, AgM] at this
 exact this
abbrev ePl := en3 aSta (aD Cq) aRel
theorem Aae (a b : List SRel) (h : DE (Cq a) (Cq b)) : a = b := At Jh a b h
theorem Q0 : InjT ePl := Ahx Lt (S3 Aae) G7
def cPl (a : SSta × List SRel × SRel) : Bool := Ak a.1.bays && Ak a.2.1
def cOu (r : SRel) : Bool := Bm r && B6 r
def cSz (s : SSta) : Bool := decide (s.buses.length <= 900) && (decide (s.lines.length <= 900) && (decide (s.srcs.length <= 900) && decide (s.bays.length <= 900)))
def ZOn : KOn where
 okn := okG eSt cSz
 nm x := A9 (theT eSt x)
 oki := ok2
 ix := ix2
 okp := okG ePl cPl
 pl x := Bg (theT ePl x).1.bays ((theT ePl x).2.1.map SRel.bay) (theT ePl x).2.2
 okr := okG eR B6
 fo x := !Hb (theT eR x)
 nu x := Cn (theT eR x) && (Da (theT eR x) && (C9 (theT eR x) && C8 (theT eR x)))
 mi x := !Dm (theT eR x)
 ma x := !Bm (theT eR x)
 oku := okG eR cOu
 ru x := Dt (theT eR x).rules
 li x := Fb (theT eR x)
theorem M4 {r : SRel} (h : Bm r = true) : r.rules.length <= 16 /\ r.sets.length <= 4 /\ r.pubs.length <= 4 /\ r.subs.length <= 24 := by
 unfold Bm at h
 simp only [Bool.and_eq_true, decide_eq_true_eq] at h
 exact ⟨h.1, h.2.1, h.2.2.1, h.2.2.2.1⟩
theorem sOn : OrcS prog (oOn ZOn Ae) := by
 refine .cons (.p Em c16) (.cons (.t' (r := fun a => .c (.d (Ab (A9 a)))) fun a h => ?_) (.cons (.lt (r := fun (a : List ByteArray × ByteArray) => vI (idxF a.2 0 a.1)) func52 bIx (fun _ => rfl) fun a h => c46 a.1 a.2 (A7 h))
  (.cons (.t' (r := fun (a : SSta × List SRel × SRel) => vI (Bg a.1.bays (a.2.1.map SRel.bay) a.2.2)) fun a h => ?_) (.cons (.t' (r := fun a => vB (!Hb a)) fun a _ => c88 a) (.cons (.t' (r := fun a => vB (Cn a && (Da a && (C9 a && C8 a)))) fun a _ => c89 a)
  (.cons (.t' (r := fun a => vB (!Dm a)) fun a _ => c90 a) (.cons (.t' (r := fun a => vB (!Bm a)) fun a h => c91 a h) (.cons (.t' (r := fun (a : SRel) => vI (Dt a.rules)) fun a h => ?_) (.cons (.t' (r := fun a => vI (Fb a)) fun a h => ?_) .nil)))))))))
 ·unfold cSz at h
  simp only [Bool.and_eq_true, decide_eq_true_eq] at h
  exact cNm a h.1 h.2.1 h.2.2.1 h.2.2.2
 ·unfold cPl at h
  simp only [Bool.and_eq_true] at h
  exact c87 a.1 a.2.1 a.2.2 (A7 h.1) h.2
 ·unfold cOu at h
  simp only [Bool.and_eq_true] at h
  have := M4 h.1
  exact c92 a (by omega)
 ·unfold cOu at h
  simp only [Bool.and_eq_true] at h
  have := M4 h.1
  exact c93 a (by omega) (by omega) (by omega) (Ga h.2).2.2.2.2
theorem Ahf (a b : List ByteArray) (s : ByteArray) : inB (a ++ b) s = (inB a s || inB b s) := by unfold inB; rw [List.any_append]
theorem cOn (s : SSta) (b : List SRel) (r : SRel) (hs : cSz s = true) (hb : Ak b = true) (hr : B6 r = true) :
  CX prog 63 [aSta s, .c (.d (Cq b)), aRel r] [] (vI (Cl s.bays (A9 s ++ b.map SRel.name) (b.map SRel.bay) r)) [] := by
 obtain ⟨g, hg⟩ : ∃ g, b.length < g := ⟨b.length + 1, by omega⟩
 have hs' := hs
 unfold cSz at hs'
 simp only [Bool.and_eq_true, decide_eq_true_eq] at hs'
 refine Ax sOn.ok func63 bon7 rfl ((AkB ZOn Ae s b r g).trans ?_)
 have k1 : ZOn.okn [aSta s] = true := Aj Ec (c := cSz) s hs
 have k2 : ZOn.nm [aSta s] = A9 s := congrArg A9 (Ag Ec s)
 have hN : (A9 s).length <= 9000 := by unfold A9; simp; omega
 have k3 : ZOn.oki [.c (.d (Ab (A9 s))), vS r.name] = true := Aj Cv (c := cIx) (A9 s, r.name) (by unfold cIx Ak; rw [decide_eq_true (by simp only; omega)])
 have k4 : ZOn.ix [.c (.d (Ab (A9 s))), vS r.name] = idxF r.name 0 (A9 s) := by
  show idxF (theT eIx _).2 0 (theT eIx _).1 = _
  have t : theT eIx [.c (.d (Ab (A9 s))), vS r.name] = (A9 s, r.name) := Ag Cv (A9 s, r.name)
  rw [t]
 have k5 : ZOn.okp [aSta s, .c (.d (Cq b)), aRel r] = true := Aj Q0 (c := cPl) (s, b, r) (by unfold cPl; rw [hb]; unfold Ak; rw [decide_eq_true (by simp only; omega)]; rfl)
 have t5 : theT ePl [aSta s, .c (.d (Cq b)), aRel r] = (s, b, r) := Ag Q0 (s, b, r)
 have k6 : ZOn.pl [aSta s, .c (.d (Cq b)), aRel r] = Bg s.bays (b.map SRel.bay) r := by dsimp only [ZOn]; rw [t5]
 have k7 : ZOn.okr [aRel r] = true := Aj My (c := B6) r hr
 have t := Ag My r
 have k8 : ZOn.fo [aRel r] = !Hb r := congrArg (fun a => !Hb a) t
 have k9 : ZOn.nu [aRel r] = (Cn r && (Da r && (C9 r && C8 r))) := congrArg (fun a => Cn a && (Da a && (C9 a && C8 a))) t
 have k10 : ZOn.mi [aRel r] = !Dm r := congrArg (fun a => !Dm a) t
 have k11 : ZOn.ma [aRel r] = !Bm r := congrArg (fun a => !Bm a) t
 have k12 : Bm r = true -> ZOn.oku [aRel r] = true := fun h => Aj My (c := cOu) r (by unfold cOu; rw [h, hr]; rfl)
 have k13 : ZOn.ru [aRel r] = Dt r.rules := congrArg (fun a : SRel => Dt a.rules) t
 have k14 : ZOn.li [aRel r] = Fb r := congrArg Fb t
 have fin : P1 ZOn Ae s b r g g 0 = bif b.any (fun x => x.name.toList == r.name.toList) then lN 8 else lN (bif Bg s.bays (b.map SRel.bay) r != 0 then Bg s.bays (b.map SRel.bay) r else Hn r) := by
  have l1 := E5 (p := fun x : SRel => x.name.toList == r.name.toList) (l := b) (d0 := rel0) (L := fun m i => P1 ZOn Ae s b r g m i) (A := lN 8) (B := lN (bif Bg s.bays (b.map SRel.bay) r != 0 then Bg s.bays (b.map SRel.bay) r else Hn r)) (fun m k hk => by
   rw [Zd, lt1 hk, ge0, tn, nx hk (A7 hb)]; rfl) (fun m => by
   rw [Zd, lt0 (Nat.lt_irrefl _), k5, k6, k7, k8, k9, k10, k11, k13, k14]
   unfold Hn
   rw [AfQ]
   cases hp : (Bg s.bays (b.map SRel.bay) r != 0) with
   | true => rfl
   | false =>
    cases Hb r with
    | false => rfl
    | true =>
     cases Cn r with
     | false => rfl
     | true =>
      cases Da r with
      | false => rfl
      | true =>
       cases C9 r with
       | false => rfl
       | true =>
        cases C8 r with
        | false => rfl
        | true =>
         cases Dm r with
         | false => rfl
         | true =>
          cases hc : Bm r with
          | false => rfl
          | true =>
           rw [k12 hc]
           unfold Fs Fb
           cases (Dt r.rules != 0) <;> rfl) g 0 (by omega) (by omega)
  have e1 : P1 ZOn Ae s b r g g 0 = _ := l1
  rw [e1]
  simp only [List.drop_zero]
 rw [k1, k2, k3, k4, fin, Qw]
 unfold Cl
 rw [Ahf]
 have hb2 : inB (b.map SRel.name) r.name = b.any (fun x => x.name.toList == r.name.toList) := by
  unfold inB
  rw [List.any_map]
  congr 1
  funext x
  rw [Ael]
  rfl
 rw [hb2]
 cases Ae r.name <;> cases inB (A9 s) r.name <;> cases b.any (fun x => x.name.toList == r.name.toList) <;> rfl
theorem AgC (s : SSta) : ∀ (l : List SRel) (i : Nat), i <= l.length -> B4 s.bays (A9 s ++ (l.take i).map SRel.name) ((l.take i).map SRel.bay) i (l.drop i) =
  if h : i < l.length then (bif Cl s.bays (A9 s ++ (l.take i).map SRel.name) ((l.take i).map SRel.bay) (l.getD i rel0) != 0 then ((i : Int), Cl s.bays (A9 s ++ (l.take i).map SRel.name) ((l.take i).map SRel.bay) (l.getD i rel0))
   else B4 s.bays (A9 s ++ (l.take (i + 1)).map SRel.name) ((l.take (i + 1)).map SRel.bay) (i + 1) (l.drop (i + 1))) else (0, 0) := fun l i hi => by
 by_cases h : i < l.length
 ·rw [dif_pos h, Am (d := rel0) h]
  simp only [B4]
  have e : l.take (i + 1) = l.take i ++ [l.getD i rel0] := by
   rw [List.take_succ_eq_append_getElem h]
   simp [List.getD, h]
  rw [e]
  simp only [List.map_append, List.map_cons, List.map_nil, List.append_assoc]
 ·rw [dif_neg h, List.drop_of_length_le (by omega)]
  rfl
abbrev tk (l : List SRel) (i : Int) : D := .sl 53 (i.toNat - ((0 : Nat) : Int).toNat) fun j => relC (l.getD (((0 : Nat) : Int).toNat + j) rel0)
theorem AfS (l : List SRel) (k : Nat) (hk : k <= l.length) : DE (tk l k) (Cq (l.take k)) /\ DE (Cq (l.take k)) (tk l k) := by
 have e : (k : Int).toNat - ((0 : Nat) : Int).toNat = (l.take k).length := by simp; omega
 have f : ∀ i, i < (l.take k).length -> relC (l.getD (((0 : Nat) : Int).toNat + i) rel0) = relC ((l.take k).getD i rel0) := fun i hi => by
  have hi' : i < k := by simp at hi; omega
  have e0 : ((0 : Nat) : Int).toNat + i = i := by simp
  rw [e0]
  congr 1
  simp only [List.getD_eq_getElem?_getD, List.getElem?_take, hi', if_true]
 unfold tk
 rw [e]
 exact ⟨.sl_eq f, .sl_eq fun i hi => (f i hi).symm⟩
def cOe (a : SSta × List SRel × SRel) : Bool := cSz a.1 && (Ak a.2.1 && B6 a.2.2)
theorem cCk (s : SSta) (l : List SRel) (hs : cSz s = true) (hl : Ak l = true) (ha : l.all B6 = true) : CX prog 29 [aSta s, .c (.d (Cq l))] [] (vP (B4 s.bays (A9 s) [] 0 l)) [] := by
 have hS : OrcS prog (oCk (okG ePl cOe) fun x => Cl (theT ePl x).1.bays (A9 (theT ePl x).1 ++ (theT ePl x).2.1.map SRel.name) ((theT ePl x).2.1.map SRel.bay) (theT ePl x).2.2) :=
  .cons (.t' (r := fun (a : SSta × List SRel × SRel) => vI (Cl a.1.bays (A9 a.1 ++ a.2.1.map SRel.name) (a.2.1.map SRel.bay) a.2.2)) fun a h => by
   unfold cOe at h
   simp only [Bool.and_eq_true] at h
   exact cOn a.1 a.2.1 a.2.2 h.1 h.2.1 h.2.2) .nil
 obtain ⟨g, hg⟩ : ∃ g, l.length < g := ⟨l.length + 1, by omega⟩
 refine Ax hS.ok func29 bck7 rfl ((AkN _ _ s l g).trans ?_)
 have hl' := A7 hl
 have lp : ∀ (m k : Nat), k <= l.length -> l.length - k < m -> Xe (okG ePl cOe) (fun x => Cl (theT ePl x).1.bays (A9 (theT ePl x).1 ++ (theT ePl x).2.1.map SRel.name) ((theT ePl x).2.1.map SRel.bay) (theT ePl x).2.2) s l g m k =
  some (.leaf (vP (B4 s.bays (A9 s ++ (l.take k).map SRel.name) ((l.take k).map SRel.bay) k (l.drop k)), [])) := by
  intro m
  induction m with
  | zero => intro k _ h; omega
  | succ m ih =>
   intro k hk h
   rw [Agk, AgC s l k hk]
   by_cases hlt : k < l.length
   ·rw [dif_pos hlt, lt1 hlt, ge0 k, tn, nx hlt hl', ih (k + 1) (by omega) (by omega)]
    have b1 : decide (((0 : Nat) : Int) <= (k : Int)) = true := decide_eq_true (by omega)
    have b2 : decide ((k : Int) <= (l.length : Int)) = true := decide_eq_true (by omega)
    have b3 : decide ((0 : Int) <= ((0 : Nat) : Int)) = true := rfl
    rw [b1, b2, b3]
    obtain ⟨d1, d2⟩ := AfS l k hk
    have hr : B6 (l.getD k rel0) = true := Dv ha rfl k
    have a1 : Asle [aSta s, .c (.d (tk l k)), aRel (l.getD k rel0)] (ePl (s, l.take k, l.getD k rel0)) := .cons (.refl _) (.cons d1 (.cons (.refl _) .nil))
    have a2 : Asle (ePl (s, l.take k, l.getD k rel0)) [aSta s, .c (.d (tk l k)), aRel (l.getD k rel0)] := .cons (.refl _) (.cons d2 (.cons (.refl _) .nil))
    have q1 : okG ePl cOe [aSta s, .c (.d (tk l k)), aRel (l.getD k rel0)] = true := R2 Q0 a1 a2 (by
     unfold cOe Ak
     rw [hs, hr, decide_eq_true (by simp; omega)]; rfl)
    have q2 : theT ePl [aSta s, .c (.d (tk l k)), aRel (l.getD k rel0)] = (s, l.take k, l.getD k rel0) := J8 Q0 a1 a2
    unfold tk at q1 q2
    rw [tn] at q1 q2
    rw [q1, q2]
    simp only [tt, cond_true]
    generalize Cl s.bays (A9 s ++ (l.take k).map SRel.name) ((l.take k).map SRel.bay) (l.getD k rel0) = e
    cases (e != 0) <;> rfl
   ·rw [dif_neg hlt, lt0 hlt]
    rfl
 have e := lp g 0 (by omega) (by omega)
 simp only [List.take_zero, List.map_nil, List.append_nil, List.drop_zero] at e
 exact e
end Go.Proofs.YtbpndheehcbldaaGreatDoor.se
namespace Go.Proofs.YtbpndheehcbldaaGreatDoor.st
open Go.RowKit Go.Eb
def Ue (s : SSta) : Bool := decide (8 < s.buses.length) || (decide (10 < s.lines.length) || (decide (8 < s.srcs.length) || (decide (20 < s.bays.length) || s.bays.any fun b => decide (6 < b.links.length))))
theorem b7 : f19.body = some (Ad f19) := by kernel_rfl
theorem gtD (n k : Nat) : decide ((n : Int) > (k : Int)) = decide (k < n) := by
 by_cases h : k < n
 ·rw [decide_eq_true h, decide_eq_true (by omega)]
 ·rw [decide_eq_false h, decide_eq_false (by omega)]
theorem lp7 (s : SSta) (g : Nat) (hb : s.bays.length <= 9223372036854775807) : ∀ (m k : Nat), k <= s.bays.length -> s.bays.length - k < m -> L7 s g m k = lB ((s.bays.drop k).any fun b => decide (6 < b.links.length))
 | 0, k, _, h => by omega
 | m + 1, k, hk, h => by
  rw [st7]
  by_cases hlt : k < s.bays.length
  ·have ih := lp7 s g hb m (k + 1) (by omega) (by omega)
   rw [Am (d := bay0) hlt]
   have e6 : decide (((s.bays.getD k bay0).links.length : Int) > (6 : Int)) = decide (6 < (s.bays.getD k bay0).links.length) := gtD _ 6
   simp only [lt1 hlt, ge0, tn, tt, cond_true, nx hlt hb, ih, List.any_cons, e6]
   cases decide (6 < (s.bays.getD k bay0).links.length) <;> rfl
  ·rw [lt0 hlt, List.drop_of_length_le (by omega)]
   rfl
theorem c7 (s : SSta) (hs : D7 s = true) : CX prog 19 [aSta s] [] (vB (Ue s)) [] := by
 obtain ⟨a1, a2, a3, a4, a5⟩ := Et hs
 obtain ⟨g, hg⟩ : ∃ g, s.bays.length < g := ⟨s.bays.length + 1, by omega⟩
 refine Ax (Orc.nil_ok _) func19 b7 rfl ((ev7 s g).trans ?_)
 have hl : L7 s g g 0 = lB (s.bays.any fun b => decide (6 < b.links.length)) := lp7 s g a4 g 0 (by omega) (by omega)
 have t8 : ∀ n : Nat, decide ((n : Int) > 8) = decide (8 < n) := fun n => gtD n 8
 have t10 : ∀ n : Nat, decide ((n : Int) > 10) = decide (10 < n) := fun n => gtD n 10
 have t20 : ∀ n : Nat, decide ((n : Int) > 20) = decide (20 < n) := fun n => gtD n 20
 rw [hl]
 simp only [t8, t10, t20]
 unfold Ue
 cases decide (8 < s.buses.length) <;> cases decide (10 < s.lines.length) <;> cases decide (8 < s.srcs.length) <;> cases decide (20 < s.bays.length) <;> rfl
end Go.Proofs.YtbpndheehcbldaaGreatDoor.st
namespace Go.Proofs.YtbpndheehcbldaaGreatDoor.st
open Go.RowKit Go.Eb
def rsta (x : RSta) : SSta := ⟨x.1, theE Ab x.2.1, theE Ap x.2.2.1, theE Ca x.2.2.2.1, theE B5 x.2.2.2.2.1⟩
def okRS (x : RSta) : Bool := okE Ab x.2.1 && (okE Ap x.2.2.1 && (okE Ca x.2.2.2.1 && okE B5 x.2.2.2.2.1))
def staR (s : SSta) : RSta := (s.name, Ab s.buses, Ap s.lines, Ca s.srcs, B5 s.bays, ())
theorem Mg (s : SSta) : okRS (staR s) = true := by
 unfold okRS staR
 rw [(Bk B9 s.buses).1, (Bk Jr s.lines).1, (Bk Li s.srcs).1, (Bk J4 s.bays).1]; rfl
theorem F5 (s : SSta) : rsta (staR s) = s := by
 unfold rsta staR
 simp only [(Bk B9 s.buses).2, (Bk Jr s.lines).2, (Bk Li s.srcs).2, (Bk J4 s.bays).2]
theorem Zm (x : RSta) (h : okRS x = true) : Ale (.agg (staD.enc x)) (aSta (rsta x)) := by
 unfold okRS at h
 simp only [Bool.and_eq_true] at h
 exact .cons (.refl _) (.cons (Db h.1) (.cons (Db h.2.1) (.cons (Db h.2.2.1) (.cons (Db h.2.2.2) .nil))))
def ok24 (x : RSta) (b : RBay) : Bool := okRS x && okRB b
def lk24 (x : RSta) (b : RBay) : Int := B1 (rsta x).buses.length (rbay b)
theorem s24 : OrcS prog (o24 (fun a => Dc (rbay a)) okRB ok24 lk24) := by
 refine .cons (.inl .nil func114 (by kernel_rfl)) (.cons (.d fun a ha => ?_) (.cons (.d fun a ha => ?_) .nil))
 ·exact (c49 (rbay a.1.1)).ge (.cons (So _ ha) .nil) (.refl _)
 ·unfold ok24 at ha
  simp only [Bool.and_eq_true] at ha
  exact (c50 (rsta a.1.1) (rbay a.1.2.1) (Qk ha.2)).ge (.cons (Zm _ ha.1) (.cons (So _ ha.2) .nil)) (.refl _)
def Gq (nb nl ns : Nat) (before : List SBay) (b : SBay) : Int := match AdF nl ns b.kind with
 | none => 10
 | some c => bif !Ac b.off 0 (c - 1) then 9 else bif !Dc b then 2 else bif before.any (Eg b) then 12 else B1 nb b
theorem Uz (nb nl ns : Nat) (N : List ByteArray) (before : List SBay) (b : SBay) : Ld nb nl ns N before b = bif Bw N b.name != 0 then Bw N b.name else Gq nb nl ns before b := by
 unfold Ld H0 Bw Gq
 cases Ae b.name with
 | false => rfl
 | true => cases inB N b.name <;> rfl
section
variable (s : SSta) (i : Nat) (hi : i < s.bays.length)
abbrev bI (s : SSta) (i : Nat) : SBay := s.bays.getD i bay0
include hi
theorem lp24 (hb : s.bays.length <= 9223372036854775807) (hl : (bI s i).links.length <= 9223372036854775807) (g : Nat) : ∀ (m k : Nat), k <= i -> i - k < m ->
  Rg (fun a => Dc (rbay a)) okRB ok24 lk24 s i g m k = bif ((s.bays.take i).drop k).any (Eg (bI s i)) then lI 12 [] else lI (B1 s.buses.length (bI s i)) []
 | 0, k, _, h => by omega
 | m + 1, k, hk, h => by
  rw [Aih]
  have hok : ok24 (staR s) (bayR (bI s i)) = true := by
   unfold ok24
   have e1 : okRB (bayR (bI s i)) = true := Eu hl
   rw [Mg, e1]; rfl
  have hlk : lk24 (staR s) (bayR (bI s i)) = B1 s.buses.length (bI s i) := by unfold lk24; rw [F5, F7]
  have haft : ∀ A B : RSta, ∀ C' D' : RBay, A = staR s -> B = staR s -> C' = bayR (bI s i) -> D' = bayR (bI s i) -> (bif ok24 A C' then some (T.leaf (vI (lk24 B D'), ([] : Hp))) else none) = lI (B1 s.buses.length (bI s i)) [] := by
   intro A B C' D' hA hB hC hD
   subst hA hB hC hD
   rw [hok, hlk]; rfl
  by_cases hlt : k < i
  ·have ih := lp24 hb hl g m (k + 1) (by omega) (by omega)
   have ht : k < (s.bays.take i).length := by simp; omega
   have hg : (s.bays.take i).getD k bay0 = s.bays.getD k bay0 := by simp [List.getD, hlt]
   rw [Am (d := bay0) ht, hg]
   simp only [lt1 hlt, lt1 (show k < s.bays.length by omega), ge0, tn, Bool.and_self, cond_true, nx hlt (by omega), ih, List.any_cons]
   cases h3 : ((s.bays.getD i bay0).kind != 3) with
   | false =>
    have hn : ∀ l : List SBay, l.any (Eg (bI s i)) = false := fun l => by
     rw [List.any_eq_false]
     intro y _
     unfold Eg
     rw [h3]; simp
    have hc : Eg (bI s i) (s.bays.getD k bay0) = false := by unfold Eg; rw [h3]; rfl
    rw [hn, hc]
    simp only [cond_false, Bool.or_self]
    exact haft _ _ _ _ rfl rfl rfl rfl
   | true =>
    have hc : Eg (bI s i) (s.bays.getD k bay0) = ((s.bays.getD k bay0).kind == (bI s i).kind && ((s.bays.getD k bay0).off == (bI s i).off && (s.bays.getD k bay0).fin == (bI s i).fin)) := by
     unfold Eg
     rw [h3]
     simp only [Bool.true_and]
     rw [Bool.beq_comm (a := (bI s i).kind), Bool.beq_comm (a := (bI s i).off), Bool.beq_comm (a := (bI s i).fin)]
    rw [hc]
    simp only [cond_true]
    generalize ((s.bays.getD k bay0).kind == (s.bays.getD i bay0).kind) = b1
    generalize ((s.bays.getD k bay0).off == (s.bays.getD i bay0).off) = b2
    generalize ((s.bays.getD k bay0).fin == (s.bays.getD i bay0).fin) = b3
    cases b1 <;> cases b2 <;> cases b3 <;> rfl
  ·obtain rfl : k = i := by omega
   rw [lt0 (Nat.lt_irrefl _), List.drop_of_length_le (by simp; omega)]
   simp only [cond_false, List.any_nil]
   exact haft _ _ _ _ rfl rfl rfl rfl
omit hi in
theorem wge (b : Int) (n : Nat) : (decide (b < 0) || decide (b >= (n : Int))) = !Ac b 0 ((n : Int) - 1) := bge b n
omit hi in
theorem w00 (b : Int) : (b != 0) = !Ac b 0 ((1 : Int) - 1) := by
 unfold Ac
 rw [Bool.eq_iff_iff]
 simp only [bne_iff_ne, ne_eq, Bool.not_eq_true', Bool.and_eq_false_iff, decide_eq_false_iff_not]
 omega
theorem c24 (hb : s.bays.length <= 9223372036854775807) (hl : (bI s i).links.length <= 9223372036854775807) : CX prog 62 [aSta s, vI i] [] (vI (Gq s.buses.length s.lines.length s.srcs.length (s.bays.take i) (bI s i))) [] := by
 obtain ⟨g, hg⟩ : ∃ g, i < g := ⟨i + 1, by omega⟩
 refine Ax s24.ok func62 b24 rfl ((ev24 (fun a => Dc (rbay a)) okRB ok24 lk24 s i g).trans ?_)
 have hL : Rg (fun a => Dc (rbay a)) okRB ok24 lk24 s i g g 0 = bif (s.bays.take i).any (Eg (bI s i)) then lI 12 [] else lI (B1 s.buses.length (bI s i)) [] := lp24 s i hi hb hl g g 0 (by omega) (by omega)
 have e1 : okRB (bayR (s.bays.getD i bay0)) = true := Eu hl
 have e2 : Dc (rbay (bayR (s.bays.getD i bay0))) = Dc (s.bays.getD i bay0) := by rw [F7]
 unfold bayR at e1 e2
 rw [hL]
 simp only [lt1 hi, ge0, tn, Bool.and_self, cond_true, e1, e2, fOr, wge, w00]
 unfold Gq AdF
 cases ((s.bays.getD i bay0).kind == 1) with
 | true =>
  simp only [cond_true]
  cases Ac (s.bays.getD i bay0).off 0 ((s.lines.length : Int) - 1) <;> first | rfl | (cases Dc (s.bays.getD i bay0) <;> first | rfl | (cases (s.bays.take i).any (Eg (s.bays.getD i bay0)) <;> rfl))
 | false =>
  cases ((s.bays.getD i bay0).kind == 2) with
  | true =>
   simp only [cond_true, cond_false]
   cases Ac (s.bays.getD i bay0).off 0 ((s.srcs.length : Int) - 1) <;> first | rfl | (cases Dc (s.bays.getD i bay0) <;> first | rfl | (cases (s.bays.take i).any (Eg (s.bays.getD i bay0)) <;> rfl))
  | false =>
   cases ((s.bays.getD i bay0).kind == 3) with
   | true =>
    simp only [cond_true, cond_false]
    cases Ac (s.bays.getD i bay0).off 0 ((1 : Int) - 1) <;> first | rfl | (cases Dc (s.bays.getD i bay0) <;> first | rfl | (cases (s.bays.take i).any (Eg (s.bays.getD i bay0)) <;> rfl))
   | false => rfl
end
end Go.Proofs.YtbpndheehcbldaaGreatDoor.st
namespace Go.Proofs.YtbpndheehcbldaaGreatDoor.st
open Go.RowKit Go.Eb
def Z8 : K8 where
 nk := Ae
 okn a := okRS a.1 && (decide (0 <= a.2.1) && (decide (0 <= a.2.2.1) && (decide (0 <= a.2.2.2.1) && (decide (0 <= a.2.2.2.2.1) && (decide (a.2.1.toNat <= (rsta a.1).buses.length) && (decide (a.2.2.1.toNat <= (rsta a.1).lines.length) && (decide (a.2.2.2.1.toNat <= (rsta a.1).srcs.length) && (decide (a.2.2.2.2.1.toNat <= (rsta a.1).bays.length) &&
  (decide (a.2.1.toNat <= 900) && (decide (a.2.2.1.toNat <= 900) && (decide (a.2.2.2.1.toNat <= 900) && decide (a.2.2.2.2.1.toNat <= 900))))))))))))
 nm a := Ab (Bs (rsta a.1) a.2.1.toNat a.2.2.1.toNat a.2.2.2.1.toNat a.2.2.2.2.1.toNat)
 okd x s := okDS x s
 nd x s := Bw (theE Ab x) s
 okb a n := okRS a && (decide (0 <= n) && (decide (n.toNat < (rsta a).bays.length) && (decide ((rsta a).bays.length <= 900) && Kg (rsta a).bays)))
 be a n := Gq (rsta a).buses.length (rsta a).lines.length (rsta a).srcs.length ((rsta a).bays.take n.toNat) ((rsta a).bays.getD n.toNat bay0)
theorem s8 : OrcS prog (o8 Z8) := by
 refine .cons (.p Em c16) (.cons (.d fun a ha => ?_) (.cons (.d fun a ha => ?_) (.cons (.inl sOh func61 (by kernel_rfl)) (.cons (.d fun a ha => ?_) sOh))))
 ·have ha' : (okRS a.1.1 && (decide (0 <= a.1.2.1) && (decide (0 <= a.1.2.2.1) && (decide (0 <= a.1.2.2.2.1) && (decide (0 <= a.1.2.2.2.2.1) && (decide (a.1.2.1.toNat <= (rsta a.1.1).buses.length) && (decide (a.1.2.2.1.toNat <= (rsta a.1.1).lines.length) && (decide (a.1.2.2.2.1.toNat <= (rsta a.1.1).srcs.length) && (decide (a.1.2.2.2.2.1.toNat <= (rsta a.1.1).bays.length) &&
   (decide (a.1.2.1.toNat <= 900) && (decide (a.1.2.2.1.toNat <= 900) && (decide (a.1.2.2.2.1.toNat <= 900) && decide (a.1.2.2.2.2.1.toNat <= 900))))))))))))) = true := ha
  simp only [Bool.and_eq_true, decide_eq_true_eq] at ha'
  obtain ⟨h0, p1, p2, p3, p4, q1, q2, q3, q4, r1, r2, r3, r4⟩ := ha'
  have hc := c21 (rsta a.1.1) a.1.2.1.toNat a.1.2.2.1.toNat a.1.2.2.2.1.toNat a.1.2.2.2.2.1.toNat q1 q2 q3 q4 r1 r2 r3 r4
  rw [Int.toNat_of_nonneg p1, Int.toNat_of_nonneg p2, Int.toNat_of_nonneg p3, Int.toNat_of_nonneg p4] at hc
  exact hc.ge (.cons (Zm _ h0) (.refl _)) (.refl _)
 ·have ha' : okDS a.1.1 a.1.2.1 = true := ha
  unfold okDS at ha'
  simp only [Bool.and_eq_true, decide_eq_true_eq] at ha'
  exact (c20 (theE Ab a.1.1) a.1.2.1 ha'.2).ge (.cons (Db ha'.1) (.refl _)) (.refl _)
 ·have ha' : (okRS a.1.1 && (decide (0 <= a.1.2.1) && (decide (a.1.2.1.toNat < (rsta a.1.1).bays.length) && (decide ((rsta a.1.1).bays.length <= 900) && Kg (rsta a.1.1).bays)))) = true := ha
  simp only [Bool.and_eq_true, decide_eq_true_eq] at ha'
  obtain ⟨h0, p1, p2, p3, p4⟩ := ha'
  have hc := c24 (rsta a.1.1) a.1.2.1.toNat p2 (by omega) (R8 p4 _ p2)
  rw [Int.toNat_of_nonneg p1] at hc
  exact hc.ge (.cons (Zm _ h0) (.refl _)) (.refl _)
theorem J1 {α : Type} {nm : α -> ByteArray} {F : List ByteArray -> List α -> α -> Int} {N : List ByteArray} {d0 : α} {l : List α} {L : Nat -> Int -> Option (T (AV × Hp))} {NX : Option (T (AV × Hp))}
  (hst : ∀ (m k : Nat), k < l.length -> L (m + 1) k = bif F (N ++ (l.take k).map nm) (l.take k) (l.getD k d0) != 0 then lI (F (N ++ (l.take k).map nm) (l.take k) (l.getD k d0)) [] else L m ((k + 1 : Nat) : Int))
  (hend : ∀ m, L (m + 1) l.length = NX) : ∀ (m k : Nat), k <= l.length -> l.length - k < m -> L m k = bif (Dp nm F N (l.take k) (l.drop k)).1 != 0 then lI (Dp nm F N (l.take k) (l.drop k)).1 [] else NX
 | 0, k, _, h => by omega
 | m + 1, k, hk, h => by
  by_cases e : k = l.length
  ·subst e
   rw [hend, List.drop_of_length_le (Nat.le_refl _)]
   rfl
  ·have hlt : k < l.length := by omega
   have ih := J1 hst hend m (k + 1) (by omega) (by omega)
   have et : l.take (k + 1) = l.take k ++ [l.getD k d0] := by
    rw [List.take_succ_eq_append_getElem hlt]
    congr 2
    simp [List.getD, hlt]
   rw [hst m k hlt, ih, et, Am (d := d0) hlt]
   simp only [Dp]
   cases hF : (F (N ++ (l.take k).map nm) (l.take k) (l.getD k d0) != 0) with
   | true => simp only [cond_true, hF]
   | false => simp only [cond_false]
section
variable (s : SSta) (h1 : s.buses.length <= 900) (h2 : s.lines.length <= 900) (h3 : s.srcs.length <= 900) (h4 : s.bays.length <= 900) (hlk : Kg s.bays = true)
include h1 h2 h3 h4
theorem okn8 (a b c d : Nat) (q1 : a <= s.buses.length) (q2 : b <= s.lines.length) (q3 : c <= s.srcs.length) (q4 : d <= s.bays.length) : Z8.okn (staR s, (a : Int), (b : Int), (c : Int), (d : Int), ()) = true := by
 show (okRS (staR s) && (decide (0 <= (a : Int)) && (decide (0 <= (b : Int)) && (decide (0 <= (c : Int)) && (decide (0 <= (d : Int)) && (decide ((a : Int).toNat <= (rsta (staR s)).buses.length) && (decide ((b : Int).toNat <= (rsta (staR s)).lines.length) && (decide ((c : Int).toNat <= (rsta (staR s)).srcs.length) && (decide ((d : Int).toNat <= (rsta (staR s)).bays.length) &&
  (decide ((a : Int).toNat <= 900) && (decide ((b : Int).toNat <= 900) && (decide ((c : Int).toNat <= 900) && decide ((d : Int).toNat <= 900))))))))))))) = true
 rw [Mg, F5, Bool.true_and]
 simp only [Bool.and_eq_true, decide_eq_true_eq, Int.toNat_natCast]
 omega
omit h1 h2 h3 h4 in
theorem nm8 (a b c d : Nat) : Z8.nm (staR s, (a : Int), (b : Int), (c : Int), (d : Int), ()) = Ab (Bs s a b c d) := by
 show Ab (Bs (rsta (staR s)) _ _ _ _) = _
 rw [F5]; rfl
theorem okd8 (a b c d : Nat) (q1 : a <= s.buses.length) (q2 : b <= s.lines.length) (q3 : c <= s.srcs.length) (q4 : d <= s.bays.length) (x : ByteArray) : Z8.okd (Ab (Bs s a b c d)) x = true := by
 show okDS _ x = true
 unfold okDS
 rw [(Bk B9 _).1, (Bk B9 _).2]
 have : (Bs s a b c d).length <= 9223372036854775807 := by unfold Bs; simp; omega
 simp [this]
omit h1 h2 h3 h4 in
theorem nd8 (l : List ByteArray) (x : ByteArray) : Z8.nd (Ab l) x = Bw l x := by
 show Bw (theE Ab (Ab l)) x = _
 rw [(Bk B9 l).2]
include hlk
omit h1 h2 h3 in
theorem okb8 (k : Nat) (hk : k < s.bays.length) : Z8.okb (staR s) (k : Int) = true := by
 show (okRS (staR s) && (decide (0 <= (k : Int)) && (decide ((k : Int).toNat < (rsta (staR s)).bays.length) && (decide ((rsta (staR s)).bays.length <= 900) && Kg (rsta (staR s)).bays)))) = true
 rw [Mg, F5, hlk, Bool.true_and, Bool.and_true]
 simp only [Bool.and_eq_true, decide_eq_true_eq, Int.toNat_natCast]
 omega
omit h1 h2 h3 h4 hlk in
theorem be8 (k : Nat) : Z8.be (staR s) (k : Int) = Gq s.buses.length s.lines.length s.srcs.length (s.bays.take k) (s.bays.getD k bay0) := by
 show Gq (rsta (staR s)).buses.length _ _ _ _ = _
 rw [F5]; rfl
abbrev Nb (s : SSta) : List ByteArray := s.buses
abbrev Nl (s : SSta) : List ByteArray := s.buses ++ s.lines.map SLine.name
abbrev Ns (s : SSta) : List ByteArray := s.buses ++ s.lines.map SLine.name ++ s.srcs.map SSrc.name
theorem AiK (g : Nat) (hg : 900 < g) : Rc Z8 s g g 0 = lI (tBay s.buses.length s.lines.length s.srcs.length (Ns s) s.bays).1 [] := by
 have := J1 (nm := SBay.name) (F := fun N before x => Ld s.buses.length s.lines.length s.srcs.length N before x) (N := Ns s) (d0 := bay0) (l := s.bays) (L := fun m i => Rc Z8 s g m i) (NX := lI 0 [])
  (fun m k hk => by
    have e1 := okn8 s h1 h2 h3 h4 s.buses.length s.lines.length s.srcs.length k (by omega) (by omega) (by omega) (by omega)
    have e2 := nm8 s s.buses.length s.lines.length s.srcs.length k
    have e3 := okd8 s h1 h2 h3 h4 s.buses.length s.lines.length s.srcs.length k (by omega) (by omega) (by omega) (by omega) (s.bays.getD k bay0).name
    have e5 := okb8 s h4 hlk k hk
    have e6 := be8 s k
    have en : Bs s s.buses.length s.lines.length s.srcs.length k = Ns s ++ (s.bays.take k).map SBay.name := by unfold Bs; simp
    simp only [staR, Ab, Ap, Ca, B5, Aa] at e1 e2 e5 e6
    simp only [Ab, Aa] at e3
    rw [Aer]
    simp only [lt1 hk, ge0, tn, Bool.and_self, cond_true, nx hk (by omega), e1, e2, e3, e5, e6]
    have e4 := nd8 (Bs s s.buses.length s.lines.length s.srcs.length k) (s.bays.getD k bay0).name
    simp only [Ab, Aa] at e4
    simp only [e4]
    simp only [en, Uz]
    generalize Bw (Ns s ++ (s.bays.take k).map SBay.name) (s.bays.getD k bay0).name = a
    generalize Gq s.buses.length s.lines.length s.srcs.length (s.bays.take k) (s.bays.getD k bay0) = b
    unfold bne
    cases ha : (a == 0) <;> cases hb : (b == 0) <;> simp only [ha, hb, cond_true, cond_false, Bool.not_true, Bool.not_false])
  (fun m => by rw [Aer, lt0 (Nat.lt_irrefl _)]; rfl) g 0 (by omega) (by omega)
 have e : Rc Z8 s g g 0 = _ := this
 rw [e]
 show (bif (tBay s.buses.length s.lines.length s.srcs.length (Ns s) s.bays).1 != 0 then lI (tBay s.buses.length s.lines.length s.srcs.length (Ns s) s.bays).1 [] else lI 0 []) = _
 unfold bne
 cases hz : ((tBay s.buses.length s.lines.length s.srcs.length (Ns s) s.bays).1 == 0) with
 | false => rfl
 | true =>
  have : (tBay s.buses.length s.lines.length s.srcs.length (Ns s) s.bays).1 = 0 := by simpa using hz
  rw [this]; rfl
end
end Go.Proofs.YtbpndheehcbldaaGreatDoor.st
namespace Go.Proofs.YtbpndheehcbldaaGreatDoor.st
open Go.RowKit Go.Eb
section
variable (s : SSta) (h1 : s.buses.length <= 900) (h2 : s.lines.length <= 900) (h3 : s.srcs.length <= 900) (h4 : s.bays.length <= 900) (hlk : Kg s.bays = true)
include h1 h2 h3 h4
theorem AiL (g : Nat) (hg : 900 < g) : Tl Z8 s g g 0 = bif (tSrc (Nl s) s.srcs).1 != 0 then lI (tSrc (Nl s) s.srcs).1 [] else Rc Z8 s g g 0 := by
 have hh := J1 (nm := SSrc.name) (F := fun N _ x => N4 N x) (N := Nl s) (d0 := src0) (l := s.srcs) (L := fun m i => Tl Z8 s g m i) (NX := Rc Z8 s g g 0)
  (fun m k hk => by
    have e1 := okn8 s h1 h2 h3 h4 s.buses.length s.lines.length k 0 (by omega) (by omega) (by omega) (by omega)
    have e2 := nm8 s s.buses.length s.lines.length k 0
    have e3 := okd8 s h1 h2 h3 h4 s.buses.length s.lines.length k 0 (by omega) (by omega) (by omega) (by omega) (s.srcs.getD k src0).name
    have en : Bs s s.buses.length s.lines.length k 0 = Nl s ++ (s.srcs.take k).map SSrc.name := by unfold Bs; simp
    simp only [staR, Ab, Ap, Ca, B5, Aa, Int.natCast_zero] at e1 e2
    simp only [Ab, Aa] at e3
    rw [Aes]
    simp only [lt1 hk, ge0, tn, Bool.and_self, cond_true, nx hk (by omega), e1, e2, e3]
    have e4 := nd8 (Bs s s.buses.length s.lines.length k 0) (s.srcs.getD k src0).name
    simp only [Ab, Aa] at e4
    simp only [e4]
    simp only [en, N4, Mo, Ac, fNot, fAnd]
    generalize Bw (Nl s ++ (s.srcs.take k).map SSrc.name) (s.srcs.getD k src0).name = a
    generalize decide ((s.srcs.getD k src0).emf >= 1) = a1
    generalize decide ((s.srcs.getD k src0).emf <= 1000000) = a2
    generalize decide ((s.srcs.getD k src0).r1 >= 0) = b1
    generalize decide ((s.srcs.getD k src0).r1 <= 1000) = b2
    generalize decide ((s.srcs.getD k src0).x1 >= 1) = b3
    generalize decide ((s.srcs.getD k src0).x1 <= 1000) = b4
    generalize decide ((s.srcs.getD k src0).r0 >= 0) = b5
    generalize decide ((s.srcs.getD k src0).r0 <= 1000) = b6
    generalize decide ((s.srcs.getD k src0).x0 >= 1) = b7
    generalize decide ((s.srcs.getD k src0).x0 <= 1000) = b8
    unfold bne
    cases ha : (a == 0) with
    | false => simp only [ha, cond_true, cond_false, Bool.not_true, Bool.not_false]
    | true =>
     simp only [ha, cond_true, cond_false, Bool.not_true, Bool.not_false]
     cases a1 <;> cases a2 <;> first | rfl | (cases b1 <;> cases b2 <;> cases b3 <;> cases b4 <;> first | rfl | (cases b5 <;> cases b6 <;> cases b7 <;> cases b8 <;> rfl)))
  (fun m => by rw [Aes, lt0 (Nat.lt_irrefl _)]; rfl) g 0 (by omega) (by omega)
 simp only [List.take_zero, List.drop_zero] at hh
 exact hh
theorem AiM (g : Nat) (hg : 900 < g) : Tm Z8 s g g 0 = bif (F2 (Nb s) s.lines).1 != 0 then lI (F2 (Nb s) s.lines).1 [] else Tl Z8 s g g 0 := by
 have hh := J1 (nm := SLine.name) (F := fun N _ x => Kh N x) (N := Nb s) (d0 := Af) (l := s.lines) (L := fun m i => Tm Z8 s g m i) (NX := Tl Z8 s g g 0)
  (fun m k hk => by
    have e1 := okn8 s h1 h2 h3 h4 s.buses.length k 0 0 (by omega) (by omega) (by omega) (by omega)
    have e2 := nm8 s s.buses.length k 0 0
    have e3 := okd8 s h1 h2 h3 h4 s.buses.length k 0 0 (by omega) (by omega) (by omega) (by omega) (s.lines.getD k Af).name
    have en : Bs s s.buses.length k 0 0 = Nb s ++ (s.lines.take k).map SLine.name := by unfold Bs; simp
    simp only [staR, Ab, Ap, Ca, B5, Aa, Int.natCast_zero] at e1 e2
    simp only [Ab, Aa] at e3
    rw [Aet]
    simp only [lt1 hk, ge0, tn, Bool.and_self, cond_true, nx hk (by omega), e1, e2, e3]
    have e4 := nd8 (Bs s s.buses.length k 0 0) (s.lines.getD k Af).name
    simp only [Ab, Aa] at e4
    simp only [e4]
    simp only [en, Kh, Mo, Ac, fNot, fAnd]
    generalize Bw (Nb s ++ (s.lines.take k).map SLine.name) (s.lines.getD k Af).name = a
    generalize decide ((s.lines.getD k Af).r1 >= 0) = b1
    generalize decide ((s.lines.getD k Af).r1 <= 1000) = b2
    generalize decide ((s.lines.getD k Af).x1 >= 1) = b3
    generalize decide ((s.lines.getD k Af).x1 <= 1000) = b4
    generalize decide ((s.lines.getD k Af).r0 >= 0) = b5
    generalize decide ((s.lines.getD k Af).r0 <= 1000) = b6
    generalize decide ((s.lines.getD k Af).x0 >= 1) = b7
    generalize decide ((s.lines.getD k Af).x0 <= 1000) = b8
    unfold bne
    cases ha : (a == 0) with
    | false => simp only [ha, cond_true, cond_false, Bool.not_true, Bool.not_false]
    | true =>
     simp only [ha, cond_true, cond_false, Bool.not_true, Bool.not_false]
     cases b1 <;> cases b2 <;> cases b3 <;> cases b4 <;> first | rfl | (cases b5 <;> cases b6 <;> cases b7 <;> cases b8 <;> rfl))
  (fun m => by rw [Aet, lt0 (Nat.lt_irrefl _)]; rfl) g 0 (by omega) (by omega)
 simp only [List.take_zero, List.drop_zero] at hh
 exact hh
theorem st7' (g m k : Nat) (hk : k < s.buses.length) : L8_7 Z8 s g (m + 1) k = bif Bw (s.buses.take k) (s.buses.getD k e0) != 0 then lI (Bw (s.buses.take k) (s.buses.getD k e0)) [] else L8_7 Z8 s g m ((k + 1 : Nat) : Int) := by
 have e1 := okn8 s h1 h2 h3 h4 k 0 0 0 (by omega) (by omega) (by omega) (by omega)
 have e2 := nm8 s k 0 0 0
 have e3 := okd8 s h1 h2 h3 h4 k 0 0 0 (by omega) (by omega) (by omega) (by omega) (s.buses.getD k e0)
 have en : Bs s k 0 0 0 = s.buses.take k := by unfold Bs; simp
 simp only [staR, Ab, Ap, Ca, B5, Aa, Int.natCast_zero] at e1 e2
 simp only [Ab, Aa] at e3
 rw [Aia]
 simp only [lt1 hk, ge0, tn, Bool.and_self, cond_true, e1, e2]
 rw [nx hk (by omega), e3]
 have e4 := nd8 (Bs s k 0 0 0) (s.buses.getD k e0)
 simp only [Ab, Aa] at e4
 simp only [e4, cond_true]
 simp only [en]
theorem Akc (g : Nat) (hg : 900 < g) : L8_7 Z8 s g g 0 = bif (tBus s.buses).1 != 0 then lI (tBus s.buses).1 [] else Tm Z8 s g g 0 := by
 have hh := J1 (nm := id) (F := fun N _ x => Bw N x) (N := []) (d0 := e0) (l := s.buses) (L := fun m i => L8_7 Z8 s g m i) (NX := Tm Z8 s g g 0)
  (fun m k hk => by
    have := st7' s h1 h2 h3 h4 g m k hk
    simp only [List.nil_append, List.map_id]
    exact this)
  (fun m => by rw [Aia, lt0 (Nat.lt_irrefl _)]; simp only [cond_false]) g 0 (by omega) (by omega)
 simp only [List.take_zero, List.drop_zero] at hh
 exact hh
end
theorem c8 (s : SSta) (hlk : Kg s.bays = true) : CX prog 28 [aSta s] [] (vI (C2 s)) [] := by
 obtain ⟨g, hg⟩ : ∃ g, 900 < g := ⟨901, by omega⟩
 refine Ax s8.ok func28 b8 rfl ((ev8 Z8 s g).trans ?_)
 have t4 : ∀ n : Nat, decide ((n : Int) > 4) = decide (4 < n) := fun n => Pi n 4
 have t6 : ∀ n : Nat, decide ((n : Int) > 6) = decide (6 < n) := fun n => Pi n 6
 have t16 : ∀ n : Nat, decide ((n : Int) > 16) = decide (16 < n) := fun n => Pi n 16
 have t1 : ∀ n : Nat, decide ((n : Int) < 1) = (n == 0) := fun n => by
  rw [Bool.eq_iff_iff, decide_eq_true_eq, beq_iff_eq]; omega
 simp only [t1, t4, t6, t16, fOr]
 unfold C2
 show (bif !Ae s.name then _ else _) = _
 cases Ae s.name with
 | false => rfl
 | true =>
  simp only [Bool.not_true, cond_false]
  have hcb : (s.buses.length == 0 || (decide (4 < s.buses.length) || (decide (6 < s.lines.length) || (decide (4 < s.srcs.length) || decide (16 < s.bays.length))))) = M5 s := rfl
  rw [hcb]
  cases hc : M5 s with
  | true => rfl
  | false =>
   simp only [cond_false]
   unfold M5 at hc
   simp only [Bool.or_eq_false_iff, decide_eq_false_iff_not] at hc
   obtain ⟨_, h4, h6, h4', h16⟩ := hc
   rw [Akc s (by omega) (by omega) (by omega) (by omega) g hg, AiM s (by omega) (by omega) (by omega) (by omega) g hg, AiL s (by omega) (by omega) (by omega) (by omega) g hg, AiK s (by omega) (by omega) (by omega) (by omega) hlk g hg]
   cases ((tBus s.buses).1 != 0) with
   | true => rfl
   | false =>
    cases ((F2 s.buses s.lines).1 != 0) with
    | true => rfl
    | false =>
     cases ((tSrc (s.buses ++ s.lines.map SLine.name) s.srcs).1 != 0) <;> rfl
end Go.Proofs.YtbpndheehcbldaaGreatDoor.st
end
