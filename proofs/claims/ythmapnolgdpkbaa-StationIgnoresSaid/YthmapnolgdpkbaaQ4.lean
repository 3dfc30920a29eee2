/-
  An evaluator of Go code on abstract values, proved sound, and what it computes of the functions that the statement reaches (part 4). No condition.
-/
import Derived.Test.YthmapnolgdpkbaaQ3
namespace Go.Proofs.Ythmapnolgdpkbaa.de
open Go.RowKit Go.Eb Go.Proofs.Ythmapnolgdpkbaa.st
set_option maxRecDepth 100000

abbrev icK (x : It) : List D := [dI x.line, wordsD x.words, dB x.block, itemsD x.kids]
abbrev aItK (x : It) : AV := .agg ((icK x).map .d)
/-- a closure that holds a pointer at block 1 -/
def clo (f : FuncId) : Dec C Unit := ⟨fun x => match x with | .fn g [] [.ptr 1 0] => bif Nat.beq g f then some () else none | _ => none, fun _ => .fn f [] [.ptr 1 0], fun x a e => by
  split at e
  · rename_i g
    cases hb : Nat.beq g f with
    | false => rw [hb] at e; cases e
    | true => rw [Nat.eq_of_beq_eq_true hb]
  · cases e⟩
def dIxl : Dec (List AV × Hp) ((Nat × Unit × Unit) × (Nat × (Nat → List D)) × RIt × Unit) := .pair (.cons (.c (.row 0 5)) (.cons (.c (clo 82)) .nil)) (.cons (.blk 0 (.rowB 5 58)) (.cons (.blk 1 (.cells 45 itD)) .nil))
def dIxs : Dec (List AV × Hp) ((Nat × Unit × Unit) × (Nat × (Nat → List D)) × RIt × Unit) := .pair (.cons (.c (.row 0 6)) (.cons (.c (clo 84)) .nil)) (.cons (.blk 0 (.rowB 6 61)) (.cons (.blk 1 (.cells 45 itD)) .nil))
def dIxb : Dec (List AV × Hp) ((Nat × ByteArray × Unit) × (Nat × (Nat → List D)) × Unit) := .pair (.cons (.c (.row 0 1)) (.cons (.c .str) .nil)) (.cons (.blk 0 (.rowB 1 9)) .nil)
def dBy : Dec (List AV × Hp) ((Unit × RBay × Unit) × AD) := .pair (.cons (.c (.ptr 0 0)) (.cons (.agg bayD) .nil)) dHD
abbrev AS := (ByteArray × Nat × Nat × Nat × Nat × Unit × Bool × Unit) × (Nat × (Nat → List D)) × (Nat × (Nat → List D)) × (Nat × (Nat → List D)) × (Nat × (Nat → List D)) × (List (Value × Value)) × (ByteArray × Int × Int × Int × Int × Int × Nat × Bool × Int × Int × Int × Int × Unit) × (Nat × (Nat → List D)) × (List (Value × Value)) × Unit
def dHS : Dec Hp AS := .cons (.blk 0 (.cells 87 (.cons .str (.cons (.row 1 1) (.cons (.row 2 5) (.cons (.row 3 6) (.cons (.row 4 12) (.cons (.mp 5) (.cons .bool .nil))))))))) (.cons (.blk 1 (.rowB 1 9)) (.cons (.blk 2 (.rowB 5 58)) (.cons (.blk 3 (.rowB 6 61)) (.cons (.blk 4 (.rowB 12 54)) (.cons (.blk 5 (.mapB 0))
  (.cons (.blk 6 (.cells 54 (.cons .str (.cons .i64 (.cons .i64 (.cons .i64 (.cons .i64 (.cons .i64 (.cons (.row 7 2) (.cons .bool (.cons .i64 (.cons .i64 (.cons .i64 (.cons .i64 .nil)))))))))))))) (.cons (.blk 7 (.rowB 2 108)) (.cons (.blk 8 (.mapB 0)) .nil))))))))
def dSt : Dec (List AV × Hp) ((Unit × RIt × Unit × Unit × Unit) × AS) := .pair (.cons (.c (.ptr 0 0)) (.cons (.agg itD) (.cons (.c (.ptr 6 0)) (.cons (.c (.mp 8)) .nil)))) dHS
abbrev TS := (Unit × RIt × Unit × Unit × Unit) × AS
/-- the memory behind a setting: the links are a new row, or as before -/
def hS1 (cl : TS → Bool) (ct vt sa tr : TS → Int) (gl : TS → Nat → List D) (a : TS) : Hp := [(0, .cells [.d (dS a.2.1.1), .row 1 1 a.2.2.1.1, .row 2 5 a.2.2.2.1.1, .row 3 6 a.2.2.2.2.1.1, .row 4 12 a.2.2.2.2.2.1.1, .mp 5, .d (dB a.2.1.2.2.2.2.2.2.1)] 87), (1, .row a.2.2.1.1 a.2.2.1.2 1 9), (2, .row a.2.2.2.1.1 a.2.2.2.1.2 5 58), (3, .row a.2.2.2.2.1.1 a.2.2.2.2.1.2 6 61), (4, .row a.2.2.2.2.2.1.1 a.2.2.2.2.2.1.2 12 54), (5, .map 0 a.2.2.2.2.2.2.1),
  (6, .cells [.d (dS a.2.2.2.2.2.2.2.1.1), .d (dI a.2.2.2.2.2.2.2.1.2.1), .d (dI a.2.2.2.2.2.2.2.1.2.2.1), .d (dI a.2.2.2.2.2.2.2.1.2.2.2.1), .d (dI a.2.2.2.2.2.2.2.1.2.2.2.2.1), .d (dI a.2.2.2.2.2.2.2.1.2.2.2.2.2.1), .row 9 2 (a.2.2.2.2.2.2.2.2.1.1 + 1), .d (dB (cl a)), .d (dI (ct a)), .d (dI (vt a)), .d (dI (sa a)), .d (dI (tr a))] 54), (7, .dead), (8, .map 0 a.2.2.2.2.2.2.2.2.2.1), (9, .row (a.2.2.2.2.2.2.2.2.1.1 + 1) (gl a) 2 108)]
def hS2 (cl : TS → Bool) (ct vt sa tr : TS → Int) (a : TS) : Hp := [(0, .cells [.d (dS a.2.1.1), .row 1 1 a.2.2.1.1, .row 2 5 a.2.2.2.1.1, .row 3 6 a.2.2.2.2.1.1, .row 4 12 a.2.2.2.2.2.1.1, .mp 5, .d (dB a.2.1.2.2.2.2.2.2.1)] 87), (1, .row a.2.2.1.1 a.2.2.1.2 1 9), (2, .row a.2.2.2.1.1 a.2.2.2.1.2 5 58), (3, .row a.2.2.2.2.1.1 a.2.2.2.2.1.2 6 61), (4, .row a.2.2.2.2.2.1.1 a.2.2.2.2.2.1.2 12 54), (5, .map 0 a.2.2.2.2.2.2.1),
  (6, .cells [.d (dS a.2.2.2.2.2.2.2.1.1), .d (dI a.2.2.2.2.2.2.2.1.2.1), .d (dI a.2.2.2.2.2.2.2.1.2.2.1), .d (dI a.2.2.2.2.2.2.2.1.2.2.2.1), .d (dI a.2.2.2.2.2.2.2.1.2.2.2.2.1), .d (dI a.2.2.2.2.2.2.2.1.2.2.2.2.2.1), .row 7 2 a.2.2.2.2.2.2.2.2.1.1, .d (dB (cl a)), .d (dI (ct a)), .d (dI (vt a)), .d (dI (sa a)), .d (dI (tr a))] 54), (7, .row a.2.2.2.2.2.2.2.2.1.1 a.2.2.2.2.2.2.2.2.1.2 2 108), (8, .map 0 a.2.2.2.2.2.2.2.2.2.1)]
structure KB where
  ok6 : TS → Bool
  sel : TS → Bool
  cl : TS → Bool
  ct : TS → Int
  vt : TS → Int
  sa : TS → Int
  tr : TS → Int
  gl : TS → Nat → List D
  okf : List AV → Bool
  fn : List AV → Nat
  fv : List AV → Nat → Int
  fo : List AV → Bool
  ol : (Nat × Unit × Unit) × (Nat × (Nat → List D)) × RIt × Unit → Bool
  il : (Nat × Unit × Unit) × (Nat × (Nat → List D)) × RIt × Unit → Int
  os : (Nat × Unit × Unit) × (Nat × (Nat → List D)) × RIt × Unit → Bool
  is : (Nat × Unit × Unit) × (Nat × (Nat → List D)) × RIt × Unit → Int
  oy : (Unit × RBay × Unit) × AD → Bool
  my : (Unit × RBay × Unit) × AD → List (Value × Value)
  gy : (Unit × RBay × Unit) × AD → Nat → List D
def hy (my : (Unit × RBay × Unit) × AD → List (Value × Value)) (gy : (Unit × RBay × Unit) × AD → Nat → List D) (a : (Unit × RBay × Unit) × AD) : Hp := [(0, .cells [.d (dS a.2.1.1), .row 1 1 a.2.2.1.1, .row 2 5 a.2.2.2.1.1, .row 3 6 a.2.2.2.2.1.1, .row 6 12 (a.2.2.2.2.2.1.1 + 1), .mp 5, .d (dB a.2.1.2.2.2.2.2.2.1)] 87), (1, .row a.2.2.1.1 a.2.2.1.2 1 9), (2, .row a.2.2.2.1.1 a.2.2.2.1.2 5 58), (3, .row a.2.2.2.2.1.1 a.2.2.2.2.1.2 6 61), (4, .dead), (5, .map 0 (my a)), (6, .row (a.2.2.2.2.2.1.1 + 1) (gy a) 12 54)]
noncomputable def oHd (Z : KB) : Orc := oFm Z.okf Z.fn Z.fv Z.fo (Orc.cons 81 (ansD dIxl Z.ol (fun a => vI (Z.il a)) fun a => (dIxl.enc a).2) (Orc.cons 83 (ansD dIxs Z.os (fun a => vI (Z.is a)) fun a => (dIxs.enc a).2) Orc.nil))
noncomputable def oRb (Z : KB) : Orc := Orc.cons 74 (inl Try.prog (oHd Z) na 1 Try.f74) (Orc.cons 75 (ansB dSt Z.ok6 Z.sel (fun _ => vI 0) (hS1 Z.cl Z.ct Z.vt Z.sa Z.tr Z.gl) (fun _ => vI 0) (hS2 Z.cl Z.ct Z.vt Z.sa Z.tr)) (Orc.cons 33 (ansD dBy Z.oy (fun _ => vI 0) (hy Z.my Z.gy)) Orc.nil))
abbrev HD (s0 : ByteArray) (ka : Nat) (ga : Nat → List D) (kb : Nat) (gb : Nat → List D) (kc : Nat) (gc : Nat → List D) (kd : Nat) (gd : Nat → List D) (mpa : List (Value × Value)) (nd : Bool) : Hp := [(0, .cells [.d (dS s0), .row 1 1 ka, .row 2 5 kb, .row 3 6 kc, .row 4 12 kd, .mp 5, .d (dB nd)] 87), (1, .row ka ga 1 9), (2, .row kb gb 5 58), (3, .row kc gc 6 61), (4, .row kd gd 12 54), (5, .map 0 mpa)]
noncomputable def annrdb : Ann := annOf [(6, ⟨[8, 6, 0, 24, 3, 25, 26], [(6, 6, 2, 108)]⟩), (100013, ⟨[3, 6, 0, 8], [(6, 6, 1000, 0)]⟩)]
noncomputable def Lrdb_6 (Z : KB) (x : It) (s0 : ByteArray) (ka : Nat) (ga : Nat → List D) (kb : Nat) (gb : Nat → List D) (kc : Nat) (gc : Nat → List D) (kd : Nat) (gd : Nat → List D) (mpa : List (Value × Value)) (nd : Bool) (g m : Nat) (n8 : Nat) (f8 : Nat → List D) (l9 : List (Value × Value)) (i26 : Int) (x7 : ByteArray) (x7_2 : Int) (x7_3 : Int) (x7_4 : Int) (x7_5 : Int) (x7_6 : Int) (x7_7 : Bool) (x7_8 : Int) (x7_9 : Int) (x7_10 : Int) (x7_11 : Int) := LK Try.prog (oRb Z) annrdb (List.length (α := Nat × Blk) [(0, .cells [.d (dS s0), .row 1 1 ka, .row 2 5 kb, .row 3 6 kc, .row 4 12 kd, .mp 5, .d (dB nd)] 87), (1, .row ka ga 1 9), (2, .row kb gb 5 58), (3, .row kc gc 6 61), (4, .row kd gd 12 54), (5, .map 0 mpa)]) g Try.f64 6 m ⟨frm [(0, AV.c (C.ptr 0 0)), (3, AV.c (C.ptr 6 0)), (6, AV.c (C.ptr 7 0)), (8, AV.c (C.mp 9)), (24, AV.c (C.d (listD 4 icells i0 (It.kids x)))), (25, AV.c (C.d (D.v (Value.int IntKind.i64 (↑(List.length (It.kids x)) : Int))))), (26, AV.c (C.d (D.v (Value.int IntKind.i64 i26))))] 0 Try.f64.ntmps, [(0, Blk.cells [C.d (D.v (Value.string s0)), C.row 1 1 ka, C.row 2 5 kb, C.row 3 6 kc, C.row 4 12 kd, C.mp 5, C.d (D.v (Value.bool nd))] 87), (1, Blk.row ka ga 1 9), (2, Blk.row kb gb 5 58), (3, Blk.row kc gc 6 61), (4, Blk.row kd gd 12 54), (5, Blk.map 0 mpa), (6, Blk.cells [C.d (D.v (Value.int IntKind.i64 (It.line x))), C.d (listD 2 wcells w0 (It.words x)), C.d (D.v (Value.bool (It.block x))), C.d (listD 4 icells i0 (It.kids x))] 45), (7, Blk.cells [C.d (D.v (Value.string x7)), C.d (D.v (Value.int IntKind.i64 x7_2)), C.d (D.v (Value.int IntKind.i64 x7_3)), C.d (D.v (Value.int IntKind.i64 x7_4)), C.d (D.v (Value.int IntKind.i64 x7_5)), C.d (D.v (Value.int IntKind.i64 x7_6)), C.row 8 2 n8, C.d (D.v (Value.bool x7_7)), C.d (D.v (Value.int IntKind.i64 x7_8)), C.d (D.v (Value.int IntKind.i64 x7_9)), C.d (D.v (Value.int IntKind.i64 x7_10)), C.d (D.v (Value.int IntKind.i64 x7_11))] 54), (8, Blk.row n8 f8 2 108), (9, Blk.map 0 l9)], 10⟩
noncomputable def Lrdb_13 (Z : KB) (x : It) (s0 : ByteArray) (ka : Nat) (ga : Nat → List D) (kb : Nat) (gb : Nat → List D) (kc : Nat) (gc : Nat → List D) (kd : Nat) (gd : Nat → List D) (mpa : List (Value × Value)) (nd : Bool) (g m : Nat) (l8 : List (Value × Value)) (x7 : ByteArray) (x7_2 : Int) (x7_3 : Int) (x7_4 : Int) (x7_5 : Int) (x7_6 : Int) (x7_7 : D) (x7_8 : Bool) (x7_9 : Int) (x7_10 : Int) (x7_11 : Int) (x7_12 : Int) := GK Try.prog (oRb Z) annrdb (List.length (α := Nat × Blk) [(0, .cells [.d (dS s0), .row 1 1 ka, .row 2 5 kb, .row 3 6 kc, .row 4 12 kd, .mp 5, .d (dB nd)] 87), (1, .row ka ga 1 9), (2, .row kb gb 5 58), (3, .row kc gc 6 61), (4, .row kd gd 12 54), (5, .map 0 mpa)]) g Try.f64 13 m ⟨frm [(0, AV.c (C.ptr 0 0)), (3, AV.c (C.ptr 6 0)), (6, AV.c (C.ptr 7 0)), (8, AV.c (C.mp 8))] 0 Try.f64.ntmps, [(0, Blk.cells [C.d (D.v (Value.string s0)), C.row 1 1 ka, C.row 2 5 kb, C.row 3 6 kc, C.row 4 12 kd, C.mp 5, C.d (D.v (Value.bool nd))] 87), (1, Blk.row ka ga 1 9), (2, Blk.row kb gb 5 58), (3, Blk.row kc gc 6 61), (4, Blk.row kd gd 12 54), (5, Blk.map 0 mpa), (6, Blk.cells [C.d (D.v (Value.int IntKind.i64 (It.line x))), C.d (listD 2 wcells w0 (It.words x)), C.d (D.v (Value.bool (It.block x))), C.d (listD 4 icells i0 (It.kids x))] 45), (7, Blk.cells [C.d (D.v (Value.string x7)), C.d (D.v (Value.int IntKind.i64 x7_2)), C.d (D.v (Value.int IntKind.i64 x7_3)), C.d (D.v (Value.int IntKind.i64 x7_4)), C.d (D.v (Value.int IntKind.i64 x7_5)), C.d (D.v (Value.int IntKind.i64 x7_6)), C.d (x7_7), C.d (D.v (Value.bool x7_8)), C.d (D.v (Value.int IntKind.i64 x7_9)), C.d (D.v (Value.int IntKind.i64 x7_10)), C.d (D.v (Value.int IntKind.i64 x7_11)), C.d (D.v (Value.int IntKind.i64 x7_12))] 54), (8, Blk.map 0 l8)], 9⟩
theorem brdb : Try.f64.body = some (bodyOf Try.f64) := by kernel_rfl
set_option maxRecDepth 100000 in
theorem evrdb (Z : KB) (x : It) (s0 : ByteArray) (ka : Nat) (ga : Nat → List D) (kb : Nat) (gb : Nat → List D) (kc : Nat) (gc : Nat → List D) (kd : Nat) (gd : Nat → List D) (mpa : List (Value × Value)) (nd : Bool) (g : Nat) : callC Try.prog (oRb Z) annrdb g Try.f64 (bodyOf Try.f64) [.c (.ptr 0 0), aItK x] [(0, .cells [.d (dS s0), .row 1 1 ka, .row 2 5 kb, .row 3 6 kc, .row 4 12 kd, .mp 5, .d (dB nd)] 87), (1, .row ka ga 1 9), (2, .row kb gb 5 58), (3, .row kc gc 6 61), (4, .row kd gd 12 54), (5, .map 0 mpa)] =
 (bif decide ((↑(List.length (It.words x)) : Int) < (3 : Int)) then some (T.leaf (AV.tup [(false, [C.d (D.v (Value.int IntKind.i64 (It.line x)))]), (false, [C.d (D.v (Value.int
 IntKind.i64 (6 : Int)))])], [((0 : Nat), Blk.cells [C.d (D.v (Value.string s0)), C.row ((1 : Nat)) ((1 : Nat)) ka, C.row ((2 : Nat)) ((5 : Nat)) kb, C.row ((3 : Nat)) ((6 : Nat))
 kc, C.row ((4 : Nat)) ((12 : Nat)) kd, C.mp ((5 : Nat)), C.d (D.v (Value.bool nd))] ((87 : Nat))), ((1 : Nat), Blk.row ka ga ((1 : Nat)) ((9 : Nat))), ((2 : Nat), Blk.row kb gb ((5
 : Nat)) ((58 : Nat))), ((3 : Nat), Blk.row kc gc ((6 : Nat)) ((61 : Nat))), ((4 : Nat), Blk.row kd gd ((12 : Nat)) ((54 : Nat))), ((5 : Nat), Blk.map ((0 : Nat)) mpa)])) else (bif
 decide ((0 : Int) ≤ (1 : Int)) && decide ((1 : Int) < (↑(List.length (It.words x)) : Int)) then (bif decide ((0 : Int) ≤ (2 : Int)) && decide ((2 : Int) < (↑(List.length (It.words
 x)) : Int)) then (bif ByteArray.toList (Wd.text (List.getD (It.words x) (Int.toNat (2 : Int)) w0)) == ByteArray.toList (ByteArray.mk #[(108 : UInt8), (105 : UInt8), (110 : UInt8),
 (101 : UInt8)]) then (bif KB.okf Z [AV.agg [C.d (D.v (Value.int IntKind.i64 (It.line x))), C.d (listD ((2 : Nat)) wcells w0 (It.words x)), C.d (D.v (Value.bool (It.block x))), C.d
 (listD ((4 : Nat)) icells i0 (It.kids x))], AV.c (C.d (D.v (Value.string (ByteArray.mk #[(119 : UInt8), (119 : UInt8), (119 : UInt8), (119 : UInt8), (110 : UInt8)])))), AV.c (C.d
 (D.v (Value.bool true)))] then (bif !KB.fo Z [AV.agg [C.d (D.v (Value.int IntKind.i64 (It.line x))), C.d (listD ((2 : Nat)) wcells w0 (It.words x)), C.d (D.v (Value.bool (It.block
 x))), C.d (listD ((4 : Nat)) icells i0 (It.kids x))], AV.c (C.d (D.v (Value.string (ByteArray.mk #[(119 : UInt8), (119 : UInt8), (119 : UInt8), (119 : UInt8), (110 : UInt8)])))),
 AV.c (C.d (D.v (Value.bool true)))] then some (T.leaf (AV.tup [(false, [C.d (D.v (Value.int IntKind.i64 (It.line x)))]), (false, [C.d (D.v (Value.int IntKind.i64 (6 : Int)))])],
 [((0 : Nat), Blk.cells [C.d (D.v (Value.string s0)), C.row ((1 : Nat)) ((1 : Nat)) ka, C.row ((2 : Nat)) ((5 : Nat)) kb, C.row ((3 : Nat)) ((6 : Nat)) kc, C.row ((4 : Nat)) ((12 :
 Nat)) kd, C.mp ((5 : Nat)), C.d (D.v (Value.bool nd))] ((87 : Nat))), ((1 : Nat), Blk.row ka ga ((1 : Nat)) ((9 : Nat))), ((2 : Nat), Blk.row kb gb ((5 : Nat)) ((58 : Nat))), ((3 :
 Nat), Blk.row kc gc ((6 : Nat)) ((61 : Nat))), ((4 : Nat), Blk.row kd gd ((12 : Nat)) ((54 : Nat))), ((5 : Nat), Blk.map ((0 : Nat)) mpa)])) else (bif decide ((0 : Int) ≤ (0 : Int))
 && decide ((0 : Int) < (↑(KB.fn Z [AV.agg [C.d (D.v (Value.int IntKind.i64 (It.line x))), C.d (listD ((2 : Nat)) wcells w0 (It.words x)), C.d (D.v (Value.bool (It.block x))), C.d
 (listD ((4 : Nat)) icells i0 (It.kids x))], AV.c (C.d (D.v (Value.string (ByteArray.mk #[(119 : UInt8), (119 : UInt8), (119 : UInt8), (119 : UInt8), (110 : UInt8)])))), AV.c (C.d
 (D.v (Value.bool true)))]) : Int)) then (bif KB.ol Z ((kb, (), ()), (kb, gb), (It.line x, wordsD (It.words x), It.block x, itemsD (It.kids x), ()), ()) then (bif decide (KB.il Z
 ((kb, (), ()), (kb, gb), (It.line x, wordsD (It.words x), It.block x, itemsD (It.kids x), ()), ()) < (0 : Int)) then some (T.leaf (AV.tup [(false, [C.d (D.v (Value.int IntKind.i64
 (It.line x)))]), (false, [C.d (D.v (Value.int IntKind.i64 (9 : Int)))])], [((0 : Nat), Blk.cells [C.d (D.v (Value.string s0)), C.row ((1 : Nat)) ((1 : Nat)) ka, C.row ((2 : Nat))
 ((5 : Nat)) kb, C.row ((3 : Nat)) ((6 : Nat)) kc, C.row ((4 : Nat)) ((12 : Nat)) kd, C.mp ((5 : Nat)), C.d (D.v (Value.bool nd))] ((87 : Nat))), ((1 : Nat), Blk.row ka ga ((1 :
 Nat)) ((9 : Nat))), ((2 : Nat), Blk.row kb gb ((5 : Nat)) ((58 : Nat))), ((3 : Nat), Blk.row kc gc ((6 : Nat)) ((61 : Nat))), ((4 : Nat), Blk.row kd gd ((12 : Nat)) ((54 : Nat))),
 ((5 : Nat), Blk.map ((0 : Nat)) mpa)])) else Lrdb_6 Z x s0 ka ga kb gb kc gc kd gd mpa nd g g (0 : Nat) (fun x => []) ([]) ((0 : Int)) (Wd.text (List.getD (It.words x) (Int.toNat (1
 : Int)) w0)) ((1 : Int)) (KB.il Z ((kb, (), ()), (kb, gb), (It.line x, wordsD (It.words x), It.block x, itemsD (It.kids x), ()), ())) (KB.fv Z [AV.agg [C.d (D.v (Value.int
 IntKind.i64 (It.line x))), C.d (listD ((2 : Nat)) wcells w0 (It.words x)), C.d (D.v (Value.bool (It.block x))), C.d (listD ((4 : Nat)) icells i0 (It.kids x))], AV.c (C.d (D.v
 (Value.string (ByteArray.mk #[(119 : UInt8), (119 : UInt8), (119 : UInt8), (119 : UInt8), (110 : UInt8)])))), AV.c (C.d (D.v (Value.bool true)))] (Int.toNat (0 : Int))) ((0 : Int))
 ((0 : Int)) true ((0 : Int)) ((0 : Int)) ((0 : Int)) ((0 : Int))) else none) else none)) else none) else (bif ByteArray.toList (Wd.text (List.getD (It.words x) (Int.toNat (2 : Int))
 w0)) == ByteArray.toList (ByteArray.mk #[(115 : UInt8), (111 : UInt8), (117 : UInt8), (114 : UInt8), (99 : UInt8), (101 : UInt8)]) then (bif KB.okf Z [AV.agg [C.d (D.v (Value.int
 IntKind.i64 (It.line x))), C.d (listD ((2 : Nat)) wcells w0 (It.words x)), C.d (D.v (Value.bool (It.block x))), C.d (listD ((4 : Nat)) icells i0 (It.kids x))], AV.c (C.d (D.v
 (Value.string (ByteArray.mk #[(119 : UInt8), (119 : UInt8), (119 : UInt8), (119 : UInt8)])))), AV.c (C.d (D.v (Value.bool true)))] then (bif !KB.fo Z [AV.agg [C.d (D.v (Value.int
 IntKind.i64 (It.line x))), C.d (listD ((2 : Nat)) wcells w0 (It.words x)), C.d (D.v (Value.bool (It.block x))), C.d (listD ((4 : Nat)) icells i0 (It.kids x))], AV.c (C.d (D.v
 (Value.string (ByteArray.mk #[(119 : UInt8), (119 : UInt8), (119 : UInt8), (119 : UInt8)])))), AV.c (C.d (D.v (Value.bool true)))] then some (T.leaf (AV.tup [(false, [C.d (D.v
 (Value.int IntKind.i64 (It.line x)))]), (false, [C.d (D.v (Value.int IntKind.i64 (6 : Int)))])], [((0 : Nat), Blk.cells [C.d (D.v (Value.string s0)), C.row ((1 : Nat)) ((1 : Nat))
 ka, C.row ((2 : Nat)) ((5 : Nat)) kb, C.row ((3 : Nat)) ((6 : Nat)) kc, C.row ((4 : Nat)) ((12 : Nat)) kd, C.mp ((5 : Nat)), C.d (D.v (Value.bool nd))] ((87 : Nat))), ((1 : Nat),
 Blk.row ka ga ((1 : Nat)) ((9 : Nat))), ((2 : Nat), Blk.row kb gb ((5 : Nat)) ((58 : Nat))), ((3 : Nat), Blk.row kc gc ((6 : Nat)) ((61 : Nat))), ((4 : Nat), Blk.row kd gd ((12 :
 Nat)) ((54 : Nat))), ((5 : Nat), Blk.map ((0 : Nat)) mpa)])) else (bif KB.os Z ((kc, (), ()), (kc, gc), (It.line x, wordsD (It.words x), It.block x, itemsD (It.kids x), ()), ())
 then (bif decide (KB.is Z ((kc, (), ()), (kc, gc), (It.line x, wordsD (It.words x), It.block x, itemsD (It.kids x), ()), ()) < (0 : Int)) then some (T.leaf (AV.tup [(false, [C.d
 (D.v (Value.int IntKind.i64 (It.line x)))]), (false, [C.d (D.v (Value.int IntKind.i64 (9 : Int)))])], [((0 : Nat), Blk.cells [C.d (D.v (Value.string s0)), C.row ((1 : Nat)) ((1 :
 Nat)) ka, C.row ((2 : Nat)) ((5 : Nat)) kb, C.row ((3 : Nat)) ((6 : Nat)) kc, C.row ((4 : Nat)) ((12 : Nat)) kd, C.mp ((5 : Nat)), C.d (D.v (Value.bool nd))] ((87 : Nat))), ((1 :
 Nat), Blk.row ka ga ((1 : Nat)) ((9 : Nat))), ((2 : Nat), Blk.row kb gb ((5 : Nat)) ((58 : Nat))), ((3 : Nat), Blk.row kc gc ((6 : Nat)) ((61 : Nat))), ((4 : Nat), Blk.row kd gd
 ((12 : Nat)) ((54 : Nat))), ((5 : Nat), Blk.map ((0 : Nat)) mpa)])) else Lrdb_6 Z x s0 ka ga kb gb kc gc kd gd mpa nd g g (0 : Nat) (fun x => []) ([]) ((0 : Int)) (Wd.text
 (List.getD (It.words x) (Int.toNat (1 : Int)) w0)) ((2 : Int)) (KB.is Z ((kc, (), ()), (kc, gc), (It.line x, wordsD (It.words x), It.block x, itemsD (It.kids x), ()), ())) ((0 :
 Int)) ((0 : Int)) ((0 : Int)) true ((0 : Int)) ((0 : Int)) ((0 : Int)) ((0 : Int))) else none)) else none) else (bif ByteArray.toList (Wd.text (List.getD (It.words x) (Int.toNat (2
 : Int)) w0)) == ByteArray.toList (ByteArray.mk #[(99 : UInt8), (111 : UInt8), (117 : UInt8), (112 : UInt8), (108 : UInt8), (101 : UInt8), (114 : UInt8)]) then (bif KB.okf Z [AV.agg
 [C.d (D.v (Value.int IntKind.i64 (It.line x))), C.d (listD ((2 : Nat)) wcells w0 (It.words x)), C.d (D.v (Value.bool (It.block x))), C.d (listD ((4 : Nat)) icells i0 (It.kids x))],
 AV.c (C.d (D.v (Value.string (ByteArray.mk #[(119 : UInt8), (119 : UInt8), (119 : UInt8), (110 : UInt8), (110 : UInt8)])))), AV.c (C.d (D.v (Value.bool true)))] then (bif !KB.fo Z
 [AV.agg [C.d (D.v (Value.int IntKind.i64 (It.line x))), C.d (listD ((2 : Nat)) wcells w0 (It.words x)), C.d (D.v (Value.bool (It.block x))), C.d (listD ((4 : Nat)) icells i0
 (It.kids x))], AV.c (C.d (D.v (Value.string (ByteArray.mk #[(119 : UInt8), (119 : UInt8), (119 : UInt8), (110 : UInt8), (110 : UInt8)])))), AV.c (C.d (D.v (Value.bool true)))] then
 some (T.leaf (AV.tup [(false, [C.d (D.v (Value.int IntKind.i64 (It.line x)))]), (false, [C.d (D.v (Value.int IntKind.i64 (6 : Int)))])], [((0 : Nat), Blk.cells [C.d (D.v
 (Value.string s0)), C.row ((1 : Nat)) ((1 : Nat)) ka, C.row ((2 : Nat)) ((5 : Nat)) kb, C.row ((3 : Nat)) ((6 : Nat)) kc, C.row ((4 : Nat)) ((12 : Nat)) kd, C.mp ((5 : Nat)), C.d
 (D.v (Value.bool nd))] ((87 : Nat))), ((1 : Nat), Blk.row ka ga ((1 : Nat)) ((9 : Nat))), ((2 : Nat), Blk.row kb gb ((5 : Nat)) ((58 : Nat))), ((3 : Nat), Blk.row kc gc ((6 : Nat))
 ((61 : Nat))), ((4 : Nat), Blk.row kd gd ((12 : Nat)) ((54 : Nat))), ((5 : Nat), Blk.map ((0 : Nat)) mpa)])) else (bif decide ((0 : Int) ≤ (0 : Int)) && decide ((0 : Int) < (↑(KB.fn
 Z [AV.agg [C.d (D.v (Value.int IntKind.i64 (It.line x))), C.d (listD ((2 : Nat)) wcells w0 (It.words x)), C.d (D.v (Value.bool (It.block x))), C.d (listD ((4 : Nat)) icells i0
 (It.kids x))], AV.c (C.d (D.v (Value.string (ByteArray.mk #[(119 : UInt8), (119 : UInt8), (119 : UInt8), (110 : UInt8), (110 : UInt8)])))), AV.c (C.d (D.v (Value.bool true)))]) :
 Int)) then (bif decide ((0 : Int) ≤ (1 : Int)) && decide ((1 : Int) < (↑(KB.fn Z [AV.agg [C.d (D.v (Value.int IntKind.i64 (It.line x))), C.d (listD ((2 : Nat)) wcells w0 (It.words
 x)), C.d (D.v (Value.bool (It.block x))), C.d (listD ((4 : Nat)) icells i0 (It.kids x))], AV.c (C.d (D.v (Value.string (ByteArray.mk #[(119 : UInt8), (119 : UInt8), (119 : UInt8),
 (110 : UInt8), (110 : UInt8)])))), AV.c (C.d (D.v (Value.bool true)))]) : Int)) then Lrdb_6 Z x s0 ka ga kb gb kc gc kd gd mpa nd g g (0 : Nat) (fun x => []) ([]) ((0 : Int))
 (Wd.text (List.getD (It.words x) (Int.toNat (1 : Int)) w0)) ((3 : Int)) ((0 : Int)) ((0 : Int)) (KB.fv Z [AV.agg [C.d (D.v (Value.int IntKind.i64 (It.line x))), C.d (listD ((2 :
 Nat)) wcells w0 (It.words x)), C.d (D.v (Value.bool (It.block x))), C.d (listD ((4 : Nat)) icells i0 (It.kids x))], AV.c (C.d (D.v (Value.string (ByteArray.mk #[(119 : UInt8), (119
 : UInt8), (119 : UInt8), (110 : UInt8), (110 : UInt8)])))), AV.c (C.d (D.v (Value.bool true)))] (Int.toNat (0 : Int))) (KB.fv Z [AV.agg [C.d (D.v (Value.int IntKind.i64 (It.line
 x))), C.d (listD ((2 : Nat)) wcells w0 (It.words x)), C.d (D.v (Value.bool (It.block x))), C.d (listD ((4 : Nat)) icells i0 (It.kids x))], AV.c (C.d (D.v (Value.string (ByteArray.mk
 #[(119 : UInt8), (119 : UInt8), (119 : UInt8), (110 : UInt8), (110 : UInt8)])))), AV.c (C.d (D.v (Value.bool true)))] (Int.toNat (1 : Int))) true ((0 : Int)) ((0 : Int)) ((0 : Int))
 ((0 : Int)) else none) else none)) else none) else some (T.leaf (AV.tup [(false, [C.d (D.v (Value.int IntKind.i64 (It.line x)))]), (false, [C.d (D.v (Value.int IntKind.i64 (6 :
 Int)))])], [((0 : Nat), Blk.cells [C.d (D.v (Value.string s0)), C.row ((1 : Nat)) ((1 : Nat)) ka, C.row ((2 : Nat)) ((5 : Nat)) kb, C.row ((3 : Nat)) ((6 : Nat)) kc, C.row ((4 :
 Nat)) ((12 : Nat)) kd, C.mp ((5 : Nat)), C.d (D.v (Value.bool nd))] ((87 : Nat))), ((1 : Nat), Blk.row ka ga ((1 : Nat)) ((9 : Nat))), ((2 : Nat), Blk.row kb gb ((5 : Nat)) ((58 :
 Nat))), ((3 : Nat), Blk.row kc gc ((6 : Nat)) ((61 : Nat))), ((4 : Nat), Blk.row kd gd ((12 : Nat)) ((54 : Nat))), ((5 : Nat), Blk.map ((0 : Nat)) mpa)]))))) else none) else none)) := by kernel_rfl
set_option maxRecDepth 100000 in
theorem strdb_6 (Z : KB) (x : It) (s0 : ByteArray) (ka : Nat) (ga : Nat → List D) (kb : Nat) (gb : Nat → List D) (kc : Nat) (gc : Nat → List D) (kd : Nat) (gd : Nat → List D) (mpa : List (Value × Value)) (nd : Bool) (g m : Nat) (n8 : Nat) (f8 : Nat → List D) (l9 : List (Value × Value)) (i26 : Int) (x7 : ByteArray) (x7_2 : Int) (x7_3 : Int) (x7_4 : Int) (x7_5 : Int) (x7_6 : Int) (x7_7 : Bool) (x7_8 : Int) (x7_9 : Int) (x7_10 : Int) (x7_11 : Int) : Lrdb_6 Z x s0 ka ga kb gb kc gc kd gd mpa nd g (m + 1) n8 f8 l9 i26 x7 x7_2 x7_3 x7_4 x7_5 x7_6 x7_7 x7_8 x7_9 x7_10 x7_11 =
 (bif decide (i26 < (↑(List.length (It.kids x)) : Int)) then (bif decide ((0 : Int) ≤ i26) && decide (i26 < (↑(List.length (It.kids x)) : Int)) then (bif KB.ok6 Z (((), (It.line
 (List.getD (It.kids x) (Int.toNat i26) i0), wordsD (It.words (List.getD (It.kids x) (Int.toNat i26) i0)), It.block (List.getD (It.kids x) (Int.toNat i26) i0), kidsD (List.getD
 (It.kids x) (Int.toNat i26) i0), ()), (), (), ()), (s0, ka, kb, kc, kd, (), nd, ()), (ka, ga), (kb, gb), (kc, gc), (kd, gd), mpa, (x7, x7_2, x7_3, x7_4, x7_5, x7_6, n8, x7_7, x7_8,
 x7_9, x7_10, x7_11, ()), (n8, f8), l9, ()) then (bif KB.sel Z (((), (It.line (List.getD (It.kids x) (Int.toNat i26) i0), wordsD (It.words (List.getD (It.kids x) (Int.toNat i26)
 i0)), It.block (List.getD (It.kids x) (Int.toNat i26) i0), kidsD (List.getD (It.kids x) (Int.toNat i26) i0), ()), (), (), ()), (s0, ka, kb, kc, kd, (), nd, ()), (ka, ga), (kb, gb),
 (kc, gc), (kd, gd), mpa, (x7, x7_2, x7_3, x7_4, x7_5, x7_6, n8, x7_7, x7_8, x7_9, x7_10, x7_11, ()), (n8, f8), l9, ()) then (bif decide ((0 : Int) ≤ (0 : Int)) && decide ((0 : Int)
 < (↑(List.length (It.words (List.getD (It.kids x) (Int.toNat i26) i0))) : Int)) then Lrdb_6 Z x s0 ka ga kb gb kc gc kd gd (Prod.fst (Prod.snd (Prod.snd (Prod.snd (Prod.snd
 (Prod.snd (Prod.snd (((), (It.line (List.getD (It.kids x) (Int.toNat i26) i0), wordsD (It.words (List.getD (It.kids x) (Int.toNat i26) i0)), It.block (List.getD (It.kids x)
 (Int.toNat i26) i0), kidsD (List.getD (It.kids x) (Int.toNat i26) i0), ()), (), (), ()), (s0, ka, kb, kc, kd, (), nd, ()), (ka, ga), (kb, gb), (kc, gc), (kd, gd), mpa, (x7, x7_2,
 x7_3, x7_4, x7_5, x7_6, n8, x7_7, x7_8, x7_9, x7_10, x7_11, ()), (n8, f8), l9, ())))))))) nd g m (n8 + (1 : Nat)) (KB.gl Z (((), (It.line (List.getD (It.kids x) (Int.toNat i26) i0),
 wordsD (It.words (List.getD (It.kids x) (Int.toNat i26) i0)), It.block (List.getD (It.kids x) (Int.toNat i26) i0), kidsD (List.getD (It.kids x) (Int.toNat i26) i0), ()), (), (),
 ()), (s0, ka, kb, kc, kd, (), nd, ()), (ka, ga), (kb, gb), (kc, gc), (kd, gd), mpa, (x7, x7_2, x7_3, x7_4, x7_5, x7_6, n8, x7_7, x7_8, x7_9, x7_10, x7_11, ()), (n8, f8), l9, ()))
 ((Value.string (Wd.text (List.getD (It.words (List.getD (It.kids x) (Int.toNat i26) i0)) (Int.toNat (0 : Int)) w0)), Value.bool true) :: Prod.fst (Prod.snd (Prod.snd (Prod.snd
 (Prod.snd (Prod.snd (Prod.snd (Prod.snd (Prod.snd (Prod.snd (((), (It.line (List.getD (It.kids x) (Int.toNat i26) i0), wordsD (It.words (List.getD (It.kids x) (Int.toNat i26) i0)),
 It.block (List.getD (It.kids x) (Int.toNat i26) i0), kidsD (List.getD (It.kids x) (Int.toNat i26) i0), ()), (), (), ()), (s0, ka, kb, kc, kd, (), nd, ()), (ka, ga), (kb, gb), (kc,
 gc), (kd, gd), mpa, (x7, x7_2, x7_3, x7_4, x7_5, x7_6, n8, x7_7, x7_8, x7_9, x7_10, x7_11, ()), (n8, f8), l9, ()))))))))))) (IntKind.wrap IntKind.i64 (i26 + (1 : Int))) x7 x7_2 x7_3
 x7_4 x7_5 x7_6 (KB.cl Z (((), (It.line (List.getD (It.kids x) (Int.toNat i26) i0), wordsD (It.words (List.getD (It.kids x) (Int.toNat i26) i0)), It.block (List.getD (It.kids x)
 (Int.toNat i26) i0), kidsD (List.getD (It.kids x) (Int.toNat i26) i0), ()), (), (), ()), (s0, ka, kb, kc, kd, (), nd, ()), (ka, ga), (kb, gb), (kc, gc), (kd, gd), mpa, (x7, x7_2,
 x7_3, x7_4, x7_5, x7_6, n8, x7_7, x7_8, x7_9, x7_10, x7_11, ()), (n8, f8), l9, ())) (KB.ct Z (((), (It.line (List.getD (It.kids x) (Int.toNat i26) i0), wordsD (It.words (List.getD
 (It.kids x) (Int.toNat i26) i0)), It.block (List.getD (It.kids x) (Int.toNat i26) i0), kidsD (List.getD (It.kids x) (Int.toNat i26) i0), ()), (), (), ()), (s0, ka, kb, kc, kd, (),
 nd, ()), (ka, ga), (kb, gb), (kc, gc), (kd, gd), mpa, (x7, x7_2, x7_3, x7_4, x7_5, x7_6, n8, x7_7, x7_8, x7_9, x7_10, x7_11, ()), (n8, f8), l9, ())) (KB.vt Z (((), (It.line
 (List.getD (It.kids x) (Int.toNat i26) i0), wordsD (It.words (List.getD (It.kids x) (Int.toNat i26) i0)), It.block (List.getD (It.kids x) (Int.toNat i26) i0), kidsD (List.getD
 (It.kids x) (Int.toNat i26) i0), ()), (), (), ()), (s0, ka, kb, kc, kd, (), nd, ()), (ka, ga), (kb, gb), (kc, gc), (kd, gd), mpa, (x7, x7_2, x7_3, x7_4, x7_5, x7_6, n8, x7_7, x7_8,
 x7_9, x7_10, x7_11, ()), (n8, f8), l9, ())) (KB.sa Z (((), (It.line (List.getD (It.kids x) (Int.toNat i26) i0), wordsD (It.words (List.getD (It.kids x) (Int.toNat i26) i0)),
 It.block (List.getD (It.kids x) (Int.toNat i26) i0), kidsD (List.getD (It.kids x) (Int.toNat i26) i0), ()), (), (), ()), (s0, ka, kb, kc, kd, (), nd, ()), (ka, ga), (kb, gb), (kc,
 gc), (kd, gd), mpa, (x7, x7_2, x7_3, x7_4, x7_5, x7_6, n8, x7_7, x7_8, x7_9, x7_10, x7_11, ()), (n8, f8), l9, ())) (KB.tr Z (((), (It.line (List.getD (It.kids x) (Int.toNat i26)
 i0), wordsD (It.words (List.getD (It.kids x) (Int.toNat i26) i0)), It.block (List.getD (It.kids x) (Int.toNat i26) i0), kidsD (List.getD (It.kids x) (Int.toNat i26) i0), ()), (),
 (), ()), (s0, ka, kb, kc, kd, (), nd, ()), (ka, ga), (kb, gb), (kc, gc), (kd, gd), mpa, (x7, x7_2, x7_3, x7_4, x7_5, x7_6, n8, x7_7, x7_8, x7_9, x7_10, x7_11, ()), (n8, f8), l9,
 ())) else none) else (bif decide ((0 : Int) ≤ (0 : Int)) && decide ((0 : Int) < (↑(List.length (It.words (List.getD (It.kids x) (Int.toNat i26) i0))) : Int)) then Lrdb_6 Z x s0 ka
 ga kb gb kc gc kd gd (Prod.fst (Prod.snd (Prod.snd (Prod.snd (Prod.snd (Prod.snd (Prod.snd (((), (It.line (List.getD (It.kids x) (Int.toNat i26) i0), wordsD (It.words (List.getD
 (It.kids x) (Int.toNat i26) i0)), It.block (List.getD (It.kids x) (Int.toNat i26) i0), kidsD (List.getD (It.kids x) (Int.toNat i26) i0), ()), (), (), ()), (s0, ka, kb, kc, kd, (),
 nd, ()), (ka, ga), (kb, gb), (kc, gc), (kd, gd), mpa, (x7, x7_2, x7_3, x7_4, x7_5, x7_6, n8, x7_7, x7_8, x7_9, x7_10, x7_11, ()), (n8, f8), l9, ())))))))) nd g m n8 f8
 ((Value.string (Wd.text (List.getD (It.words (List.getD (It.kids x) (Int.toNat i26) i0)) (Int.toNat (0 : Int)) w0)), Value.bool true) :: Prod.fst (Prod.snd (Prod.snd (Prod.snd
 (Prod.snd (Prod.snd (Prod.snd (Prod.snd (Prod.snd (Prod.snd (((), (It.line (List.getD (It.kids x) (Int.toNat i26) i0), wordsD (It.words (List.getD (It.kids x) (Int.toNat i26) i0)),
 It.block (List.getD (It.kids x) (Int.toNat i26) i0), kidsD (List.getD (It.kids x) (Int.toNat i26) i0), ()), (), (), ()), (s0, ka, kb, kc, kd, (), nd, ()), (ka, ga), (kb, gb), (kc,
 gc), (kd, gd), mpa, (x7, x7_2, x7_3, x7_4, x7_5, x7_6, n8, x7_7, x7_8, x7_9, x7_10, x7_11, ()), (n8, f8), l9, ()))))))))))) (IntKind.wrap IntKind.i64 (i26 + (1 : Int))) x7 x7_2 x7_3
 x7_4 x7_5 x7_6 (KB.cl Z (((), (It.line (List.getD (It.kids x) (Int.toNat i26) i0), wordsD (It.words (List.getD (It.kids x) (Int.toNat i26) i0)), It.block (List.getD (It.kids x)
 (Int.toNat i26) i0), kidsD (List.getD (It.kids x) (Int.toNat i26) i0), ()), (), (), ()), (s0, ka, kb, kc, kd, (), nd, ()), (ka, ga), (kb, gb), (kc, gc), (kd, gd), mpa, (x7, x7_2,
 x7_3, x7_4, x7_5, x7_6, n8, x7_7, x7_8, x7_9, x7_10, x7_11, ()), (n8, f8), l9, ())) (KB.ct Z (((), (It.line (List.getD (It.kids x) (Int.toNat i26) i0), wordsD (It.words (List.getD
 (It.kids x) (Int.toNat i26) i0)), It.block (List.getD (It.kids x) (Int.toNat i26) i0), kidsD (List.getD (It.kids x) (Int.toNat i26) i0), ()), (), (), ()), (s0, ka, kb, kc, kd, (),
 nd, ()), (ka, ga), (kb, gb), (kc, gc), (kd, gd), mpa, (x7, x7_2, x7_3, x7_4, x7_5, x7_6, n8, x7_7, x7_8, x7_9, x7_10, x7_11, ()), (n8, f8), l9, ())) (KB.vt Z (((), (It.line
 (List.getD (It.kids x) (Int.toNat i26) i0), wordsD (It.words (List.getD (It.kids x) (Int.toNat i26) i0)), It.block (List.getD (It.kids x) (Int.toNat i26) i0), kidsD (List.getD
 (It.kids x) (Int.toNat i26) i0), ()), (), (), ()), (s0, ka, kb, kc, kd, (), nd, ()), (ka, ga), (kb, gb), (kc, gc), (kd, gd), mpa, (x7, x7_2, x7_3, x7_4, x7_5, x7_6, n8, x7_7, x7_8,
 x7_9, x7_10, x7_11, ()), (n8, f8), l9, ())) (KB.sa Z (((), (It.line (List.getD (It.kids x) (Int.toNat i26) i0), wordsD (It.words (List.getD (It.kids x) (Int.toNat i26) i0)),
 It.block (List.getD (It.kids x) (Int.toNat i26) i0), kidsD (List.getD (It.kids x) (Int.toNat i26) i0), ()), (), (), ()), (s0, ka, kb, kc, kd, (), nd, ()), (ka, ga), (kb, gb), (kc,
 gc), (kd, gd), mpa, (x7, x7_2, x7_3, x7_4, x7_5, x7_6, n8, x7_7, x7_8, x7_9, x7_10, x7_11, ()), (n8, f8), l9, ())) (KB.tr Z (((), (It.line (List.getD (It.kids x) (Int.toNat i26)
 i0), wordsD (It.words (List.getD (It.kids x) (Int.toNat i26) i0)), It.block (List.getD (It.kids x) (Int.toNat i26) i0), kidsD (List.getD (It.kids x) (Int.toNat i26) i0), ()), (),
 (), ()), (s0, ka, kb, kc, kd, (), nd, ()), (ka, ga), (kb, gb), (kc, gc), (kd, gd), mpa, (x7, x7_2, x7_3, x7_4, x7_5, x7_6, n8, x7_7, x7_8, x7_9, x7_10, x7_11, ()), (n8, f8), l9,
 ())) else none)) else none) else none) else Lrdb_13 Z x s0 ka ga kb gb kc gc kd gd mpa nd g g l9 x7 x7_2 x7_3 x7_4 x7_5 x7_6 (D.sl ((2 : Nat)) n8 f8) x7_7 x7_8 x7_9 x7_10 x7_11) := by kernel_rfl
set_option maxRecDepth 100000 in
theorem strdb_13 (Z : KB) (x : It) (s0 : ByteArray) (ka : Nat) (ga : Nat → List D) (kb : Nat) (gb : Nat → List D) (kc : Nat) (gc : Nat → List D) (kd : Nat) (gd : Nat → List D) (mpa : List (Value × Value)) (nd : Bool) (g m : Nat) (l8 : List (Value × Value)) (x7 : ByteArray) (x7_2 : Int) (x7_3 : Int) (x7_4 : Int) (x7_5 : Int) (x7_6 : Int) (x7_7 : D) (x7_8 : Bool) (x7_9 : Int) (x7_10 : Int) (x7_11 : Int) (x7_12 : Int) : Lrdb_13 Z x s0 ka ga kb gb kc gc kd gd mpa nd g (m + 1) l8 x7 x7_2 x7_3 x7_4 x7_5 x7_6 x7_7 x7_8 x7_9 x7_10 x7_11 x7_12 =
 (bif !boolOf (assoc l8 (Value.string (ByteArray.mk #[(99 : UInt8), (116 : UInt8)]))) then some (T.leaf (AV.tup [(false, [C.d (D.v (Value.int IntKind.i64 (It.line x)))]), (false,
 [C.d (D.v (Value.int IntKind.i64 (11 : Int)))])], [((0 : Nat), Blk.cells [C.d (D.v (Value.string s0)), C.row ((1 : Nat)) ((1 : Nat)) ka, C.row ((2 : Nat)) ((5 : Nat)) kb, C.row ((3
 : Nat)) ((6 : Nat)) kc, C.row ((4 : Nat)) ((12 : Nat)) kd, C.mp ((5 : Nat)), C.d (D.v (Value.bool nd))] ((87 : Nat))), ((1 : Nat), Blk.row ka ga ((1 : Nat)) ((9 : Nat))), ((2 :
 Nat), Blk.row kb gb ((5 : Nat)) ((58 : Nat))), ((3 : Nat), Blk.row kc gc ((6 : Nat)) ((61 : Nat))), ((4 : Nat), Blk.row kd gd ((12 : Nat)) ((54 : Nat))), ((5 : Nat), Blk.map ((0 :
 Nat)) mpa)])) else (bif !boolOf (assoc l8 (Value.string (ByteArray.mk #[(116 : UInt8), (114 : UInt8), (97 : UInt8), (118 : UInt8), (101 : UInt8), (108 : UInt8)]))) then some (T.leaf
 (AV.tup [(false, [C.d (D.v (Value.int IntKind.i64 (It.line x)))]), (false, [C.d (D.v (Value.int IntKind.i64 (11 : Int)))])], [((0 : Nat), Blk.cells [C.d (D.v (Value.string s0)),
 C.row ((1 : Nat)) ((1 : Nat)) ka, C.row ((2 : Nat)) ((5 : Nat)) kb, C.row ((3 : Nat)) ((6 : Nat)) kc, C.row ((4 : Nat)) ((12 : Nat)) kd, C.mp ((5 : Nat)), C.d (D.v (Value.bool nd))]
 ((87 : Nat))), ((1 : Nat), Blk.row ka ga ((1 : Nat)) ((9 : Nat))), ((2 : Nat), Blk.row kb gb ((5 : Nat)) ((58 : Nat))), ((3 : Nat), Blk.row kc gc ((6 : Nat)) ((61 : Nat))), ((4 :
 Nat), Blk.row kd gd ((12 : Nat)) ((54 : Nat))), ((5 : Nat), Blk.map ((0 : Nat)) mpa)])) else (bif !boolOf (assoc l8 (Value.string (ByteArray.mk #[(118 : UInt8), (116 : UInt8)])))
 then (bif x7_2 != (3 : Int) then some (T.leaf (AV.tup [(false, [C.d (D.v (Value.int IntKind.i64 (It.line x)))]), (false, [C.d (D.v (Value.int IntKind.i64 (11 : Int)))])], [((0 :
 Nat), Blk.cells [C.d (D.v (Value.string s0)), C.row ((1 : Nat)) ((1 : Nat)) ka, C.row ((2 : Nat)) ((5 : Nat)) kb, C.row ((3 : Nat)) ((6 : Nat)) kc, C.row ((4 : Nat)) ((12 : Nat))
 kd, C.mp ((5 : Nat)), C.d (D.v (Value.bool nd))] ((87 : Nat))), ((1 : Nat), Blk.row ka ga ((1 : Nat)) ((9 : Nat))), ((2 : Nat), Blk.row kb gb ((5 : Nat)) ((58 : Nat))), ((3 : Nat),
 Blk.row kc gc ((6 : Nat)) ((61 : Nat))), ((4 : Nat), Blk.row kd gd ((12 : Nat)) ((54 : Nat))), ((5 : Nat), Blk.map ((0 : Nat)) mpa)])) else (bif (↑kd : Int) == (16 : Int) then some
 (T.leaf (AV.tup [(false, [C.d (D.v (Value.int IntKind.i64 (It.line x)))]), (false, [C.d (D.v (Value.int IntKind.i64 (3 : Int)))])], [((0 : Nat), Blk.cells [C.d (D.v (Value.string
 s0)), C.row ((1 : Nat)) ((1 : Nat)) ka, C.row ((2 : Nat)) ((5 : Nat)) kb, C.row ((3 : Nat)) ((6 : Nat)) kc, C.row ((4 : Nat)) ((12 : Nat)) kd, C.mp ((5 : Nat)), C.d (D.v (Value.bool
 nd))] ((87 : Nat))), ((1 : Nat), Blk.row ka ga ((1 : Nat)) ((9 : Nat))), ((2 : Nat), Blk.row kb gb ((5 : Nat)) ((58 : Nat))), ((3 : Nat), Blk.row kc gc ((6 : Nat)) ((61 : Nat))),
 ((4 : Nat), Blk.row kd gd ((12 : Nat)) ((54 : Nat))), ((5 : Nat), Blk.map ((0 : Nat)) mpa)])) else (bif KB.oy Z (((), (x7, x7_2, x7_3, x7_4, x7_5, x7_6, x7_7, x7_8, x7_9, x7_10,
 x7_11, x7_12, ()), ()), (s0, ka, kb, kc, kd, (), nd, ()), (ka, ga), (kb, gb), (kc, gc), (kd, gd), mpa, ()) then some (T.leaf (AV.tup [(false, [C.d (D.v (Value.int IntKind.i64
 (It.line x)))]), (false, [C.d (D.v (Value.int IntKind.i64 (0 : Int)))])], [((0 : Nat), Blk.cells [C.d (D.v (Value.string s0)), C.row ((1 : Nat)) ((1 : Nat)) ka, C.row ((2 : Nat))
 ((5 : Nat)) kb, C.row ((3 : Nat)) ((6 : Nat)) kc, C.row ((6 : Nat)) ((12 : Nat)) (kd + (1 : Nat)), C.mp ((5 : Nat)), C.d (D.v (Value.bool nd))] ((87 : Nat))), ((1 : Nat), Blk.row ka
 ga ((1 : Nat)) ((9 : Nat))), ((2 : Nat), Blk.row kb gb ((5 : Nat)) ((58 : Nat))), ((3 : Nat), Blk.row kc gc ((6 : Nat)) ((61 : Nat))), ((4 : Nat), Blk.dead), ((5 : Nat), Blk.map ((0
 : Nat)) (KB.my Z (((), (x7, x7_2, x7_3, x7_4, x7_5, x7_6, x7_7, x7_8, x7_9, x7_10, x7_11, x7_12, ()), ()), (s0, ka, kb, kc, kd, (), nd, ()), (ka, ga), (kb, gb), (kc, gc), (kd, gd),
 mpa, ()))), ((6 : Nat), Blk.row (kd + (1 : Nat)) (KB.gy Z (((), (x7, x7_2, x7_3, x7_4, x7_5, x7_6, x7_7, x7_8, x7_9, x7_10, x7_11, x7_12, ()), ()), (s0, ka, kb, kc, kd, (), nd, ()),
 (ka, ga), (kb, gb), (kc, gc), (kd, gd), mpa, ())) ((12 : Nat)) ((54 : Nat)))])) else none))) else (bif (↑kd : Int) == (16 : Int) then some (T.leaf (AV.tup [(false, [C.d (D.v
 (Value.int IntKind.i64 (It.line x)))]), (false, [C.d (D.v (Value.int IntKind.i64 (3 : Int)))])], [((0 : Nat), Blk.cells [C.d (D.v (Value.string s0)), C.row ((1 : Nat)) ((1 : Nat))
 ka, C.row ((2 : Nat)) ((5 : Nat)) kb, C.row ((3 : Nat)) ((6 : Nat)) kc, C.row ((4 : Nat)) ((12 : Nat)) kd, C.mp ((5 : Nat)), C.d (D.v (Value.bool nd))] ((87 : Nat))), ((1 : Nat),
 Blk.row ka ga ((1 : Nat)) ((9 : Nat))), ((2 : Nat), Blk.row kb gb ((5 : Nat)) ((58 : Nat))), ((3 : Nat), Blk.row kc gc ((6 : Nat)) ((61 : Nat))), ((4 : Nat), Blk.row kd gd ((12 :
 Nat)) ((54 : Nat))), ((5 : Nat), Blk.map ((0 : Nat)) mpa)])) else (bif KB.oy Z (((), (x7, x7_2, x7_3, x7_4, x7_5, x7_6, x7_7, x7_8, x7_9, x7_10, x7_11, x7_12, ()), ()), (s0, ka, kb,
 kc, kd, (), nd, ()), (ka, ga), (kb, gb), (kc, gc), (kd, gd), mpa, ()) then some (T.leaf (AV.tup [(false, [C.d (D.v (Value.int IntKind.i64 (It.line x)))]), (false, [C.d (D.v
 (Value.int IntKind.i64 (0 : Int)))])], [((0 : Nat), Blk.cells [C.d (D.v (Value.string s0)), C.row ((1 : Nat)) ((1 : Nat)) ka, C.row ((2 : Nat)) ((5 : Nat)) kb, C.row ((3 : Nat)) ((6
 : Nat)) kc, C.row ((6 : Nat)) ((12 : Nat)) (kd + (1 : Nat)), C.mp ((5 : Nat)), C.d (D.v (Value.bool nd))] ((87 : Nat))), ((1 : Nat), Blk.row ka ga ((1 : Nat)) ((9 : Nat))), ((2 :
 Nat), Blk.row kb gb ((5 : Nat)) ((58 : Nat))), ((3 : Nat), Blk.row kc gc ((6 : Nat)) ((61 : Nat))), ((4 : Nat), Blk.dead), ((5 : Nat), Blk.map ((0 : Nat)) (KB.my Z (((), (x7, x7_2,
 x7_3, x7_4, x7_5, x7_6, x7_7, x7_8, x7_9, x7_10, x7_11, x7_12, ()), ()), (s0, ka, kb, kc, kd, (), nd, ()), (ka, ga), (kb, gb), (kc, gc), (kd, gd), mpa, ()))), ((6 : Nat), Blk.row
 (kd + (1 : Nat)) (KB.gy Z (((), (x7, x7_2, x7_3, x7_4, x7_5, x7_6, x7_7, x7_8, x7_9, x7_10, x7_11, x7_12, ()), ()), (s0, ka, kb, kc, kd, (), nd, ()), (ka, ga), (kb, gb), (kc, gc),
 (kd, gd), mpa, ())) ((12 : Nat)) ((54 : Nat)))])) else none))))) := by kernel_rfl
end Go.Proofs.Ythmapnolgdpkbaa.de
namespace Go.Proofs.Ythmapnolgdpkbaa.de
open Go.RowKit Go.Eb Go.Proofs.Ythmapnolgdpkbaa.st
set_option maxRecDepth 100000

structure KS where
  okf : List AV → Bool
  fn : List AV → Nat
  fv : List AV → Nat → Int
  fo : List AV → Bool
  ob : (Nat × ByteArray × Unit) × (Nat × (Nat → List D)) × Unit → Bool
  ib : (Nat × ByteArray × Unit) × (Nat × (Nat → List D)) × Unit → Int
noncomputable def oLk (Z : KS) : Orc := Orc.cons 87 (ansD dIxb Z.ob (fun a => vI (Z.ib a)) fun a => (dIxb.enc a).2) Orc.nil
noncomputable def oSt (Z : KS) : Orc := oFm Z.okf Z.fn Z.fv Z.fo (Orc.cons 85 (inl Try.prog (oLk Z) na 1 Try.f85) Orc.nil)
noncomputable def annsct : Ann := annOf []
theorem bsct : Try.f75.body = some (bodyOf Try.f75) := by kernel_rfl
set_option maxRecDepth 100000 in
theorem evsct (Z : KS) (t : ByteArray) (s0 : ByteArray) (ka : Nat) (ga : Nat → List D) (kb : Nat) (gb : Nat → List D) (kc : Nat) (gc : Nat → List D) (kd : Nat) (gd : Nat → List D) (mpa : List (Value × Value)) (nd : Bool) (b : SBay) (kl : Nat) (gl : Nat → List D) (seen : List (Value × Value)) (g : Nat) : callC Try.prog (oSt Z) annsct g Try.f75 (bodyOf Try.f75) [.c (.ptr 0 0), aIt (say [tCt, t]), .c (.ptr 6 0), .c (.mp 8)] [(0, .cells [.d (dS s0), .row 1 1 ka, .row 2 5 kb, .row 3 6 kc, .row 4 12 kd, .mp 5, .d (dB nd)] 87), (1, .row ka ga 1 9), (2, .row kb gb 5 58), (3, .row kc gc 6 61), (4, .row kd gd 12 54), (5, .map 0 mpa), (6, .cells [.d (dS b.name), .d (dI b.kind), .d (dI b.off), .d (dI b.fin), .d (dI b.zr), .d (dI b.zx), .row 7 2 kl, .d (dB b.closed), .d (dI b.ct), .d (dI b.vt), .d (dI b.sat), .d (dI b.travel)] 54), (7, .row kl gl 2 108), (8, .map 0 seen)] =
 (bif KS.okf Z [AV.agg (List.map C.d (icells (say [tCt, t]))), AV.c (C.d (D.v (Value.string (ByteArray.mk #[(119 : UInt8), (110 : UInt8)])))), AV.c (C.d (D.v (Value.bool false)))]
 then (bif !KS.fo Z [AV.agg (List.map C.d (icells (say [tCt, t]))), AV.c (C.d (D.v (Value.string (ByteArray.mk #[(119 : UInt8), (110 : UInt8)])))), AV.c (C.d (D.v (Value.bool
 false)))] then some (T.leaf (AV.c (C.d (D.v (Value.int IntKind.i64 (6 : Int)))), [((0 : Nat), Blk.cells [C.d (D.v (Value.string s0)), C.row ((1 : Nat)) ((1 : Nat)) ka, C.row ((2 :
 Nat)) ((5 : Nat)) kb, C.row ((3 : Nat)) ((6 : Nat)) kc, C.row ((4 : Nat)) ((12 : Nat)) kd, C.mp ((5 : Nat)), C.d (D.v (Value.bool nd))] ((87 : Nat))), ((1 : Nat), Blk.row ka ga ((1
 : Nat)) ((9 : Nat))), ((2 : Nat), Blk.row kb gb ((5 : Nat)) ((58 : Nat))), ((3 : Nat), Blk.row kc gc ((6 : Nat)) ((61 : Nat))), ((4 : Nat), Blk.row kd gd ((12 : Nat)) ((54 : Nat))),
 ((5 : Nat), Blk.map ((0 : Nat)) mpa), ((6 : Nat), Blk.cells [C.d (D.v (Value.string (SBay.name b))), C.d (D.v (Value.int IntKind.i64 (SBay.kind b))), C.d (D.v (Value.int IntKind.i64
 (SBay.off b))), C.d (D.v (Value.int IntKind.i64 (SBay.fin b))), C.d (D.v (Value.int IntKind.i64 (SBay.zr b))), C.d (D.v (Value.int IntKind.i64 (SBay.zx b))), C.row ((7 : Nat)) ((2 :
 Nat)) kl, C.d (D.v (Value.bool (SBay.closed b))), C.d (D.v (Value.int IntKind.i64 (SBay.ct b))), C.d (D.v (Value.int IntKind.i64 (SBay.vt b))), C.d (D.v (Value.int IntKind.i64
 (SBay.sat b))), C.d (D.v (Value.int IntKind.i64 (SBay.travel b)))] ((54 : Nat))), ((7 : Nat), Blk.row kl gl ((2 : Nat)) ((108 : Nat))), ((8 : Nat), Blk.map ((0 : Nat)) seen)])) else
 (bif boolOf (assoc seen (Value.string (Wd.text (List.getD (It.words (say [tCt, t])) (Int.toNat (0 : Int)) w0)))) then some (T.leaf (AV.c (C.d (D.v (Value.int IntKind.i64 (8 :
 Int)))), [((0 : Nat), Blk.cells [C.d (D.v (Value.string s0)), C.row ((1 : Nat)) ((1 : Nat)) ka, C.row ((2 : Nat)) ((5 : Nat)) kb, C.row ((3 : Nat)) ((6 : Nat)) kc, C.row ((4 : Nat))
 ((12 : Nat)) kd, C.mp ((5 : Nat)), C.d (D.v (Value.bool nd))] ((87 : Nat))), ((1 : Nat), Blk.row ka ga ((1 : Nat)) ((9 : Nat))), ((2 : Nat), Blk.row kb gb ((5 : Nat)) ((58 : Nat))),
 ((3 : Nat), Blk.row kc gc ((6 : Nat)) ((61 : Nat))), ((4 : Nat), Blk.row kd gd ((12 : Nat)) ((54 : Nat))), ((5 : Nat), Blk.map ((0 : Nat)) mpa), ((6 : Nat), Blk.cells [C.d (D.v
 (Value.string (SBay.name b))), C.d (D.v (Value.int IntKind.i64 (SBay.kind b))), C.d (D.v (Value.int IntKind.i64 (SBay.off b))), C.d (D.v (Value.int IntKind.i64 (SBay.fin b))), C.d
 (D.v (Value.int IntKind.i64 (SBay.zr b))), C.d (D.v (Value.int IntKind.i64 (SBay.zx b))), C.row ((7 : Nat)) ((2 : Nat)) kl, C.d (D.v (Value.bool (SBay.closed b))), C.d (D.v
 (Value.int IntKind.i64 (SBay.ct b))), C.d (D.v (Value.int IntKind.i64 (SBay.vt b))), C.d (D.v (Value.int IntKind.i64 (SBay.sat b))), C.d (D.v (Value.int IntKind.i64 (SBay.travel
 b)))] ((54 : Nat))), ((7 : Nat), Blk.row kl gl ((2 : Nat)) ((108 : Nat))), ((8 : Nat), Blk.map ((0 : Nat)) seen)])) else (bif decide ((0 : Int) ≤ (0 : Int)) && decide ((0 : Int) <
 (↑(KS.fn Z [AV.agg (List.map C.d (icells (say [tCt, t]))), AV.c (C.d (D.v (Value.string (ByteArray.mk #[(119 : UInt8), (110 : UInt8)])))), AV.c (C.d (D.v (Value.bool false)))]) :
 Int)) then some (T.leaf (AV.c (C.d (D.v (Value.int IntKind.i64 (0 : Int)))), [((0 : Nat), Blk.cells [C.d (D.v (Value.string s0)), C.row ((1 : Nat)) ((1 : Nat)) ka, C.row ((2 : Nat))
 ((5 : Nat)) kb, C.row ((3 : Nat)) ((6 : Nat)) kc, C.row ((4 : Nat)) ((12 : Nat)) kd, C.mp ((5 : Nat)), C.d (D.v (Value.bool nd))] ((87 : Nat))), ((1 : Nat), Blk.row ka ga ((1 :
 Nat)) ((9 : Nat))), ((2 : Nat), Blk.row kb gb ((5 : Nat)) ((58 : Nat))), ((3 : Nat), Blk.row kc gc ((6 : Nat)) ((61 : Nat))), ((4 : Nat), Blk.row kd gd ((12 : Nat)) ((54 : Nat))),
 ((5 : Nat), Blk.map ((0 : Nat)) mpa), ((6 : Nat), Blk.cells [C.d (D.v (Value.string (SBay.name b))), C.d (D.v (Value.int IntKind.i64 (SBay.kind b))), C.d (D.v (Value.int IntKind.i64
 (SBay.off b))), C.d (D.v (Value.int IntKind.i64 (SBay.fin b))), C.d (D.v (Value.int IntKind.i64 (SBay.zr b))), C.d (D.v (Value.int IntKind.i64 (SBay.zx b))), C.row ((7 : Nat)) ((2 :
 Nat)) kl, C.d (D.v (Value.bool (SBay.closed b))), C.d (D.v (Value.int IntKind.i64 (KS.fv Z [AV.agg (List.map C.d (icells (say [tCt, t]))), AV.c (C.d (D.v (Value.string (ByteArray.mk
 #[(119 : UInt8), (110 : UInt8)])))), AV.c (C.d (D.v (Value.bool false)))] (Int.toNat (0 : Int))))), C.d (D.v (Value.int IntKind.i64 (SBay.vt b))), C.d (D.v (Value.int IntKind.i64
 (SBay.sat b))), C.d (D.v (Value.int IntKind.i64 (SBay.travel b)))] ((54 : Nat))), ((7 : Nat), Blk.row kl gl ((2 : Nat)) ((108 : Nat))), ((8 : Nat), Blk.map ((0 : Nat)) seen)])) else
 none))) else none) := by kernel_rfl
noncomputable def annsvt : Ann := annOf []
theorem bsvt : Try.f75.body = some (bodyOf Try.f75) := by kernel_rfl
set_option maxRecDepth 100000 in
theorem evsvt (Z : KS) (t : ByteArray) (s0 : ByteArray) (ka : Nat) (ga : Nat → List D) (kb : Nat) (gb : Nat → List D) (kc : Nat) (gc : Nat → List D) (kd : Nat) (gd : Nat → List D) (mpa : List (Value × Value)) (nd : Bool) (b : SBay) (kl : Nat) (gl : Nat → List D) (seen : List (Value × Value)) (g : Nat) : callC Try.prog (oSt Z) annsvt g Try.f75 (bodyOf Try.f75) [.c (.ptr 0 0), aIt (say [tVt, t]), .c (.ptr 6 0), .c (.mp 8)] [(0, .cells [.d (dS s0), .row 1 1 ka, .row 2 5 kb, .row 3 6 kc, .row 4 12 kd, .mp 5, .d (dB nd)] 87), (1, .row ka ga 1 9), (2, .row kb gb 5 58), (3, .row kc gc 6 61), (4, .row kd gd 12 54), (5, .map 0 mpa), (6, .cells [.d (dS b.name), .d (dI b.kind), .d (dI b.off), .d (dI b.fin), .d (dI b.zr), .d (dI b.zx), .row 7 2 kl, .d (dB b.closed), .d (dI b.ct), .d (dI b.vt), .d (dI b.sat), .d (dI b.travel)] 54), (7, .row kl gl 2 108), (8, .map 0 seen)] =
 (bif KS.okf Z [AV.agg (List.map C.d (icells (say [tVt, t]))), AV.c (C.d (D.v (Value.string (ByteArray.mk #[(119 : UInt8), (110 : UInt8)])))), AV.c (C.d (D.v (Value.bool false)))]
 then (bif !KS.fo Z [AV.agg (List.map C.d (icells (say [tVt, t]))), AV.c (C.d (D.v (Value.string (ByteArray.mk #[(119 : UInt8), (110 : UInt8)])))), AV.c (C.d (D.v (Value.bool
 false)))] then some (T.leaf (AV.c (C.d (D.v (Value.int IntKind.i64 (6 : Int)))), [((0 : Nat), Blk.cells [C.d (D.v (Value.string s0)), C.row ((1 : Nat)) ((1 : Nat)) ka, C.row ((2 :
 Nat)) ((5 : Nat)) kb, C.row ((3 : Nat)) ((6 : Nat)) kc, C.row ((4 : Nat)) ((12 : Nat)) kd, C.mp ((5 : Nat)), C.d (D.v (Value.bool nd))] ((87 : Nat))), ((1 : Nat), Blk.row ka ga ((1
 : Nat)) ((9 : Nat))), ((2 : Nat), Blk.row kb gb ((5 : Nat)) ((58 : Nat))), ((3 : Nat), Blk.row kc gc ((6 : Nat)) ((61 : Nat))), ((4 : Nat), Blk.row kd gd ((12 : Nat)) ((54 : Nat))),
 ((5 : Nat), Blk.map ((0 : Nat)) mpa), ((6 : Nat), Blk.cells [C.d (D.v (Value.string (SBay.name b))), C.d (D.v (Value.int IntKind.i64 (SBay.kind b))), C.d (D.v (Value.int IntKind.i64
 (SBay.off b))), C.d (D.v (Value.int IntKind.i64 (SBay.fin b))), C.d (D.v (Value.int IntKind.i64 (SBay.zr b))), C.d (D.v (Value.int IntKind.i64 (SBay.zx b))), C.row ((7 : Nat)) ((2 :
 Nat)) kl, C.d (D.v (Value.bool (SBay.closed b))), C.d (D.v (Value.int IntKind.i64 (SBay.ct b))), C.d (D.v (Value.int IntKind.i64 (SBay.vt b))), C.d (D.v (Value.int IntKind.i64
 (SBay.sat b))), C.d (D.v (Value.int IntKind.i64 (SBay.travel b)))] ((54 : Nat))), ((7 : Nat), Blk.row kl gl ((2 : Nat)) ((108 : Nat))), ((8 : Nat), Blk.map ((0 : Nat)) seen)])) else
 (bif boolOf (assoc seen (Value.string (Wd.text (List.getD (It.words (say [tVt, t])) (Int.toNat (0 : Int)) w0)))) then some (T.leaf (AV.c (C.d (D.v (Value.int IntKind.i64 (8 :
 Int)))), [((0 : Nat), Blk.cells [C.d (D.v (Value.string s0)), C.row ((1 : Nat)) ((1 : Nat)) ka, C.row ((2 : Nat)) ((5 : Nat)) kb, C.row ((3 : Nat)) ((6 : Nat)) kc, C.row ((4 : Nat))
 ((12 : Nat)) kd, C.mp ((5 : Nat)), C.d (D.v (Value.bool nd))] ((87 : Nat))), ((1 : Nat), Blk.row ka ga ((1 : Nat)) ((9 : Nat))), ((2 : Nat), Blk.row kb gb ((5 : Nat)) ((58 : Nat))),
 ((3 : Nat), Blk.row kc gc ((6 : Nat)) ((61 : Nat))), ((4 : Nat), Blk.row kd gd ((12 : Nat)) ((54 : Nat))), ((5 : Nat), Blk.map ((0 : Nat)) mpa), ((6 : Nat), Blk.cells [C.d (D.v
 (Value.string (SBay.name b))), C.d (D.v (Value.int IntKind.i64 (SBay.kind b))), C.d (D.v (Value.int IntKind.i64 (SBay.off b))), C.d (D.v (Value.int IntKind.i64 (SBay.fin b))), C.d
 (D.v (Value.int IntKind.i64 (SBay.zr b))), C.d (D.v (Value.int IntKind.i64 (SBay.zx b))), C.row ((7 : Nat)) ((2 : Nat)) kl, C.d (D.v (Value.bool (SBay.closed b))), C.d (D.v
 (Value.int IntKind.i64 (SBay.ct b))), C.d (D.v (Value.int IntKind.i64 (SBay.vt b))), C.d (D.v (Value.int IntKind.i64 (SBay.sat b))), C.d (D.v (Value.int IntKind.i64 (SBay.travel
 b)))] ((54 : Nat))), ((7 : Nat), Blk.row kl gl ((2 : Nat)) ((108 : Nat))), ((8 : Nat), Blk.map ((0 : Nat)) seen)])) else (bif decide ((0 : Int) ≤ (0 : Int)) && decide ((0 : Int) <
 (↑(KS.fn Z [AV.agg (List.map C.d (icells (say [tVt, t]))), AV.c (C.d (D.v (Value.string (ByteArray.mk #[(119 : UInt8), (110 : UInt8)])))), AV.c (C.d (D.v (Value.bool false)))]) :
 Int)) then some (T.leaf (AV.c (C.d (D.v (Value.int IntKind.i64 (0 : Int)))), [((0 : Nat), Blk.cells [C.d (D.v (Value.string s0)), C.row ((1 : Nat)) ((1 : Nat)) ka, C.row ((2 : Nat))
 ((5 : Nat)) kb, C.row ((3 : Nat)) ((6 : Nat)) kc, C.row ((4 : Nat)) ((12 : Nat)) kd, C.mp ((5 : Nat)), C.d (D.v (Value.bool nd))] ((87 : Nat))), ((1 : Nat), Blk.row ka ga ((1 :
 Nat)) ((9 : Nat))), ((2 : Nat), Blk.row kb gb ((5 : Nat)) ((58 : Nat))), ((3 : Nat), Blk.row kc gc ((6 : Nat)) ((61 : Nat))), ((4 : Nat), Blk.row kd gd ((12 : Nat)) ((54 : Nat))),
 ((5 : Nat), Blk.map ((0 : Nat)) mpa), ((6 : Nat), Blk.cells [C.d (D.v (Value.string (SBay.name b))), C.d (D.v (Value.int IntKind.i64 (SBay.kind b))), C.d (D.v (Value.int IntKind.i64
 (SBay.off b))), C.d (D.v (Value.int IntKind.i64 (SBay.fin b))), C.d (D.v (Value.int IntKind.i64 (SBay.zr b))), C.d (D.v (Value.int IntKind.i64 (SBay.zx b))), C.row ((7 : Nat)) ((2 :
 Nat)) kl, C.d (D.v (Value.bool (SBay.closed b))), C.d (D.v (Value.int IntKind.i64 (SBay.ct b))), C.d (D.v (Value.int IntKind.i64 (KS.fv Z [AV.agg (List.map C.d (icells (say [tVt,
 t]))), AV.c (C.d (D.v (Value.string (ByteArray.mk #[(119 : UInt8), (110 : UInt8)])))), AV.c (C.d (D.v (Value.bool false)))] (Int.toNat (0 : Int))))), C.d (D.v (Value.int IntKind.i64
 (SBay.sat b))), C.d (D.v (Value.int IntKind.i64 (SBay.travel b)))] ((54 : Nat))), ((7 : Nat), Blk.row kl gl ((2 : Nat)) ((108 : Nat))), ((8 : Nat), Blk.map ((0 : Nat)) seen)])) else
 none))) else none) := by kernel_rfl
noncomputable def annssa : Ann := annOf []
theorem bssa : Try.f75.body = some (bodyOf Try.f75) := by kernel_rfl
set_option maxRecDepth 100000 in
theorem evssa (Z : KS) (t : ByteArray) (s0 : ByteArray) (ka : Nat) (ga : Nat → List D) (kb : Nat) (gb : Nat → List D) (kc : Nat) (gc : Nat → List D) (kd : Nat) (gd : Nat → List D) (mpa : List (Value × Value)) (nd : Bool) (b : SBay) (kl : Nat) (gl : Nat → List D) (seen : List (Value × Value)) (g : Nat) : callC Try.prog (oSt Z) annssa g Try.f75 (bodyOf Try.f75) [.c (.ptr 0 0), aIt (say [tSat, t]), .c (.ptr 6 0), .c (.mp 8)] [(0, .cells [.d (dS s0), .row 1 1 ka, .row 2 5 kb, .row 3 6 kc, .row 4 12 kd, .mp 5, .d (dB nd)] 87), (1, .row ka ga 1 9), (2, .row kb gb 5 58), (3, .row kc gc 6 61), (4, .row kd gd 12 54), (5, .map 0 mpa), (6, .cells [.d (dS b.name), .d (dI b.kind), .d (dI b.off), .d (dI b.fin), .d (dI b.zr), .d (dI b.zx), .row 7 2 kl, .d (dB b.closed), .d (dI b.ct), .d (dI b.vt), .d (dI b.sat), .d (dI b.travel)] 54), (7, .row kl gl 2 108), (8, .map 0 seen)] =
 (bif KS.okf Z [AV.agg (List.map C.d (icells (say [tSat, t]))), AV.c (C.d (D.v (Value.string (ByteArray.mk #[(119 : UInt8), (110 : UInt8)])))), AV.c (C.d (D.v (Value.bool false)))]
 then (bif !KS.fo Z [AV.agg (List.map C.d (icells (say [tSat, t]))), AV.c (C.d (D.v (Value.string (ByteArray.mk #[(119 : UInt8), (110 : UInt8)])))), AV.c (C.d (D.v (Value.bool
 false)))] then some (T.leaf (AV.c (C.d (D.v (Value.int IntKind.i64 (6 : Int)))), [((0 : Nat), Blk.cells [C.d (D.v (Value.string s0)), C.row ((1 : Nat)) ((1 : Nat)) ka, C.row ((2 :
 Nat)) ((5 : Nat)) kb, C.row ((3 : Nat)) ((6 : Nat)) kc, C.row ((4 : Nat)) ((12 : Nat)) kd, C.mp ((5 : Nat)), C.d (D.v (Value.bool nd))] ((87 : Nat))), ((1 : Nat), Blk.row ka ga ((1
 : Nat)) ((9 : Nat))), ((2 : Nat), Blk.row kb gb ((5 : Nat)) ((58 : Nat))), ((3 : Nat), Blk.row kc gc ((6 : Nat)) ((61 : Nat))), ((4 : Nat), Blk.row kd gd ((12 : Nat)) ((54 : Nat))),
 ((5 : Nat), Blk.map ((0 : Nat)) mpa), ((6 : Nat), Blk.cells [C.d (D.v (Value.string (SBay.name b))), C.d (D.v (Value.int IntKind.i64 (SBay.kind b))), C.d (D.v (Value.int IntKind.i64
 (SBay.off b))), C.d (D.v (Value.int IntKind.i64 (SBay.fin b))), C.d (D.v (Value.int IntKind.i64 (SBay.zr b))), C.d (D.v (Value.int IntKind.i64 (SBay.zx b))), C.row ((7 : Nat)) ((2 :
 Nat)) kl, C.d (D.v (Value.bool (SBay.closed b))), C.d (D.v (Value.int IntKind.i64 (SBay.ct b))), C.d (D.v (Value.int IntKind.i64 (SBay.vt b))), C.d (D.v (Value.int IntKind.i64
 (SBay.sat b))), C.d (D.v (Value.int IntKind.i64 (SBay.travel b)))] ((54 : Nat))), ((7 : Nat), Blk.row kl gl ((2 : Nat)) ((108 : Nat))), ((8 : Nat), Blk.map ((0 : Nat)) seen)])) else
 (bif boolOf (assoc seen (Value.string (Wd.text (List.getD (It.words (say [tSat, t])) (Int.toNat (0 : Int)) w0)))) then some (T.leaf (AV.c (C.d (D.v (Value.int IntKind.i64 (8 :
 Int)))), [((0 : Nat), Blk.cells [C.d (D.v (Value.string s0)), C.row ((1 : Nat)) ((1 : Nat)) ka, C.row ((2 : Nat)) ((5 : Nat)) kb, C.row ((3 : Nat)) ((6 : Nat)) kc, C.row ((4 : Nat))
 ((12 : Nat)) kd, C.mp ((5 : Nat)), C.d (D.v (Value.bool nd))] ((87 : Nat))), ((1 : Nat), Blk.row ka ga ((1 : Nat)) ((9 : Nat))), ((2 : Nat), Blk.row kb gb ((5 : Nat)) ((58 : Nat))),
 ((3 : Nat), Blk.row kc gc ((6 : Nat)) ((61 : Nat))), ((4 : Nat), Blk.row kd gd ((12 : Nat)) ((54 : Nat))), ((5 : Nat), Blk.map ((0 : Nat)) mpa), ((6 : Nat), Blk.cells [C.d (D.v
 (Value.string (SBay.name b))), C.d (D.v (Value.int IntKind.i64 (SBay.kind b))), C.d (D.v (Value.int IntKind.i64 (SBay.off b))), C.d (D.v (Value.int IntKind.i64 (SBay.fin b))), C.d
 (D.v (Value.int IntKind.i64 (SBay.zr b))), C.d (D.v (Value.int IntKind.i64 (SBay.zx b))), C.row ((7 : Nat)) ((2 : Nat)) kl, C.d (D.v (Value.bool (SBay.closed b))), C.d (D.v
 (Value.int IntKind.i64 (SBay.ct b))), C.d (D.v (Value.int IntKind.i64 (SBay.vt b))), C.d (D.v (Value.int IntKind.i64 (SBay.sat b))), C.d (D.v (Value.int IntKind.i64 (SBay.travel
 b)))] ((54 : Nat))), ((7 : Nat), Blk.row kl gl ((2 : Nat)) ((108 : Nat))), ((8 : Nat), Blk.map ((0 : Nat)) seen)])) else (bif decide ((0 : Int) ≤ (0 : Int)) && decide ((0 : Int) <
 (↑(KS.fn Z [AV.agg (List.map C.d (icells (say [tSat, t]))), AV.c (C.d (D.v (Value.string (ByteArray.mk #[(119 : UInt8), (110 : UInt8)])))), AV.c (C.d (D.v (Value.bool false)))]) :
 Int)) then some (T.leaf (AV.c (C.d (D.v (Value.int IntKind.i64 (0 : Int)))), [((0 : Nat), Blk.cells [C.d (D.v (Value.string s0)), C.row ((1 : Nat)) ((1 : Nat)) ka, C.row ((2 : Nat))
 ((5 : Nat)) kb, C.row ((3 : Nat)) ((6 : Nat)) kc, C.row ((4 : Nat)) ((12 : Nat)) kd, C.mp ((5 : Nat)), C.d (D.v (Value.bool nd))] ((87 : Nat))), ((1 : Nat), Blk.row ka ga ((1 :
 Nat)) ((9 : Nat))), ((2 : Nat), Blk.row kb gb ((5 : Nat)) ((58 : Nat))), ((3 : Nat), Blk.row kc gc ((6 : Nat)) ((61 : Nat))), ((4 : Nat), Blk.row kd gd ((12 : Nat)) ((54 : Nat))),
 ((5 : Nat), Blk.map ((0 : Nat)) mpa), ((6 : Nat), Blk.cells [C.d (D.v (Value.string (SBay.name b))), C.d (D.v (Value.int IntKind.i64 (SBay.kind b))), C.d (D.v (Value.int IntKind.i64
 (SBay.off b))), C.d (D.v (Value.int IntKind.i64 (SBay.fin b))), C.d (D.v (Value.int IntKind.i64 (SBay.zr b))), C.d (D.v (Value.int IntKind.i64 (SBay.zx b))), C.row ((7 : Nat)) ((2 :
 Nat)) kl, C.d (D.v (Value.bool (SBay.closed b))), C.d (D.v (Value.int IntKind.i64 (SBay.ct b))), C.d (D.v (Value.int IntKind.i64 (SBay.vt b))), C.d (D.v (Value.int IntKind.i64
 (KS.fv Z [AV.agg (List.map C.d (icells (say [tSat, t]))), AV.c (C.d (D.v (Value.string (ByteArray.mk #[(119 : UInt8), (110 : UInt8)])))), AV.c (C.d (D.v (Value.bool false)))]
 (Int.toNat (0 : Int))))), C.d (D.v (Value.int IntKind.i64 (SBay.travel b)))] ((54 : Nat))), ((7 : Nat), Blk.row kl gl ((2 : Nat)) ((108 : Nat))), ((8 : Nat), Blk.map ((0 : Nat))
 seen)])) else none))) else none) := by kernel_rfl
noncomputable def annstr : Ann := annOf []
theorem bstr : Try.f75.body = some (bodyOf Try.f75) := by kernel_rfl
set_option maxRecDepth 100000 in
theorem evstr (Z : KS) (t : ByteArray) (s0 : ByteArray) (ka : Nat) (ga : Nat → List D) (kb : Nat) (gb : Nat → List D) (kc : Nat) (gc : Nat → List D) (kd : Nat) (gd : Nat → List D) (mpa : List (Value × Value)) (nd : Bool) (b : SBay) (kl : Nat) (gl : Nat → List D) (seen : List (Value × Value)) (g : Nat) : callC Try.prog (oSt Z) annstr g Try.f75 (bodyOf Try.f75) [.c (.ptr 0 0), aIt (say [tTravel, t]), .c (.ptr 6 0), .c (.mp 8)] [(0, .cells [.d (dS s0), .row 1 1 ka, .row 2 5 kb, .row 3 6 kc, .row 4 12 kd, .mp 5, .d (dB nd)] 87), (1, .row ka ga 1 9), (2, .row kb gb 5 58), (3, .row kc gc 6 61), (4, .row kd gd 12 54), (5, .map 0 mpa), (6, .cells [.d (dS b.name), .d (dI b.kind), .d (dI b.off), .d (dI b.fin), .d (dI b.zr), .d (dI b.zx), .row 7 2 kl, .d (dB b.closed), .d (dI b.ct), .d (dI b.vt), .d (dI b.sat), .d (dI b.travel)] 54), (7, .row kl gl 2 108), (8, .map 0 seen)] =
 (bif KS.okf Z [AV.agg (List.map C.d (icells (say [tTravel, t]))), AV.c (C.d (D.v (Value.string (ByteArray.mk #[(119 : UInt8), (110 : UInt8)])))), AV.c (C.d (D.v (Value.bool
 false)))] then (bif !KS.fo Z [AV.agg (List.map C.d (icells (say [tTravel, t]))), AV.c (C.d (D.v (Value.string (ByteArray.mk #[(119 : UInt8), (110 : UInt8)])))), AV.c (C.d (D.v
 (Value.bool false)))] then some (T.leaf (AV.c (C.d (D.v (Value.int IntKind.i64 (6 : Int)))), [((0 : Nat), Blk.cells [C.d (D.v (Value.string s0)), C.row ((1 : Nat)) ((1 : Nat)) ka,
 C.row ((2 : Nat)) ((5 : Nat)) kb, C.row ((3 : Nat)) ((6 : Nat)) kc, C.row ((4 : Nat)) ((12 : Nat)) kd, C.mp ((5 : Nat)), C.d (D.v (Value.bool nd))] ((87 : Nat))), ((1 : Nat),
 Blk.row ka ga ((1 : Nat)) ((9 : Nat))), ((2 : Nat), Blk.row kb gb ((5 : Nat)) ((58 : Nat))), ((3 : Nat), Blk.row kc gc ((6 : Nat)) ((61 : Nat))), ((4 : Nat), Blk.row kd gd ((12 :
 Nat)) ((54 : Nat))), ((5 : Nat), Blk.map ((0 : Nat)) mpa), ((6 : Nat), Blk.cells [C.d (D.v (Value.string (SBay.name b))), C.d (D.v (Value.int IntKind.i64 (SBay.kind b))), C.d (D.v
 (Value.int IntKind.i64 (SBay.off b))), C.d (D.v (Value.int IntKind.i64 (SBay.fin b))), C.d (D.v (Value.int IntKind.i64 (SBay.zr b))), C.d (D.v (Value.int IntKind.i64 (SBay.zx b))),
 C.row ((7 : Nat)) ((2 : Nat)) kl, C.d (D.v (Value.bool (SBay.closed b))), C.d (D.v (Value.int IntKind.i64 (SBay.ct b))), C.d (D.v (Value.int IntKind.i64 (SBay.vt b))), C.d (D.v
 (Value.int IntKind.i64 (SBay.sat b))), C.d (D.v (Value.int IntKind.i64 (SBay.travel b)))] ((54 : Nat))), ((7 : Nat), Blk.row kl gl ((2 : Nat)) ((108 : Nat))), ((8 : Nat), Blk.map
 ((0 : Nat)) seen)])) else (bif boolOf (assoc seen (Value.string (Wd.text (List.getD (It.words (say [tTravel, t])) (Int.toNat (0 : Int)) w0)))) then some (T.leaf (AV.c (C.d (D.v
 (Value.int IntKind.i64 (8 : Int)))), [((0 : Nat), Blk.cells [C.d (D.v (Value.string s0)), C.row ((1 : Nat)) ((1 : Nat)) ka, C.row ((2 : Nat)) ((5 : Nat)) kb, C.row ((3 : Nat)) ((6 :
 Nat)) kc, C.row ((4 : Nat)) ((12 : Nat)) kd, C.mp ((5 : Nat)), C.d (D.v (Value.bool nd))] ((87 : Nat))), ((1 : Nat), Blk.row ka ga ((1 : Nat)) ((9 : Nat))), ((2 : Nat), Blk.row kb
 gb ((5 : Nat)) ((58 : Nat))), ((3 : Nat), Blk.row kc gc ((6 : Nat)) ((61 : Nat))), ((4 : Nat), Blk.row kd gd ((12 : Nat)) ((54 : Nat))), ((5 : Nat), Blk.map ((0 : Nat)) mpa), ((6 :
 Nat), Blk.cells [C.d (D.v (Value.string (SBay.name b))), C.d (D.v (Value.int IntKind.i64 (SBay.kind b))), C.d (D.v (Value.int IntKind.i64 (SBay.off b))), C.d (D.v (Value.int
 IntKind.i64 (SBay.fin b))), C.d (D.v (Value.int IntKind.i64 (SBay.zr b))), C.d (D.v (Value.int IntKind.i64 (SBay.zx b))), C.row ((7 : Nat)) ((2 : Nat)) kl, C.d (D.v (Value.bool
 (SBay.closed b))), C.d (D.v (Value.int IntKind.i64 (SBay.ct b))), C.d (D.v (Value.int IntKind.i64 (SBay.vt b))), C.d (D.v (Value.int IntKind.i64 (SBay.sat b))), C.d (D.v (Value.int
 IntKind.i64 (SBay.travel b)))] ((54 : Nat))), ((7 : Nat), Blk.row kl gl ((2 : Nat)) ((108 : Nat))), ((8 : Nat), Blk.map ((0 : Nat)) seen)])) else (bif decide ((0 : Int) ≤ (0 : Int))
 && decide ((0 : Int) < (↑(KS.fn Z [AV.agg (List.map C.d (icells (say [tTravel, t]))), AV.c (C.d (D.v (Value.string (ByteArray.mk #[(119 : UInt8), (110 : UInt8)])))), AV.c (C.d (D.v
 (Value.bool false)))]) : Int)) then some (T.leaf (AV.c (C.d (D.v (Value.int IntKind.i64 (0 : Int)))), [((0 : Nat), Blk.cells [C.d (D.v (Value.string s0)), C.row ((1 : Nat)) ((1 :
 Nat)) ka, C.row ((2 : Nat)) ((5 : Nat)) kb, C.row ((3 : Nat)) ((6 : Nat)) kc, C.row ((4 : Nat)) ((12 : Nat)) kd, C.mp ((5 : Nat)), C.d (D.v (Value.bool nd))] ((87 : Nat))), ((1 :
 Nat), Blk.row ka ga ((1 : Nat)) ((9 : Nat))), ((2 : Nat), Blk.row kb gb ((5 : Nat)) ((58 : Nat))), ((3 : Nat), Blk.row kc gc ((6 : Nat)) ((61 : Nat))), ((4 : Nat), Blk.row kd gd
 ((12 : Nat)) ((54 : Nat))), ((5 : Nat), Blk.map ((0 : Nat)) mpa), ((6 : Nat), Blk.cells [C.d (D.v (Value.string (SBay.name b))), C.d (D.v (Value.int IntKind.i64 (SBay.kind b))), C.d
 (D.v (Value.int IntKind.i64 (SBay.off b))), C.d (D.v (Value.int IntKind.i64 (SBay.fin b))), C.d (D.v (Value.int IntKind.i64 (SBay.zr b))), C.d (D.v (Value.int IntKind.i64 (SBay.zx
 b))), C.row ((7 : Nat)) ((2 : Nat)) kl, C.d (D.v (Value.bool (SBay.closed b))), C.d (D.v (Value.int IntKind.i64 (SBay.ct b))), C.d (D.v (Value.int IntKind.i64 (SBay.vt b))), C.d
 (D.v (Value.int IntKind.i64 (SBay.sat b))), C.d (D.v (Value.int IntKind.i64 (KS.fv Z [AV.agg (List.map C.d (icells (say [tTravel, t]))), AV.c (C.d (D.v (Value.string (ByteArray.mk
 #[(119 : UInt8), (110 : UInt8)])))), AV.c (C.d (D.v (Value.bool false)))] (Int.toNat (0 : Int)))))] ((54 : Nat))), ((7 : Nat), Blk.row kl gl ((2 : Nat)) ((108 : Nat))), ((8 : Nat),
 Blk.map ((0 : Nat)) seen)])) else none))) else none) := by kernel_rfl
noncomputable def annsel1 : Ann := annOf []
theorem bsel1 : Try.f75.body = some (bodyOf Try.f75) := by kernel_rfl
set_option maxRecDepth 100000 in
theorem evsel1 (Z : KS) (t : ByteArray) (s0 : ByteArray) (ka : Nat) (ga : Nat → List D) (kb : Nat) (gb : Nat → List D) (kc : Nat) (gc : Nat → List D) (kd : Nat) (gd : Nat → List D) (mpa : List (Value × Value)) (nd : Bool) (b : SBay) (kl : Nat) (gl : Nat → List D) (seen : List (Value × Value)) (g : Nat) : callC Try.prog (oSt Z) annsel1 g Try.f75 (bodyOf Try.f75) [.c (.ptr 0 0), aIt (say [tSelect, t, tClosed]), .c (.ptr 6 0), .c (.mp 8)] [(0, .cells [.d (dS s0), .row 1 1 ka, .row 2 5 kb, .row 3 6 kc, .row 4 12 kd, .mp 5, .d (dB nd)] 87), (1, .row ka ga 1 9), (2, .row kb gb 5 58), (3, .row kc gc 6 61), (4, .row kd gd 12 54), (5, .map 0 mpa), (6, .cells [.d (dS b.name), .d (dI b.kind), .d (dI b.off), .d (dI b.fin), .d (dI b.zr), .d (dI b.zx), .row 7 2 kl, .d (dB b.closed), .d (dI b.ct), .d (dI b.vt), .d (dI b.sat), .d (dI b.travel)] 54), (7, .row kl gl 2 108), (8, .map 0 seen)] =
 (bif KS.okf Z [AV.agg (List.map C.d (icells (say [tSelect, t, tClosed]))), AV.c (C.d (D.v (Value.string (ByteArray.mk #[(119 : UInt8), (119 : UInt8), (119 : UInt8)])))), AV.c (C.d
 (D.v (Value.bool false)))] then (bif !KS.fo Z [AV.agg (List.map C.d (icells (say [tSelect, t, tClosed]))), AV.c (C.d (D.v (Value.string (ByteArray.mk #[(119 : UInt8), (119 : UInt8),
 (119 : UInt8)])))), AV.c (C.d (D.v (Value.bool false)))] then some (T.leaf (AV.c (C.d (D.v (Value.int IntKind.i64 (6 : Int)))), [((0 : Nat), Blk.cells [C.d (D.v (Value.string s0)),
 C.row ((1 : Nat)) ((1 : Nat)) ka, C.row ((2 : Nat)) ((5 : Nat)) kb, C.row ((3 : Nat)) ((6 : Nat)) kc, C.row ((4 : Nat)) ((12 : Nat)) kd, C.mp ((5 : Nat)), C.d (D.v (Value.bool nd))]
 ((87 : Nat))), ((1 : Nat), Blk.row ka ga ((1 : Nat)) ((9 : Nat))), ((2 : Nat), Blk.row kb gb ((5 : Nat)) ((58 : Nat))), ((3 : Nat), Blk.row kc gc ((6 : Nat)) ((61 : Nat))), ((4 :
 Nat), Blk.row kd gd ((12 : Nat)) ((54 : Nat))), ((5 : Nat), Blk.map ((0 : Nat)) mpa), ((6 : Nat), Blk.cells [C.d (D.v (Value.string (SBay.name b))), C.d (D.v (Value.int IntKind.i64
 (SBay.kind b))), C.d (D.v (Value.int IntKind.i64 (SBay.off b))), C.d (D.v (Value.int IntKind.i64 (SBay.fin b))), C.d (D.v (Value.int IntKind.i64 (SBay.zr b))), C.d (D.v (Value.int
 IntKind.i64 (SBay.zx b))), C.row ((7 : Nat)) ((2 : Nat)) kl, C.d (D.v (Value.bool (SBay.closed b))), C.d (D.v (Value.int IntKind.i64 (SBay.ct b))), C.d (D.v (Value.int IntKind.i64
 (SBay.vt b))), C.d (D.v (Value.int IntKind.i64 (SBay.sat b))), C.d (D.v (Value.int IntKind.i64 (SBay.travel b)))] ((54 : Nat))), ((7 : Nat), Blk.row kl gl ((2 : Nat)) ((108 :
 Nat))), ((8 : Nat), Blk.map ((0 : Nat)) seen)])) else (bif KS.ob Z ((ka, Wd.text (List.getD (It.words (say [tSelect, t, tClosed])) (Int.toNat (1 : Int)) w0), ()), (ka, ga), ()) then
 (bif decide (KS.ib Z ((ka, Wd.text (List.getD (It.words (say [tSelect, t, tClosed])) (Int.toNat (1 : Int)) w0), ()), (ka, ga), ()) < (0 : Int)) then some (T.leaf (AV.c (C.d (D.v
 (Value.int IntKind.i64 (9 : Int)))), [((0 : Nat), Blk.cells [C.d (D.v (Value.string s0)), C.row ((1 : Nat)) ((1 : Nat)) ka, C.row ((2 : Nat)) ((5 : Nat)) kb, C.row ((3 : Nat)) ((6 :
 Nat)) kc, C.row ((4 : Nat)) ((12 : Nat)) kd, C.mp ((5 : Nat)), C.d (D.v (Value.bool nd))] ((87 : Nat))), ((1 : Nat), Blk.row ka ga ((1 : Nat)) ((9 : Nat))), ((2 : Nat), Blk.row kb
 gb ((5 : Nat)) ((58 : Nat))), ((3 : Nat), Blk.row kc gc ((6 : Nat)) ((61 : Nat))), ((4 : Nat), Blk.row kd gd ((12 : Nat)) ((54 : Nat))), ((5 : Nat), Blk.map ((0 : Nat)) mpa), ((6 :
 Nat), Blk.cells [C.d (D.v (Value.string (SBay.name b))), C.d (D.v (Value.int IntKind.i64 (SBay.kind b))), C.d (D.v (Value.int IntKind.i64 (SBay.off b))), C.d (D.v (Value.int
 IntKind.i64 (SBay.fin b))), C.d (D.v (Value.int IntKind.i64 (SBay.zr b))), C.d (D.v (Value.int IntKind.i64 (SBay.zx b))), C.row ((7 : Nat)) ((2 : Nat)) kl, C.d (D.v (Value.bool
 (SBay.closed b))), C.d (D.v (Value.int IntKind.i64 (SBay.ct b))), C.d (D.v (Value.int IntKind.i64 (SBay.vt b))), C.d (D.v (Value.int IntKind.i64 (SBay.sat b))), C.d (D.v (Value.int
 IntKind.i64 (SBay.travel b)))] ((54 : Nat))), ((7 : Nat), Blk.row kl gl ((2 : Nat)) ((108 : Nat))), ((8 : Nat), Blk.map ((0 : Nat)) seen)])) else (bif decide ((kl + (1 : Nat)) * (16
 : Nat) ≤ (140737488355328 : Nat)) && decide (kl + (1 : Nat) ≤ (9223372036854775807 : Nat)) then some (T.leaf (AV.c (C.d (D.v (Value.int IntKind.i64 (0 : Int)))), [((0 : Nat),
 Blk.cells [C.d (D.v (Value.string s0)), C.row ((1 : Nat)) ((1 : Nat)) ka, C.row ((2 : Nat)) ((5 : Nat)) kb, C.row ((3 : Nat)) ((6 : Nat)) kc, C.row ((4 : Nat)) ((12 : Nat)) kd, C.mp
 ((5 : Nat)), C.d (D.v (Value.bool nd))] ((87 : Nat))), ((1 : Nat), Blk.row ka ga ((1 : Nat)) ((9 : Nat))), ((2 : Nat), Blk.row kb gb ((5 : Nat)) ((58 : Nat))), ((3 : Nat), Blk.row
 kc gc ((6 : Nat)) ((61 : Nat))), ((4 : Nat), Blk.row kd gd ((12 : Nat)) ((54 : Nat))), ((5 : Nat), Blk.map ((0 : Nat)) mpa), ((6 : Nat), Blk.cells [C.d (D.v (Value.string (SBay.name
 b))), C.d (D.v (Value.int IntKind.i64 (SBay.kind b))), C.d (D.v (Value.int IntKind.i64 (SBay.off b))), C.d (D.v (Value.int IntKind.i64 (SBay.fin b))), C.d (D.v (Value.int
 IntKind.i64 (SBay.zr b))), C.d (D.v (Value.int IntKind.i64 (SBay.zx b))), C.row ((9 : Nat)) ((2 : Nat)) (kl + (1 : Nat)), C.d (D.v (Value.bool (SBay.closed b))), C.d (D.v (Value.int
 IntKind.i64 (SBay.ct b))), C.d (D.v (Value.int IntKind.i64 (SBay.vt b))), C.d (D.v (Value.int IntKind.i64 (SBay.sat b))), C.d (D.v (Value.int IntKind.i64 (SBay.travel b)))] ((54 :
 Nat))), ((7 : Nat), Blk.dead), ((8 : Nat), Blk.map ((0 : Nat)) seen), ((9 : Nat), Blk.row (kl + (1 : Nat)) (appF kl gl (chunk [D.v (Value.int IntKind.i64 (KS.ib Z ((ka, Wd.text
 (List.getD (It.words (say [tSelect, t, tClosed])) (Int.toNat (1 : Int)) w0), ()), (ka, ga), ()))), D.v (Value.int IntKind.i64 (1 : Int))] ((1 : Nat) + (1 : Nat)))) ((2 : Nat)) ((108
 : Nat)))])) else none)) else none)) else none) := by kernel_rfl
noncomputable def annsel0 : Ann := annOf []
theorem bsel0 : Try.f75.body = some (bodyOf Try.f75) := by kernel_rfl
set_option maxRecDepth 100000 in
theorem evsel0 (Z : KS) (t : ByteArray) (s0 : ByteArray) (ka : Nat) (ga : Nat → List D) (kb : Nat) (gb : Nat → List D) (kc : Nat) (gc : Nat → List D) (kd : Nat) (gd : Nat → List D) (mpa : List (Value × Value)) (nd : Bool) (b : SBay) (kl : Nat) (gl : Nat → List D) (seen : List (Value × Value)) (g : Nat) : callC Try.prog (oSt Z) annsel0 g Try.f75 (bodyOf Try.f75) [.c (.ptr 0 0), aIt (say [tSelect, t, tOpen]), .c (.ptr 6 0), .c (.mp 8)] [(0, .cells [.d (dS s0), .row 1 1 ka, .row 2 5 kb, .row 3 6 kc, .row 4 12 kd, .mp 5, .d (dB nd)] 87), (1, .row ka ga 1 9), (2, .row kb gb 5 58), (3, .row kc gc 6 61), (4, .row kd gd 12 54), (5, .map 0 mpa), (6, .cells [.d (dS b.name), .d (dI b.kind), .d (dI b.off), .d (dI b.fin), .d (dI b.zr), .d (dI b.zx), .row 7 2 kl, .d (dB b.closed), .d (dI b.ct), .d (dI b.vt), .d (dI b.sat), .d (dI b.travel)] 54), (7, .row kl gl 2 108), (8, .map 0 seen)] =
 (bif KS.okf Z [AV.agg (List.map C.d (icells (say [tSelect, t, tOpen]))), AV.c (C.d (D.v (Value.string (ByteArray.mk #[(119 : UInt8), (119 : UInt8), (119 : UInt8)])))), AV.c (C.d
 (D.v (Value.bool false)))] then (bif !KS.fo Z [AV.agg (List.map C.d (icells (say [tSelect, t, tOpen]))), AV.c (C.d (D.v (Value.string (ByteArray.mk #[(119 : UInt8), (119 : UInt8),
 (119 : UInt8)])))), AV.c (C.d (D.v (Value.bool false)))] then some (T.leaf (AV.c (C.d (D.v (Value.int IntKind.i64 (6 : Int)))), [((0 : Nat), Blk.cells [C.d (D.v (Value.string s0)),
 C.row ((1 : Nat)) ((1 : Nat)) ka, C.row ((2 : Nat)) ((5 : Nat)) kb, C.row ((3 : Nat)) ((6 : Nat)) kc, C.row ((4 : Nat)) ((12 : Nat)) kd, C.mp ((5 : Nat)), C.d (D.v (Value.bool nd))]
 ((87 : Nat))), ((1 : Nat), Blk.row ka ga ((1 : Nat)) ((9 : Nat))), ((2 : Nat), Blk.row kb gb ((5 : Nat)) ((58 : Nat))), ((3 : Nat), Blk.row kc gc ((6 : Nat)) ((61 : Nat))), ((4 :
 Nat), Blk.row kd gd ((12 : Nat)) ((54 : Nat))), ((5 : Nat), Blk.map ((0 : Nat)) mpa), ((6 : Nat), Blk.cells [C.d (D.v (Value.string (SBay.name b))), C.d (D.v (Value.int IntKind.i64
 (SBay.kind b))), C.d (D.v (Value.int IntKind.i64 (SBay.off b))), C.d (D.v (Value.int IntKind.i64 (SBay.fin b))), C.d (D.v (Value.int IntKind.i64 (SBay.zr b))), C.d (D.v (Value.int
 IntKind.i64 (SBay.zx b))), C.row ((7 : Nat)) ((2 : Nat)) kl, C.d (D.v (Value.bool (SBay.closed b))), C.d (D.v (Value.int IntKind.i64 (SBay.ct b))), C.d (D.v (Value.int IntKind.i64
 (SBay.vt b))), C.d (D.v (Value.int IntKind.i64 (SBay.sat b))), C.d (D.v (Value.int IntKind.i64 (SBay.travel b)))] ((54 : Nat))), ((7 : Nat), Blk.row kl gl ((2 : Nat)) ((108 :
 Nat))), ((8 : Nat), Blk.map ((0 : Nat)) seen)])) else (bif KS.ob Z ((ka, Wd.text (List.getD (It.words (say [tSelect, t, tOpen])) (Int.toNat (1 : Int)) w0), ()), (ka, ga), ()) then
 (bif decide (KS.ib Z ((ka, Wd.text (List.getD (It.words (say [tSelect, t, tOpen])) (Int.toNat (1 : Int)) w0), ()), (ka, ga), ()) < (0 : Int)) then some (T.leaf (AV.c (C.d (D.v
 (Value.int IntKind.i64 (9 : Int)))), [((0 : Nat), Blk.cells [C.d (D.v (Value.string s0)), C.row ((1 : Nat)) ((1 : Nat)) ka, C.row ((2 : Nat)) ((5 : Nat)) kb, C.row ((3 : Nat)) ((6 :
 Nat)) kc, C.row ((4 : Nat)) ((12 : Nat)) kd, C.mp ((5 : Nat)), C.d (D.v (Value.bool nd))] ((87 : Nat))), ((1 : Nat), Blk.row ka ga ((1 : Nat)) ((9 : Nat))), ((2 : Nat), Blk.row kb
 gb ((5 : Nat)) ((58 : Nat))), ((3 : Nat), Blk.row kc gc ((6 : Nat)) ((61 : Nat))), ((4 : Nat), Blk.row kd gd ((12 : Nat)) ((54 : Nat))), ((5 : Nat), Blk.map ((0 : Nat)) mpa), ((6 :
 Nat), Blk.cells [C.d (D.v (Value.string (SBay.name b))), C.d (D.v (Value.int IntKind.i64 (SBay.kind b))), C.d (D.v (Value.int IntKind.i64 (SBay.off b))), C.d (D.v (Value.int
 IntKind.i64 (SBay.fin b))), C.d (D.v (Value.int IntKind.i64 (SBay.zr b))), C.d (D.v (Value.int IntKind.i64 (SBay.zx b))), C.row ((7 : Nat)) ((2 : Nat)) kl, C.d (D.v (Value.bool
 (SBay.closed b))), C.d (D.v (Value.int IntKind.i64 (SBay.ct b))), C.d (D.v (Value.int IntKind.i64 (SBay.vt b))), C.d (D.v (Value.int IntKind.i64 (SBay.sat b))), C.d (D.v (Value.int
 IntKind.i64 (SBay.travel b)))] ((54 : Nat))), ((7 : Nat), Blk.row kl gl ((2 : Nat)) ((108 : Nat))), ((8 : Nat), Blk.map ((0 : Nat)) seen)])) else (bif decide ((kl + (1 : Nat)) * (16
 : Nat) ≤ (140737488355328 : Nat)) && decide (kl + (1 : Nat) ≤ (9223372036854775807 : Nat)) then some (T.leaf (AV.c (C.d (D.v (Value.int IntKind.i64 (0 : Int)))), [((0 : Nat),
 Blk.cells [C.d (D.v (Value.string s0)), C.row ((1 : Nat)) ((1 : Nat)) ka, C.row ((2 : Nat)) ((5 : Nat)) kb, C.row ((3 : Nat)) ((6 : Nat)) kc, C.row ((4 : Nat)) ((12 : Nat)) kd, C.mp
 ((5 : Nat)), C.d (D.v (Value.bool nd))] ((87 : Nat))), ((1 : Nat), Blk.row ka ga ((1 : Nat)) ((9 : Nat))), ((2 : Nat), Blk.row kb gb ((5 : Nat)) ((58 : Nat))), ((3 : Nat), Blk.row
 kc gc ((6 : Nat)) ((61 : Nat))), ((4 : Nat), Blk.row kd gd ((12 : Nat)) ((54 : Nat))), ((5 : Nat), Blk.map ((0 : Nat)) mpa), ((6 : Nat), Blk.cells [C.d (D.v (Value.string (SBay.name
 b))), C.d (D.v (Value.int IntKind.i64 (SBay.kind b))), C.d (D.v (Value.int IntKind.i64 (SBay.off b))), C.d (D.v (Value.int IntKind.i64 (SBay.fin b))), C.d (D.v (Value.int
 IntKind.i64 (SBay.zr b))), C.d (D.v (Value.int IntKind.i64 (SBay.zx b))), C.row ((9 : Nat)) ((2 : Nat)) (kl + (1 : Nat)), C.d (D.v (Value.bool (SBay.closed b))), C.d (D.v (Value.int
 IntKind.i64 (SBay.ct b))), C.d (D.v (Value.int IntKind.i64 (SBay.vt b))), C.d (D.v (Value.int IntKind.i64 (SBay.sat b))), C.d (D.v (Value.int IntKind.i64 (SBay.travel b)))] ((54 :
 Nat))), ((7 : Nat), Blk.dead), ((8 : Nat), Blk.map ((0 : Nat)) seen), ((9 : Nat), Blk.row (kl + (1 : Nat)) (appF kl gl (chunk [D.v (Value.int IntKind.i64 (KS.ib Z ((ka, Wd.text
 (List.getD (It.words (say [tSelect, t, tOpen])) (Int.toNat (1 : Int)) w0), ()), (ka, ga), ()))), D.v (Value.int IntKind.i64 (0 : Int))] ((1 : Nat) + (1 : Nat)))) ((2 : Nat)) ((108 :
 Nat)))])) else none)) else none)) else none) := by kernel_rfl
noncomputable def annsbr : Ann := annOf []
theorem bsbr : Try.f75.body = some (bodyOf Try.f75) := by kernel_rfl
set_option maxRecDepth 100000 in
theorem evsbr (Z : KS)  (s0 : ByteArray) (ka : Nat) (ga : Nat → List D) (kb : Nat) (gb : Nat → List D) (kc : Nat) (gc : Nat → List D) (kd : Nat) (gd : Nat → List D) (mpa : List (Value × Value)) (nd : Bool) (b : SBay) (kl : Nat) (gl : Nat → List D) (seen : List (Value × Value)) (g : Nat) : callC Try.prog (oSt Z) annsbr g Try.f75 (bodyOf Try.f75) [.c (.ptr 0 0), aIt (say [tBreaker, tOpen]), .c (.ptr 6 0), .c (.mp 8)] [(0, .cells [.d (dS s0), .row 1 1 ka, .row 2 5 kb, .row 3 6 kc, .row 4 12 kd, .mp 5, .d (dB nd)] 87), (1, .row ka ga 1 9), (2, .row kb gb 5 58), (3, .row kc gc 6 61), (4, .row kd gd 12 54), (5, .map 0 mpa), (6, .cells [.d (dS b.name), .d (dI b.kind), .d (dI b.off), .d (dI b.fin), .d (dI b.zr), .d (dI b.zx), .row 7 2 kl, .d (dB b.closed), .d (dI b.ct), .d (dI b.vt), .d (dI b.sat), .d (dI b.travel)] 54), (7, .row kl gl 2 108), (8, .map 0 seen)] =
 (bif KS.okf Z [AV.agg (List.map C.d (icells (say [tBreaker, tOpen]))), AV.c (C.d (D.v (Value.string (ByteArray.mk #[(119 : UInt8), (119 : UInt8)])))), AV.c (C.d (D.v (Value.bool
 false)))] then (bif !KS.fo Z [AV.agg (List.map C.d (icells (say [tBreaker, tOpen]))), AV.c (C.d (D.v (Value.string (ByteArray.mk #[(119 : UInt8), (119 : UInt8)])))), AV.c (C.d (D.v
 (Value.bool false)))] then some (T.leaf (AV.c (C.d (D.v (Value.int IntKind.i64 (6 : Int)))), [((0 : Nat), Blk.cells [C.d (D.v (Value.string s0)), C.row ((1 : Nat)) ((1 : Nat)) ka,
 C.row ((2 : Nat)) ((5 : Nat)) kb, C.row ((3 : Nat)) ((6 : Nat)) kc, C.row ((4 : Nat)) ((12 : Nat)) kd, C.mp ((5 : Nat)), C.d (D.v (Value.bool nd))] ((87 : Nat))), ((1 : Nat),
 Blk.row ka ga ((1 : Nat)) ((9 : Nat))), ((2 : Nat), Blk.row kb gb ((5 : Nat)) ((58 : Nat))), ((3 : Nat), Blk.row kc gc ((6 : Nat)) ((61 : Nat))), ((4 : Nat), Blk.row kd gd ((12 :
 Nat)) ((54 : Nat))), ((5 : Nat), Blk.map ((0 : Nat)) mpa), ((6 : Nat), Blk.cells [C.d (D.v (Value.string (SBay.name b))), C.d (D.v (Value.int IntKind.i64 (SBay.kind b))), C.d (D.v
 (Value.int IntKind.i64 (SBay.off b))), C.d (D.v (Value.int IntKind.i64 (SBay.fin b))), C.d (D.v (Value.int IntKind.i64 (SBay.zr b))), C.d (D.v (Value.int IntKind.i64 (SBay.zx b))),
 C.row ((7 : Nat)) ((2 : Nat)) kl, C.d (D.v (Value.bool (SBay.closed b))), C.d (D.v (Value.int IntKind.i64 (SBay.ct b))), C.d (D.v (Value.int IntKind.i64 (SBay.vt b))), C.d (D.v
 (Value.int IntKind.i64 (SBay.sat b))), C.d (D.v (Value.int IntKind.i64 (SBay.travel b)))] ((54 : Nat))), ((7 : Nat), Blk.row kl gl ((2 : Nat)) ((108 : Nat))), ((8 : Nat), Blk.map
 ((0 : Nat)) seen)])) else (bif boolOf (assoc seen (Value.string (Wd.text (List.getD (It.words (say [tBreaker, tOpen])) (Int.toNat (0 : Int)) w0)))) then some (T.leaf (AV.c (C.d (D.v
 (Value.int IntKind.i64 (8 : Int)))), [((0 : Nat), Blk.cells [C.d (D.v (Value.string s0)), C.row ((1 : Nat)) ((1 : Nat)) ka, C.row ((2 : Nat)) ((5 : Nat)) kb, C.row ((3 : Nat)) ((6 :
 Nat)) kc, C.row ((4 : Nat)) ((12 : Nat)) kd, C.mp ((5 : Nat)), C.d (D.v (Value.bool nd))] ((87 : Nat))), ((1 : Nat), Blk.row ka ga ((1 : Nat)) ((9 : Nat))), ((2 : Nat), Blk.row kb
 gb ((5 : Nat)) ((58 : Nat))), ((3 : Nat), Blk.row kc gc ((6 : Nat)) ((61 : Nat))), ((4 : Nat), Blk.row kd gd ((12 : Nat)) ((54 : Nat))), ((5 : Nat), Blk.map ((0 : Nat)) mpa), ((6 :
 Nat), Blk.cells [C.d (D.v (Value.string (SBay.name b))), C.d (D.v (Value.int IntKind.i64 (SBay.kind b))), C.d (D.v (Value.int IntKind.i64 (SBay.off b))), C.d (D.v (Value.int
 IntKind.i64 (SBay.fin b))), C.d (D.v (Value.int IntKind.i64 (SBay.zr b))), C.d (D.v (Value.int IntKind.i64 (SBay.zx b))), C.row ((7 : Nat)) ((2 : Nat)) kl, C.d (D.v (Value.bool
 (SBay.closed b))), C.d (D.v (Value.int IntKind.i64 (SBay.ct b))), C.d (D.v (Value.int IntKind.i64 (SBay.vt b))), C.d (D.v (Value.int IntKind.i64 (SBay.sat b))), C.d (D.v (Value.int
 IntKind.i64 (SBay.travel b)))] ((54 : Nat))), ((7 : Nat), Blk.row kl gl ((2 : Nat)) ((108 : Nat))), ((8 : Nat), Blk.map ((0 : Nat)) seen)])) else some (T.leaf (AV.c (C.d (D.v
 (Value.int IntKind.i64 (0 : Int)))), [((0 : Nat), Blk.cells [C.d (D.v (Value.string s0)), C.row ((1 : Nat)) ((1 : Nat)) ka, C.row ((2 : Nat)) ((5 : Nat)) kb, C.row ((3 : Nat)) ((6 :
 Nat)) kc, C.row ((4 : Nat)) ((12 : Nat)) kd, C.mp ((5 : Nat)), C.d (D.v (Value.bool nd))] ((87 : Nat))), ((1 : Nat), Blk.row ka ga ((1 : Nat)) ((9 : Nat))), ((2 : Nat), Blk.row kb
 gb ((5 : Nat)) ((58 : Nat))), ((3 : Nat), Blk.row kc gc ((6 : Nat)) ((61 : Nat))), ((4 : Nat), Blk.row kd gd ((12 : Nat)) ((54 : Nat))), ((5 : Nat), Blk.map ((0 : Nat)) mpa), ((6 :
 Nat), Blk.cells [C.d (D.v (Value.string (SBay.name b))), C.d (D.v (Value.int IntKind.i64 (SBay.kind b))), C.d (D.v (Value.int IntKind.i64 (SBay.off b))), C.d (D.v (Value.int
 IntKind.i64 (SBay.fin b))), C.d (D.v (Value.int IntKind.i64 (SBay.zr b))), C.d (D.v (Value.int IntKind.i64 (SBay.zx b))), C.row ((7 : Nat)) ((2 : Nat)) kl, C.d (D.v (Value.bool
 false)), C.d (D.v (Value.int IntKind.i64 (SBay.ct b))), C.d (D.v (Value.int IntKind.i64 (SBay.vt b))), C.d (D.v (Value.int IntKind.i64 (SBay.sat b))), C.d (D.v (Value.int
 IntKind.i64 (SBay.travel b)))] ((54 : Nat))), ((7 : Nat), Blk.row kl gl ((2 : Nat)) ((108 : Nat))), ((8 : Nat), Blk.map ((0 : Nat)) seen)])))) else none) := by kernel_rfl
end Go.Proofs.Ythmapnolgdpkbaa.de
namespace Go.Proofs.Ythmapnolgdpkbaa.de
open Go.RowKit Go.Eb Go.Proofs.Ythmapnolgdpkbaa.st
set_option maxRecDepth 100000

noncomputable def oDc (okd : List AV → Bool) (dcd : List AV → ByteArray) : Orc := Orc.cons 57 (ansG okd fun x => vS (dcd x)) Orc.nil
noncomputable def anndec : Ann := annOf []
theorem bdec : Try.f57.body = some (bodyOf Try.f57) := by kernel_rfl
set_option maxRecDepth 100000 in
theorem evdec (okd : List AV → Bool) (dcd : List AV → ByteArray) (n : Int) (g : Nat) : callC Try.prog (oDc okd dcd) anndec g Try.f57 (bodyOf Try.f57) [vI n] [] =
 (bif decide (n < (0 : Int)) then (bif okd [AV.c (C.d (D.v (Value.int IntKind.i64 (IntKind.wrap IntKind.i64 ((0 : Int) - n)))))] then (bif decide (ByteArray.size (ByteArray.mk #[(45
 : UInt8)]) + ByteArray.size (dcd [AV.c (C.d (D.v (Value.int IntKind.i64 (IntKind.wrap IntKind.i64 ((0 : Int) - n)))))]) ≤ (9223372036854775807 : Nat)) then some (T.leaf (AV.c (C.d
 (D.v (Value.string (ByteArray.mk #[(45 : UInt8)] ++ dcd [AV.c (C.d (D.v (Value.int IntKind.i64 (IntKind.wrap IntKind.i64 ((0 : Int) - n)))))])))), [])) else none) else none) else
 (bif decide (n ≥ (10 : Int)) then (bif okd [AV.c (C.d (D.v (Value.int IntKind.i64 (IntKind.wrap IntKind.i64 (Int.tdiv n (10 : Int))))))] then (bif okd [AV.c (C.d (D.v (Value.int
 IntKind.i64 (Int.tmod n (10 : Int)))))] then (bif decide (ByteArray.size (dcd [AV.c (C.d (D.v (Value.int IntKind.i64 (IntKind.wrap IntKind.i64 (Int.tdiv n (10 : Int))))))]) +
 ByteArray.size (dcd [AV.c (C.d (D.v (Value.int IntKind.i64 (Int.tmod n (10 : Int)))))]) ≤ (9223372036854775807 : Nat)) then some (T.leaf (AV.c (C.d (D.v (Value.string (dcd [AV.c
 (C.d (D.v (Value.int IntKind.i64 (IntKind.wrap IntKind.i64 (Int.tdiv n (10 : Int))))))] ++ dcd [AV.c (C.d (D.v (Value.int IntKind.i64 (Int.tmod n (10 : Int)))))])))), [])) else
 none) else none) else none) else (bif cstrOk (1 : Nat) (some (Blk.cells [C.d (D.v (Value.int IntKind.u8 (IntKind.wrap IntKind.u8 (IntKind.wrap IntKind.i64 ((48 : Int) + n)))))] ((5
 : Nat)))) then some (T.leaf (AV.c (C.d (D.v (Value.string (cstrS (1 : Nat) (some (Blk.cells [C.d (D.v (Value.int IntKind.u8 (IntKind.wrap IntKind.u8 (IntKind.wrap IntKind.i64 ((48 :
 Int) + n)))))] ((5 : Nat)))))))), [])) else none))) := by kernel_rfl
noncomputable def oSay (okd : List AV → Bool) (dcd : List AV → ByteArray) : Orc := Orc.cons 40 (inl Try.prog (oDc okd dcd) na 12 Try.f40) Orc.nil
noncomputable def oEn (okd : List AV → Bool) (dcd : List AV → ByteArray) (okc : List AV → Bool) (ck : List AV → Int) (okb : List AV → Bool) (bw bk : List AV → D) : Orc := Orc.cons 8 (ansG okc fun x => vI (ck x)) (Orc.cons 41 (ansG okb fun x => .agg [.d (dI 0), .d (bw x), .d (dB true), .d (bk x)]) (oSay okd dcd))
noncomputable def annenc : Ann := annOf [(5, ⟨[1, 4, 3], [(3, 0, 4, 45)]⟩), (9, ⟨[1, 5, 3], [(3, 0, 4, 45)]⟩), (14, ⟨[1, 7, 3], [(3, 0, 4, 45)]⟩), (19, ⟨[1, 9, 3], [(3, 0, 4, 45)]⟩)]
noncomputable def Lenc_5 (okd : List AV → Bool) (dcd : List AV → ByteArray) (okc : List AV → Bool) (ck : List AV → Int) (okb : List AV → Bool) (bw bk : List AV → D) (s : SSta) (g m : Nat) (n1 : Nat) (f1 : Nat → List D) (i4 : Int) := LK Try.prog (oEn okd dcd okc ck okb bw bk) annenc (List.length (α := Nat × Blk) []) g Try.f17 5 m ⟨frm [(1, AV.c (C.ptr 0 0)), (3, AV.c (C.row 1 4 n1)), (4, AV.c (C.d (D.v (Value.int IntKind.i64 i4))))] 0 Try.f17.ntmps, [(0, Blk.cells (List.map C.d (staC s)) 27), (1, Blk.row n1 f1 4 45)], 2⟩
noncomputable def Lenc_9 (okd : List AV → Bool) (dcd : List AV → ByteArray) (okc : List AV → Bool) (ck : List AV → Int) (okb : List AV → Bool) (bw bk : List AV → D) (s : SSta) (g m : Nat) (n1 : Nat) (f1 : Nat → List D) (i5 : Int) := LK Try.prog (oEn okd dcd okc ck okb bw bk) annenc (List.length (α := Nat × Blk) []) g Try.f17 9 m ⟨frm [(1, AV.c (C.ptr 0 0)), (3, AV.c (C.row 1 4 n1)), (5, AV.c (C.d (D.v (Value.int IntKind.i64 i5))))] 0 Try.f17.ntmps, [(0, Blk.cells (List.map C.d (staC s)) 27), (1, Blk.row n1 f1 4 45)], 2⟩
noncomputable def Lenc_14 (okd : List AV → Bool) (dcd : List AV → ByteArray) (okc : List AV → Bool) (ck : List AV → Int) (okb : List AV → Bool) (bw bk : List AV → D) (s : SSta) (g m : Nat) (n1 : Nat) (f1 : Nat → List D) (i7 : Int) := LK Try.prog (oEn okd dcd okc ck okb bw bk) annenc (List.length (α := Nat × Blk) []) g Try.f17 14 m ⟨frm [(1, AV.c (C.ptr 0 0)), (3, AV.c (C.row 1 4 n1)), (7, AV.c (C.d (D.v (Value.int IntKind.i64 i7))))] 0 Try.f17.ntmps, [(0, Blk.cells (List.map C.d (staC s)) 27), (1, Blk.row n1 f1 4 45)], 2⟩
noncomputable def Lenc_19 (okd : List AV → Bool) (dcd : List AV → ByteArray) (okc : List AV → Bool) (ck : List AV → Int) (okb : List AV → Bool) (bw bk : List AV → D) (s : SSta) (g m : Nat) (n1 : Nat) (f1 : Nat → List D) (i9 : Int) := LK Try.prog (oEn okd dcd okc ck okb bw bk) annenc (List.length (α := Nat × Blk) []) g Try.f17 19 m ⟨frm [(1, AV.c (C.ptr 0 0)), (3, AV.c (C.row 1 4 n1)), (9, AV.c (C.d (D.v (Value.int IntKind.i64 i9))))] 0 Try.f17.ntmps, [(0, Blk.cells (List.map C.d (staC s)) 27), (1, Blk.row n1 f1 4 45)], 2⟩
theorem benc : Try.f17.body = some (bodyOf Try.f17) := by kernel_rfl
set_option maxRecDepth 100000 in
theorem evenc (okd : List AV → Bool) (dcd : List AV → ByteArray) (okc : List AV → Bool) (ck : List AV → Int) (okb : List AV → Bool) (bw bk : List AV → D) (s : SSta) (g : Nat) : callC Try.prog (oEn okd dcd okc ck okb bw bk) annenc g Try.f17 (bodyOf Try.f17) [aSta s] [] =
 (bif okc [AV.agg (List.map C.d (staC s))] then (bif ck [AV.agg (List.map C.d (staC s))] != (0 : Int) then some (T.leaf (AV.c (C.d (D.v (Value.slice none (0 : Nat) (0 : Nat)))), []))
 else Lenc_5 okd dcd okc ck okb bw bk s g g (1 : Nat) (chunk [D.v (Value.int IntKind.i64 (0 : Int)), D.sl ((1 : Nat) + (1 : Nat)) ((0 : Nat) + (1 : Nat) + (1 : Nat)) (chunk [D.v
 (Value.string (ByteArray.mk #[(115 : UInt8), (116 : UInt8), (97 : UInt8), (116 : UInt8), (105 : UInt8), (111 : UInt8), (110 : UInt8)])), D.v (Value.bool false), dS (SSta.name s),
 D.v (Value.bool false)] ((1 : Nat) + (1 : Nat))), D.v (Value.bool false), D.v (Value.slice none (0 : Nat) (0 : Nat))] (4 : Nat)) ((0 : Int))) else none) := by kernel_rfl
set_option maxRecDepth 100000 in
theorem stenc_5 (okd : List AV → Bool) (dcd : List AV → ByteArray) (okc : List AV → Bool) (ck : List AV → Int) (okb : List AV → Bool) (bw bk : List AV → D) (s : SSta) (g m : Nat) (n1 : Nat) (f1 : Nat → List D) (i4 : Int) : Lenc_5 okd dcd okc ck okb bw bk s g (m + 1) n1 f1 i4 =
 (bif decide (i4 < (↑(List.length (SSta.buses s)) : Int)) then (bif decide ((0 : Int) ≤ i4) && decide (i4 < (↑(List.length (SSta.buses s)) : Int)) then (bif decide ((n1 + (1 : Nat))
 * (64 : Nat) ≤ (140737488355328 : Nat)) && decide (n1 + (1 : Nat) ≤ (9223372036854775807 : Nat)) then Lenc_5 okd dcd okc ck okb bw bk s g m (n1 + (1 : Nat)) (appF n1 f1 (chunk [D.v
 (Value.int IntKind.i64 (0 : Int)), D.sl ((1 : Nat) + (1 : Nat)) ((0 : Nat) + (1 : Nat) + (1 : Nat)) (chunk [D.v (Value.string (ByteArray.mk #[(98 : UInt8), (117 : UInt8), (115 :
 UInt8)])), D.v (Value.bool false), dS (List.getD (SSta.buses s) (Int.toNat i4) e0), D.v (Value.bool false)] ((1 : Nat) + (1 : Nat))), D.v (Value.bool false), D.v (Value.slice none
 (0 : Nat) (0 : Nat))] ((3 : Nat) + (1 : Nat)))) (IntKind.wrap IntKind.i64 (i4 + (1 : Int))) else none) else none) else Lenc_9 okd dcd okc ck okb bw bk s g g n1 f1 ((0 : Int))) := by kernel_rfl
set_option maxRecDepth 100000 in
theorem stenc_9 (okd : List AV → Bool) (dcd : List AV → ByteArray) (okc : List AV → Bool) (ck : List AV → Int) (okb : List AV → Bool) (bw bk : List AV → D) (s : SSta) (g m : Nat) (n1 : Nat) (f1 : Nat → List D) (i5 : Int) : Lenc_9 okd dcd okc ck okb bw bk s g (m + 1) n1 f1 i5 =
 (bif decide (i5 < (↑(List.length (SSta.lines s)) : Int)) then (bif decide ((0 : Int) ≤ i5) && decide (i5 < (↑(List.length (SSta.lines s)) : Int)) then (bif okd [AV.c (C.d (D.v
 (Value.int IntKind.i64 (SLine.r1 (List.getD (SSta.lines s) (Int.toNat i5) line0)))))] then (bif okd [AV.c (C.d (D.v (Value.int IntKind.i64 (SLine.x1 (List.getD (SSta.lines s)
 (Int.toNat i5) line0)))))] then (bif okd [AV.c (C.d (D.v (Value.int IntKind.i64 (SLine.r0 (List.getD (SSta.lines s) (Int.toNat i5) line0)))))] then (bif okd [AV.c (C.d (D.v
 (Value.int IntKind.i64 (SLine.x0 (List.getD (SSta.lines s) (Int.toNat i5) line0)))))] then (bif decide ((n1 + (1 : Nat)) * (64 : Nat) ≤ (140737488355328 : Nat)) && decide (n1 + (1 :
 Nat) ≤ (9223372036854775807 : Nat)) then Lenc_9 okd dcd okc ck okb bw bk s g m (n1 + (1 : Nat)) (appF n1 f1 (chunk [D.v (Value.int IntKind.i64 (0 : Int)), D.sl ((1 : Nat) + (1 :
 Nat)) ((0 : Nat) + (1 : Nat) + (1 : Nat) + (1 : Nat) + (1 : Nat) + (1 : Nat) + (1 : Nat)) (chunk [D.v (Value.string (ByteArray.mk #[(108 : UInt8), (105 : UInt8), (110 : UInt8), (101
 : UInt8)])), D.v (Value.bool false), dS (SLine.name (List.getD (SSta.lines s) (Int.toNat i5) line0)), D.v (Value.bool false), D.v (Value.string (dcd [AV.c (C.d (D.v (Value.int
 IntKind.i64 (SLine.r1 (List.getD (SSta.lines s) (Int.toNat i5) line0)))))])), D.v (Value.bool false), D.v (Value.string (dcd [AV.c (C.d (D.v (Value.int IntKind.i64 (SLine.x1
 (List.getD (SSta.lines s) (Int.toNat i5) line0)))))])), D.v (Value.bool false), D.v (Value.string (dcd [AV.c (C.d (D.v (Value.int IntKind.i64 (SLine.r0 (List.getD (SSta.lines s)
 (Int.toNat i5) line0)))))])), D.v (Value.bool false), D.v (Value.string (dcd [AV.c (C.d (D.v (Value.int IntKind.i64 (SLine.x0 (List.getD (SSta.lines s) (Int.toNat i5) line0)))))])),
 D.v (Value.bool false)] ((1 : Nat) + (1 : Nat))), D.v (Value.bool false), D.v (Value.slice none (0 : Nat) (0 : Nat))] ((3 : Nat) + (1 : Nat)))) (IntKind.wrap IntKind.i64 (i5 + (1 :
 Int))) else none) else none) else none) else none) else none) else none) else Lenc_14 okd dcd okc ck okb bw bk s g g n1 f1 ((0 : Int))) := by kernel_rfl
set_option maxRecDepth 100000 in
theorem stenc_14 (okd : List AV → Bool) (dcd : List AV → ByteArray) (okc : List AV → Bool) (ck : List AV → Int) (okb : List AV → Bool) (bw bk : List AV → D) (s : SSta) (g m : Nat) (n1 : Nat) (f1 : Nat → List D) (i7 : Int) : Lenc_14 okd dcd okc ck okb bw bk s g (m + 1) n1 f1 i7 =
 (bif decide (i7 < (↑(List.length (SSta.srcs s)) : Int)) then (bif decide ((0 : Int) ≤ i7) && decide (i7 < (↑(List.length (SSta.srcs s)) : Int)) then (bif okd [AV.c (C.d (D.v
 (Value.int IntKind.i64 (SSrc.emf (List.getD (SSta.srcs s) (Int.toNat i7) src0)))))] then (bif okd [AV.c (C.d (D.v (Value.int IntKind.i64 (SSrc.r1 (List.getD (SSta.srcs s) (Int.toNat
 i7) src0)))))] then (bif okd [AV.c (C.d (D.v (Value.int IntKind.i64 (SSrc.x1 (List.getD (SSta.srcs s) (Int.toNat i7) src0)))))] then (bif okd [AV.c (C.d (D.v (Value.int IntKind.i64
 (SSrc.r0 (List.getD (SSta.srcs s) (Int.toNat i7) src0)))))] then (bif okd [AV.c (C.d (D.v (Value.int IntKind.i64 (SSrc.x0 (List.getD (SSta.srcs s) (Int.toNat i7) src0)))))] then
 (bif decide ((n1 + (1 : Nat)) * (64 : Nat) ≤ (140737488355328 : Nat)) && decide (n1 + (1 : Nat) ≤ (9223372036854775807 : Nat)) then Lenc_14 okd dcd okc ck okb bw bk s g m (n1 + (1 :
 Nat)) (appF n1 f1 (chunk [D.v (Value.int IntKind.i64 (0 : Int)), D.sl ((1 : Nat) + (1 : Nat)) ((0 : Nat) + (1 : Nat) + (1 : Nat) + (1 : Nat) + (1 : Nat) + (1 : Nat) + (1 : Nat) + (1
 : Nat)) (chunk [D.v (Value.string (ByteArray.mk #[(115 : UInt8), (111 : UInt8), (117 : UInt8), (114 : UInt8), (99 : UInt8), (101 : UInt8)])), D.v (Value.bool false), dS (SSrc.name
 (List.getD (SSta.srcs s) (Int.toNat i7) src0)), D.v (Value.bool false), D.v (Value.string (dcd [AV.c (C.d (D.v (Value.int IntKind.i64 (SSrc.emf (List.getD (SSta.srcs s) (Int.toNat
 i7) src0)))))])), D.v (Value.bool false), D.v (Value.string (dcd [AV.c (C.d (D.v (Value.int IntKind.i64 (SSrc.r1 (List.getD (SSta.srcs s) (Int.toNat i7) src0)))))])), D.v
 (Value.bool false), D.v (Value.string (dcd [AV.c (C.d (D.v (Value.int IntKind.i64 (SSrc.x1 (List.getD (SSta.srcs s) (Int.toNat i7) src0)))))])), D.v (Value.bool false), D.v
 (Value.string (dcd [AV.c (C.d (D.v (Value.int IntKind.i64 (SSrc.r0 (List.getD (SSta.srcs s) (Int.toNat i7) src0)))))])), D.v (Value.bool false), D.v (Value.string (dcd [AV.c (C.d
 (D.v (Value.int IntKind.i64 (SSrc.x0 (List.getD (SSta.srcs s) (Int.toNat i7) src0)))))])), D.v (Value.bool false)] ((1 : Nat) + (1 : Nat))), D.v (Value.bool false), D.v (Value.slice
 none (0 : Nat) (0 : Nat))] ((3 : Nat) + (1 : Nat)))) (IntKind.wrap IntKind.i64 (i7 + (1 : Int))) else none) else none) else none) else none) else none) else none) else none) else
 Lenc_19 okd dcd okc ck okb bw bk s g g n1 f1 ((0 : Int))) := by kernel_rfl
set_option maxRecDepth 100000 in
theorem stenc_19 (okd : List AV → Bool) (dcd : List AV → ByteArray) (okc : List AV → Bool) (ck : List AV → Int) (okb : List AV → Bool) (bw bk : List AV → D) (s : SSta) (g m : Nat) (n1 : Nat) (f1 : Nat → List D) (i9 : Int) : Lenc_19 okd dcd okc ck okb bw bk s g (m + 1) n1 f1 i9 =
 (bif decide (i9 < (↑(List.length (SSta.bays s)) : Int)) then (bif decide ((0 : Int) ≤ i9) && decide (i9 < (↑(List.length (SSta.bays s)) : Int)) then (bif okb [AV.agg (List.map C.d
 (staC s)), AV.agg (List.map C.d (bayC (List.getD (SSta.bays s) (Int.toNat i9) bay0)))] then (bif decide ((n1 + (1 : Nat)) * (64 : Nat) ≤ (140737488355328 : Nat)) && decide (n1 + (1
 : Nat) ≤ (9223372036854775807 : Nat)) then Lenc_19 okd dcd okc ck okb bw bk s g m (n1 + (1 : Nat)) (appF n1 f1 (chunk [dI (0 : Int), bw [AV.agg (List.map C.d (staC s)), AV.agg
 (List.map C.d (bayC (List.getD (SSta.bays s) (Int.toNat i9) bay0)))], dB true, bk [AV.agg (List.map C.d (staC s)), AV.agg (List.map C.d (bayC (List.getD (SSta.bays s) (Int.toNat i9)
 bay0)))]] ((3 : Nat) + (1 : Nat)))) (IntKind.wrap IntKind.i64 (i9 + (1 : Int))) else none) else none) else none) else some (T.leaf (AV.c (C.row ((0 : Nat)) ((4 : Nat)) n1), [((0 :
 Nat), Blk.row n1 f1 ((4 : Nat)) ((45 : Nat)))]))) := by kernel_rfl
end Go.Proofs.Ythmapnolgdpkbaa.de
namespace Go.Proofs.Ythmapnolgdpkbaa.de
open Go.RowKit Go.Eb Go.Proofs.Ythmapnolgdpkbaa.st
set_option maxRecDepth 100000

noncomputable def annbyi : Ann := annOf [(100008, ⟨[5, 3, 2, 4], [(5, 1, 1000, 0), (5, 3, 4, 45)]⟩), (100010, ⟨[5, 3, 2, 4], [(5, 1, 1000, 0), (5, 3, 4, 45)]⟩), (100012, ⟨[5, 3, 2, 4], [(5, 1, 1000, 0), (5, 3, 4, 45)]⟩), (100014, ⟨[5, 3, 2, 4], [(5, 1, 1000, 0), (5, 3, 4, 45)]⟩), (16, ⟨[5, 3, 2, 4, 6], [(5, 1, 1000, 0), (5, 3, 4, 45)]⟩)]
noncomputable def Lbyi_8 (okd : List AV → Bool) (dcd : List AV → ByteArray) (s : SSta) (b : SBay) (g m : Nat) (n4 : Nat) (f4 : Nat → List D) (x2 : Int) (x2_2 : Bool) (x3 : Int) (x3_2 : D) (x3_3 : Bool) := GK Try.prog (oSay okd dcd) annbyi (List.length (α := Nat × Blk) []) g Try.f41 8 m ⟨frm [(2, AV.c (C.ptr 0 0)), (3, AV.c (C.ptr 1 0)), (4, AV.c (C.ptr 2 0)), (5, AV.c (C.ptr 3 0))] 0 Try.f41.ntmps, [(0, Blk.cells (List.map C.d (staC s)) 27), (1, Blk.cells (List.map C.d (bayC b)) 54), (2, Blk.cells [C.d (D.v (Value.int IntKind.i64 x2)), C.d (D.v (Value.slice none (0 : Nat) (0 : Nat))), C.d (D.v (Value.bool x2_2)), C.d (D.v (Value.slice none (0 : Nat) (0 : Nat)))] 45), (3, Blk.cells [C.d (D.v (Value.int IntKind.i64 x3)), C.d (x3_2), C.d (D.v (Value.bool x3_3)), C.row 4 4 n4] 45), (4, Blk.row n4 f4 4 45)], 5⟩
noncomputable def Lbyi_10 (okd : List AV → Bool) (dcd : List AV → ByteArray) (s : SSta) (b : SBay) (g m : Nat) (n4 : Nat) (f4 : Nat → List D) (x2 : Int) (x2_2 : Bool) (x3 : Int) (x3_2 : D) (x3_3 : Bool) := GK Try.prog (oSay okd dcd) annbyi (List.length (α := Nat × Blk) []) g Try.f41 10 m ⟨frm [(2, AV.c (C.ptr 0 0)), (3, AV.c (C.ptr 1 0)), (4, AV.c (C.ptr 2 0)), (5, AV.c (C.ptr 3 0))] 0 Try.f41.ntmps, [(0, Blk.cells (List.map C.d (staC s)) 27), (1, Blk.cells (List.map C.d (bayC b)) 54), (2, Blk.cells [C.d (D.v (Value.int IntKind.i64 x2)), C.d (D.v (Value.slice none (0 : Nat) (0 : Nat))), C.d (D.v (Value.bool x2_2)), C.d (D.v (Value.slice none (0 : Nat) (0 : Nat)))] 45), (3, Blk.cells [C.d (D.v (Value.int IntKind.i64 x3)), C.d x3_2, C.d (D.v (Value.bool x3_3)), C.row 4 4 n4] 45), (4, Blk.row n4 f4 4 45)], 5⟩
noncomputable def Lbyi_12 (okd : List AV → Bool) (dcd : List AV → ByteArray) (s : SSta) (b : SBay) (g m : Nat) (n4 : Nat) (f4 : Nat → List D) (x2 : Int) (x2_2 : Bool) (x3 : Int) (x3_2 : D) (x3_3 : Bool) := GK Try.prog (oSay okd dcd) annbyi (List.length (α := Nat × Blk) []) g Try.f41 12 m ⟨frm [(2, AV.c (C.ptr 0 0)), (3, AV.c (C.ptr 1 0)), (4, AV.c (C.ptr 2 0)), (5, AV.c (C.ptr 3 0))] 0 Try.f41.ntmps, [(0, Blk.cells (List.map C.d (staC s)) 27), (1, Blk.cells (List.map C.d (bayC b)) 54), (2, Blk.cells [C.d (D.v (Value.int IntKind.i64 x2)), C.d (D.v (Value.slice none (0 : Nat) (0 : Nat))), C.d (D.v (Value.bool x2_2)), C.d (D.v (Value.slice none (0 : Nat) (0 : Nat)))] 45), (3, Blk.cells [C.d (D.v (Value.int IntKind.i64 x3)), C.d x3_2, C.d (D.v (Value.bool x3_3)), C.row 4 4 n4] 45), (4, Blk.row n4 f4 4 45)], 5⟩
noncomputable def Lbyi_14 (okd : List AV → Bool) (dcd : List AV → ByteArray) (s : SSta) (b : SBay) (g m : Nat) (n4 : Nat) (f4 : Nat → List D) (x2 : Int) (x2_2 : Bool) (x3 : Int) (x3_2 : D) (x3_3 : Bool) := GK Try.prog (oSay okd dcd) annbyi (List.length (α := Nat × Blk) []) g Try.f41 14 m ⟨frm [(2, AV.c (C.ptr 0 0)), (3, AV.c (C.ptr 1 0)), (4, AV.c (C.ptr 2 0)), (5, AV.c (C.ptr 3 0))] 0 Try.f41.ntmps, [(0, Blk.cells (List.map C.d (staC s)) 27), (1, Blk.cells (List.map C.d (bayC b)) 54), (2, Blk.cells [C.d (D.v (Value.int IntKind.i64 x2)), C.d (D.v (Value.slice none (0 : Nat) (0 : Nat))), C.d (D.v (Value.bool x2_2)), C.d (D.v (Value.slice none (0 : Nat) (0 : Nat)))] 45), (3, Blk.cells [C.d (D.v (Value.int IntKind.i64 x3)), C.d x3_2, C.d (D.v (Value.bool x3_3)), C.row 4 4 n4] 45), (4, Blk.row n4 f4 4 45)], 5⟩
noncomputable def Lbyi_16 (okd : List AV → Bool) (dcd : List AV → ByteArray) (s : SSta) (b : SBay) (g m : Nat) (n4 : Nat) (f4 : Nat → List D) (i6 : Int) (x2 : Int) (x2_2 : Bool) (x3 : Int) (x3_2 : D) (x3_3 : Bool) := LK Try.prog (oSay okd dcd) annbyi (List.length (α := Nat × Blk) []) g Try.f41 16 m ⟨frm [(2, AV.c (C.ptr 0 0)), (3, AV.c (C.ptr 1 0)), (4, AV.c (C.ptr 2 0)), (5, AV.c (C.ptr 3 0)), (6, AV.c (C.d (D.v (Value.int IntKind.i64 i6))))] 0 Try.f41.ntmps, [(0, Blk.cells (List.map C.d (staC s)) 27), (1, Blk.cells (List.map C.d (bayC b)) 54), (2, Blk.cells [C.d (D.v (Value.int IntKind.i64 x2)), C.d (D.v (Value.slice none (0 : Nat) (0 : Nat))), C.d (D.v (Value.bool x2_2)), C.d (D.v (Value.slice none (0 : Nat) (0 : Nat)))] 45), (3, Blk.cells [C.d (D.v (Value.int IntKind.i64 x3)), C.d x3_2, C.d (D.v (Value.bool x3_3)), C.row 4 4 n4] 45), (4, Blk.row n4 f4 4 45)], 5⟩
theorem bbyi : Try.f41.body = some (bodyOf Try.f41) := by kernel_rfl
set_option maxRecDepth 100000 in
theorem evbyi (okd : List AV → Bool) (dcd : List AV → ByteArray) (s : SSta) (b : SBay) (g : Nat) : callC Try.prog (oSay okd dcd) annbyi g Try.f41 (bodyOf Try.f41) [aSta s, aBay b] [] =
 (bif SBay.kind b == (1 : Int) then (bif decide ((0 : Int) ≤ SBay.off b) && decide (SBay.off b < (↑(List.length (SSta.lines s)) : Int)) then (bif okd [AV.c (C.d (D.v (Value.int
 IntKind.i64 (SBay.fin b))))] then Lbyi_8 okd dcd s b g g (0 : Nat) (fun x => []) ((0 : Int)) false ((0 : Int)) (D.sl ((2 : Nat)) ((5 : Nat)) (chunk [D.v (Value.string (ByteArray.mk
 #[(98 : UInt8), (97 : UInt8), (121 : UInt8)])), D.v (Value.bool false), dS (SBay.name b), D.v (Value.bool false), D.v (Value.string (ByteArray.mk #[(108 : UInt8), (105 : UInt8),
 (110 : UInt8), (101 : UInt8)])), D.v (Value.bool false), dS (SLine.name (List.getD (SSta.lines s) (Int.toNat (SBay.off b)) line0)), D.v (Value.bool false), D.v (Value.string (dcd
 [AV.c (C.d (D.v (Value.int IntKind.i64 (SBay.fin b))))])), D.v (Value.bool false)] ((1 : Nat) + (1 : Nat)))) false else none) else none) else (bif SBay.kind b == (2 : Int) then (bif
 decide ((0 : Int) ≤ SBay.off b) && decide (SBay.off b < (↑(List.length (SSta.srcs s)) : Int)) then Lbyi_8 okd dcd s b g g (0 : Nat) (fun x => []) ((0 : Int)) false ((0 : Int)) (D.sl
 ((2 : Nat)) ((4 : Nat)) (chunk [D.v (Value.string (ByteArray.mk #[(98 : UInt8), (97 : UInt8), (121 : UInt8)])), D.v (Value.bool false), dS (SBay.name b), D.v (Value.bool false), D.v
 (Value.string (ByteArray.mk #[(115 : UInt8), (111 : UInt8), (117 : UInt8), (114 : UInt8), (99 : UInt8), (101 : UInt8)])), D.v (Value.bool false), dS (SSrc.name (List.getD (SSta.srcs
 s) (Int.toNat (SBay.off b)) src0)), D.v (Value.bool false)] ((1 : Nat) + (1 : Nat)))) false else none) else (bif okd [AV.c (C.d (D.v (Value.int IntKind.i64 (SBay.zr b))))] then (bif
 okd [AV.c (C.d (D.v (Value.int IntKind.i64 (SBay.zx b))))] then Lbyi_8 okd dcd s b g g (0 : Nat) (fun x => []) ((0 : Int)) false ((0 : Int)) (D.sl ((2 : Nat)) ((5 : Nat)) (chunk
 [D.v (Value.string (ByteArray.mk #[(98 : UInt8), (97 : UInt8), (121 : UInt8)])), D.v (Value.bool false), dS (SBay.name b), D.v (Value.bool false), D.v (Value.string (ByteArray.mk
 #[(99 : UInt8), (111 : UInt8), (117 : UInt8), (112 : UInt8), (108 : UInt8), (101 : UInt8), (114 : UInt8)])), D.v (Value.bool false), D.v (Value.string (dcd [AV.c (C.d (D.v
 (Value.int IntKind.i64 (SBay.zr b))))])), D.v (Value.bool false), D.v (Value.string (dcd [AV.c (C.d (D.v (Value.int IntKind.i64 (SBay.zx b))))])), D.v (Value.bool false)] ((1 : Nat)
 + (1 : Nat)))) false else none) else none))) := by kernel_rfl
set_option maxRecDepth 100000 in
theorem stbyi_8 (okd : List AV → Bool) (dcd : List AV → ByteArray) (s : SSta) (b : SBay) (g m : Nat) (n4 : Nat) (f4 : Nat → List D) (x2 : Int) (x2_2 : Bool) (x3 : Int) (x3_2 : D) (x3_3 : Bool) : Lbyi_8 okd dcd s b g (m + 1) n4 f4 x2 x2_2 x3 x3_2 x3_3 =
 (bif okd [AV.c (C.d (D.v (Value.int IntKind.i64 (SBay.ct b))))] then (bif decide ((n4 + (1 : Nat)) * (64 : Nat) ≤ (140737488355328 : Nat)) && decide (n4 + (1 : Nat) ≤
 (9223372036854775807 : Nat)) then Lbyi_10 okd dcd s b g g (n4 + (1 : Nat)) (appF n4 f4 (chunk [D.v (Value.int IntKind.i64 (0 : Int)), D.sl ((1 : Nat) + (1 : Nat)) ((0 : Nat) + (1 :
 Nat) + (1 : Nat)) (chunk [D.v (Value.string (ByteArray.mk #[(99 : UInt8), (116 : UInt8)])), D.v (Value.bool false), D.v (Value.string (dcd [AV.c (C.d (D.v (Value.int IntKind.i64
 (SBay.ct b))))])), D.v (Value.bool false)] ((1 : Nat) + (1 : Nat))), D.v (Value.bool false), D.v (Value.slice none (0 : Nat) (0 : Nat))] ((3 : Nat) + (1 : Nat)))) x2 x2_2 x3 x3_2
 true else none) else none) := by kernel_rfl
set_option maxRecDepth 100000 in
theorem stbyi_10 (okd : List AV → Bool) (dcd : List AV → ByteArray) (s : SSta) (b : SBay) (g m : Nat) (n4 : Nat) (f4 : Nat → List D) (x2 : Int) (x2_2 : Bool) (x3 : Int) (x3_2 : D) (x3_3 : Bool) : Lbyi_10 okd dcd s b g (m + 1) n4 f4 x2 x2_2 x3 x3_2 x3_3 =
 (bif SBay.kind b != (3 : Int) then (bif okd [AV.c (C.d (D.v (Value.int IntKind.i64 (SBay.vt b))))] then (bif decide ((n4 + (1 : Nat)) * (64 : Nat) ≤ (140737488355328 : Nat)) &&
 decide (n4 + (1 : Nat) ≤ (9223372036854775807 : Nat)) then Lbyi_12 okd dcd s b g g (n4 + (1 : Nat)) (appF n4 f4 (chunk [D.v (Value.int IntKind.i64 (0 : Int)), D.sl ((1 : Nat) + (1 :
 Nat)) ((0 : Nat) + (1 : Nat) + (1 : Nat)) (chunk [D.v (Value.string (ByteArray.mk #[(118 : UInt8), (116 : UInt8)])), D.v (Value.bool false), D.v (Value.string (dcd [AV.c (C.d (D.v
 (Value.int IntKind.i64 (SBay.vt b))))])), D.v (Value.bool false)] ((1 : Nat) + (1 : Nat))), D.v (Value.bool false), D.v (Value.slice none (0 : Nat) (0 : Nat))] ((3 : Nat) + (1 :
 Nat)))) x2 x2_2 x3 x3_2 x3_3 else none) else none) else Lbyi_12 okd dcd s b g g n4 f4 x2 x2_2 x3 x3_2 x3_3) := by kernel_rfl
set_option maxRecDepth 100000 in
theorem stbyi_12 (okd : List AV → Bool) (dcd : List AV → ByteArray) (s : SSta) (b : SBay) (g m : Nat) (n4 : Nat) (f4 : Nat → List D) (x2 : Int) (x2_2 : Bool) (x3 : Int) (x3_2 : D) (x3_3 : Bool) : Lbyi_12 okd dcd s b g (m + 1) n4 f4 x2 x2_2 x3 x3_2 x3_3 =
 (bif SBay.sat b != (0 : Int) then (bif okd [AV.c (C.d (D.v (Value.int IntKind.i64 (SBay.sat b))))] then (bif decide ((n4 + (1 : Nat)) * (64 : Nat) ≤ (140737488355328 : Nat)) &&
 decide (n4 + (1 : Nat) ≤ (9223372036854775807 : Nat)) then Lbyi_14 okd dcd s b g g (n4 + (1 : Nat)) (appF n4 f4 (chunk [D.v (Value.int IntKind.i64 (0 : Int)), D.sl ((1 : Nat) + (1 :
 Nat)) ((0 : Nat) + (1 : Nat) + (1 : Nat)) (chunk [D.v (Value.string (ByteArray.mk #[(115 : UInt8), (97 : UInt8), (116 : UInt8)])), D.v (Value.bool false), D.v (Value.string (dcd
 [AV.c (C.d (D.v (Value.int IntKind.i64 (SBay.sat b))))])), D.v (Value.bool false)] ((1 : Nat) + (1 : Nat))), D.v (Value.bool false), D.v (Value.slice none (0 : Nat) (0 : Nat))] ((3
 : Nat) + (1 : Nat)))) x2 x2_2 x3 x3_2 x3_3 else none) else none) else Lbyi_14 okd dcd s b g g n4 f4 x2 x2_2 x3 x3_2 x3_3) := by kernel_rfl
set_option maxRecDepth 100000 in
theorem stbyi_14 (okd : List AV → Bool) (dcd : List AV → ByteArray) (s : SSta) (b : SBay) (g m : Nat) (n4 : Nat) (f4 : Nat → List D) (x2 : Int) (x2_2 : Bool) (x3 : Int) (x3_2 : D) (x3_3 : Bool) : Lbyi_14 okd dcd s b g (m + 1) n4 f4 x2 x2_2 x3 x3_2 x3_3 =
 (bif okd [AV.c (C.d (D.v (Value.int IntKind.i64 (SBay.travel b))))] then (bif decide ((n4 + (1 : Nat)) * (64 : Nat) ≤ (140737488355328 : Nat)) && decide (n4 + (1 : Nat) ≤
 (9223372036854775807 : Nat)) then Lbyi_16 okd dcd s b g g (n4 + (1 : Nat)) (appF n4 f4 (chunk [D.v (Value.int IntKind.i64 (0 : Int)), D.sl ((1 : Nat) + (1 : Nat)) ((0 : Nat) + (1 :
 Nat) + (1 : Nat)) (chunk [D.v (Value.string (ByteArray.mk #[(116 : UInt8), (114 : UInt8), (97 : UInt8), (118 : UInt8), (101 : UInt8), (108 : UInt8)])), D.v (Value.bool false), D.v
 (Value.string (dcd [AV.c (C.d (D.v (Value.int IntKind.i64 (SBay.travel b))))])), D.v (Value.bool false)] ((1 : Nat) + (1 : Nat))), D.v (Value.bool false), D.v (Value.slice none (0 :
 Nat) (0 : Nat))] ((3 : Nat) + (1 : Nat)))) ((0 : Int)) x2 x2_2 x3 x3_2 x3_3 else none) else none) := by kernel_rfl
set_option maxRecDepth 100000 in
theorem stbyi_16 (okd : List AV → Bool) (dcd : List AV → ByteArray) (s : SSta) (b : SBay) (g m : Nat) (n4 : Nat) (f4 : Nat → List D) (i6 : Int) (x2 : Int) (x2_2 : Bool) (x3 : Int) (x3_2 : D) (x3_3 : Bool) : Lbyi_16 okd dcd s b g (m + 1) n4 f4 i6 x2 x2_2 x3 x3_2 x3_3 =
 (bif decide (i6 < (↑(List.length (SBay.links b)) : Int)) then (bif decide ((0 : Int) ≤ i6) && decide (i6 < (↑(List.length (SBay.links b)) : Int)) then (bif SLink.pos (List.getD
 (SBay.links b) (Int.toNat i6) link0) == (1 : Int) then (bif decide ((0 : Int) ≤ i6) && decide (i6 < (↑(List.length (SBay.links b)) : Int)) then (bif decide ((0 : Int) ≤ SLink.bus
 (List.getD (SBay.links b) (Int.toNat i6) link0)) && decide (SLink.bus (List.getD (SBay.links b) (Int.toNat i6) link0) < (↑(List.length (SSta.buses s)) : Int)) then (bif decide ((n4
 + (1 : Nat)) * (64 : Nat) ≤ (140737488355328 : Nat)) && decide (n4 + (1 : Nat) ≤ (9223372036854775807 : Nat)) then Lbyi_16 okd dcd s b g m (n4 + (1 : Nat)) (appF n4 f4 (chunk [D.v
 (Value.int IntKind.i64 (0 : Int)), D.sl ((1 : Nat) + (1 : Nat)) ((0 : Nat) + (1 : Nat) + (1 : Nat) + (1 : Nat)) (chunk [D.v (Value.string (ByteArray.mk #[(115 : UInt8), (101 :
 UInt8), (108 : UInt8), (101 : UInt8), (99 : UInt8), (116 : UInt8)])), D.v (Value.bool false), dS (List.getD (SSta.buses s) (Int.toNat (SLink.bus (List.getD (SBay.links b) (Int.toNat
 i6) link0))) e0), D.v (Value.bool false), D.v (Value.string (ByteArray.mk #[(99 : UInt8), (108 : UInt8), (111 : UInt8), (115 : UInt8), (101 : UInt8), (100 : UInt8)])), D.v
 (Value.bool false)] ((1 : Nat) + (1 : Nat))), D.v (Value.bool false), D.v (Value.slice none (0 : Nat) (0 : Nat))] ((3 : Nat) + (1 : Nat)))) (IntKind.wrap IntKind.i64 (i6 + (1 :
 Int))) x2 x2_2 x3 x3_2 x3_3 else none) else none) else none) else (bif decide ((0 : Int) ≤ i6) && decide (i6 < (↑(List.length (SBay.links b)) : Int)) then (bif decide ((0 : Int) ≤
 SLink.bus (List.getD (SBay.links b) (Int.toNat i6) link0)) && decide (SLink.bus (List.getD (SBay.links b) (Int.toNat i6) link0) < (↑(List.length (SSta.buses s)) : Int)) then (bif
 decide ((n4 + (1 : Nat)) * (64 : Nat) ≤ (140737488355328 : Nat)) && decide (n4 + (1 : Nat) ≤ (9223372036854775807 : Nat)) then Lbyi_16 okd dcd s b g m (n4 + (1 : Nat)) (appF n4 f4
 (chunk [D.v (Value.int IntKind.i64 (0 : Int)), D.sl ((1 : Nat) + (1 : Nat)) ((0 : Nat) + (1 : Nat) + (1 : Nat) + (1 : Nat)) (chunk [D.v (Value.string (ByteArray.mk #[(115 : UInt8),
 (101 : UInt8), (108 : UInt8), (101 : UInt8), (99 : UInt8), (116 : UInt8)])), D.v (Value.bool false), dS (List.getD (SSta.buses s) (Int.toNat (SLink.bus (List.getD (SBay.links b)
 (Int.toNat i6) link0))) e0), D.v (Value.bool false), D.v (Value.string (ByteArray.mk #[(111 : UInt8), (112 : UInt8), (101 : UInt8), (110 : UInt8)])), D.v (Value.bool false)] ((1 :
 Nat) + (1 : Nat))), D.v (Value.bool false), D.v (Value.slice none (0 : Nat) (0 : Nat))] ((3 : Nat) + (1 : Nat)))) (IntKind.wrap IntKind.i64 (i6 + (1 : Int))) x2 x2_2 x3 x3_2 x3_3
 else none) else none) else none)) else none) else (bif !SBay.closed b then (bif decide ((n4 + (1 : Nat)) * (64 : Nat) ≤ (140737488355328 : Nat)) && decide (n4 + (1 : Nat) ≤
 (9223372036854775807 : Nat)) then some (T.leaf (AV.agg [C.d (D.v (Value.int IntKind.i64 x3)), C.d x3_2, C.d (D.v (Value.bool x3_3)), C.row ((0 : Nat)) ((4 : Nat)) (n4 + (1 : Nat))],
 [((0 : Nat), Blk.row (n4 + (1 : Nat)) (appF n4 f4 (chunk [D.v (Value.int IntKind.i64 (0 : Int)), D.sl ((1 : Nat) + (1 : Nat)) ((0 : Nat) + (1 : Nat) + (1 : Nat)) (chunk [D.v
 (Value.string (ByteArray.mk #[(98 : UInt8), (114 : UInt8), (101 : UInt8), (97 : UInt8), (107 : UInt8), (101 : UInt8), (114 : UInt8)])), D.v (Value.bool false), D.v (Value.string
 (ByteArray.mk #[(111 : UInt8), (112 : UInt8), (101 : UInt8), (110 : UInt8)])), D.v (Value.bool false)] ((1 : Nat) + (1 : Nat))), D.v (Value.bool false), D.v (Value.slice none (0 :
 Nat) (0 : Nat))] ((3 : Nat) + (1 : Nat)))) ((4 : Nat)) ((45 : Nat)))])) else none) else some (T.leaf (AV.agg [C.d (D.v (Value.int IntKind.i64 x3)), C.d x3_2, C.d (D.v (Value.bool
 x3_3)), C.row ((0 : Nat)) ((4 : Nat)) n4], [((0 : Nat), Blk.row n4 f4 ((4 : Nat)) ((45 : Nat)))])))) := by kernel_rfl
end Go.Proofs.Ythmapnolgdpkbaa.de
namespace Go.Proofs.Ythmapnolgdpkbaa.de
open Go.RowKit Go.Eb Go.Proofs.Ythmapnolgdpkbaa.st
set_option maxRecDepth 100000

/-! decimal -/
noncomputable def okD (n : Int) (x : List AV) : Bool := okG (en1 vI) (fun k => decide (0 ≤ k) && decide (k < n)) x
noncomputable def dcD (x : List AV) : ByteArray := dec (theT (en1 vI) x)
theorem okD_of {n k : Int} (h0 : 0 ≤ k) (h1 : k < n) : okD n [vI k] = true := okG_enc (en1_inj vI_inj) k (by simp [h0, h1])
theorem dcD_of (k : Int) : dcD [vI k] = dec k := by
  unfold dcD
  rw [show [vI k] = en1 vI k from rfl, theT_enc (en1_inj vI_inj)]
theorem digit_ok : ∀ n : Nat, n < 10 → cstrOk 1 (some (Blk.cells [C.d (D.v (Value.int IntKind.u8 (IntKind.wrap IntKind.u8 (IntKind.wrap IntKind.i64 ((48 : Int) + n)))))] 5)) = true ∧
    cstrS 1 (some (Blk.cells [C.d (D.v (Value.int IntKind.u8 (IntKind.wrap IntKind.u8 (IntKind.wrap IntKind.i64 ((48 : Int) + n)))))] 5)) = decB n := by
  intro n h
  rw [decB_lt h]
  match n, h with
  | 0, _ | 1, _ | 2, _ | 3, _ | 4, _ | 5, _ | 6, _ | 7, _ | 8, _ | 9, _ => exact ⟨by rfl, by rfl⟩
theorem tdiv10 (n : Nat) : Int.tdiv (n : Int) 10 = ((n / 10 : Nat) : Int) := by rw [Int.tdiv_eq_ediv_of_nonneg (by omega)]; omega
theorem tmod10 (n : Nat) : Int.tmod (n : Int) 10 = ((n % 10 : Nat) : Int) := by rw [Int.tmod_eq_emod_of_nonneg (by omega)]; omega
theorem dec_nat (n : Nat) : dec (n : Int) = decB n := rfl
theorem cdecN (n : Nat) (hb : n ≤ 4611686018427387904) : CX Try.prog 57 [vI n] [] (vS (dec n)) [] := by
  induction n using Nat.strongRecOn with
  | ind n ih =>
    have so : OrcS Try.prog (oDc (okD n) dcD) := by
      refine .cons (.t' (enc := en1 vI) (c := fun k => decide (0 ≤ k) && decide (k < (n : Int))) (r := fun k => vS (dec k)) fun k hk => ?_) .nil
      simp only [Bool.and_eq_true, decide_eq_true_eq] at hk
      obtain ⟨m, rfl⟩ := Int.eq_ofNat_of_zero_le hk.1
      exact ih m (by omega) (by omega)
    refine cx_of so.ok Try.func57 bdec rfl ((evdec (okD n) dcD n 1).trans ?_)
    rw [decide_eq_false (by omega : ¬ ((n : Int) < 0)), cond_false]
    by_cases h : n < 10
    · rw [decide_eq_false (by omega : ¬ ((n : Int) ≥ 10)), cond_false, (digit_ok n h).1, cond_true, (digit_ok n h).2, dec_nat]
    · rw [decide_eq_true (by omega : ((n : Int) ≥ 10)), cond_true, tdiv10, tmod10, wrap_id (by omega) (by omega)]
      have e1 : okD n [AV.c (C.d (D.v (Value.int IntKind.i64 ((n / 10 : Nat) : Int))))] = true := okD_of (by omega) (by omega)
      have e2 : okD n [AV.c (C.d (D.v (Value.int IntKind.i64 ((n % 10 : Nat) : Int))))] = true := okD_of (by omega) (by omega)
      have d1 : dcD [AV.c (C.d (D.v (Value.int IntKind.i64 ((n / 10 : Nat) : Int))))] = dec ((n / 10 : Nat) : Int) := dcD_of _
      have d2 : dcD [AV.c (C.d (D.v (Value.int IntKind.i64 ((n % 10 : Nat) : Int))))] = dec ((n % 10 : Nat) : Int) := dcD_of _
      have s1 := decB_size (n / 10)
      have s2 := decB_size (n % 10)
      rw [e1, e2, d1, d2, cond_true, cond_true, dec_nat, dec_nat, decide_eq_true (by omega), cond_true, dec_nat, decB_ge h]
theorem cdec (n : Int) (h0 : 0 ≤ n) (h1 : n ≤ 4611686018427387904) : CX Try.prog 57 [vI n] [] (vS (dec n)) [] := by
  obtain ⟨m, rfl⟩ := Int.eq_ofNat_of_zero_le h0
  exact cdecN m (by omega)
abbrev M12 : Int := 1000000000000
theorem sDc : OrcS Try.prog (oDc (okD M12) dcD) := .cons (.t' (enc := en1 vI) (c := fun k => decide (0 ≤ k) && decide (k < M12)) (r := fun k => vS (dec k)) fun k hk => by
  simp only [Bool.and_eq_true, decide_eq_true_eq] at hk
  exact cdec k hk.1 (by unfold M12 at hk; omega)) .nil
theorem sSay : OrcS Try.prog (oSay (okD M12) dcD) := .cons (.inl sDc Try.func40 (by kernel_rfl)) .nil
end Go.Proofs.Ythmapnolgdpkbaa.de
namespace Go.Proofs.Ythmapnolgdpkbaa.de
open Go.RowKit Go.Eb Go.Proofs.Ythmapnolgdpkbaa.st
set_option maxRecDepth 100000

def numOk (n : Int) : Prop := 0 ≤ n ∧ n < M12
theorem okN {n : Int} (h : numOk n) : okD M12 [AV.c (C.d (D.v (Value.int IntKind.i64 n)))] = true := okD_of h.1 h.2
theorem dcN (n : Int) : dcD [AV.c (C.d (D.v (Value.int IntKind.i64 n)))] = dec n := dcD_of n
structure BFit (s : SSta) (b : SBay) : Prop where
  off1 : b.kind = 1 → 0 ≤ b.off ∧ b.off < s.lines.length
  off2 : b.kind = 2 → 0 ≤ b.off ∧ b.off < s.srcs.length
  fin : numOk b.fin
  zr : numOk b.zr
  zx : numOk b.zx
  ct : numOk b.ct
  vt : numOk b.vt
  sat : numOk b.sat
  travel : numOk b.travel
  bus : ∀ k, k < b.links.length → 0 ≤ (b.links.getD k link0).bus ∧ (b.links.getD k link0).bus < s.buses.length
  len : b.links.length ≤ 100
theorem appOk5 {n : Nat} (h : n ≤ 5000) : (decide ((n + 1) * 64 ≤ 140737488355328) && decide (n + 1 ≤ 9223372036854775807)) = true := by
  rw [decide_eq_true (by omega), decide_eq_true (by omega)]; rfl
def leafB (w : D) (n : Nat) (f : Nat → List D) : Option (T (AV × Hp)) := some (T.leaf (AV.agg [.d (dI 0), .d w, .d (dB true), .row 0 4 n], [(0, Blk.row n f 4 45)]))
section
variable {s : SSta} {b : SBay} (h : BFit s b) (g : Nat) (hg : 200 < g) (x2 : Int) (x2' : Bool) (w : D)
include h
theorem t16 (m n : Nat) (f : Nat → List D) (bef : List It) (hn : n ≤ 100) (hm : b.links.length < m) (hr : RLe icells i0 n f bef) :
    ∃ n' f', RLe icells i0 n' f' (bef ++ b.links.map (encSel s.buses) ++ (bif !b.closed then [say [tBreaker, tOpen]] else [])) ∧ Lbyi_16 (okD M12) dcD s b g m n f 0 x2 x2' 0 w true = leafB w n' f' := by
  have hl := h.len
  obtain ⟨f', h1, h2⟩ := app_loop (L := fun m n f i => Lbyi_16 (okD M12) dcD s b g m n f i x2 x2' 0 w true)
    (K := fun n f => bif !b.closed then (bif decide ((n + (1 : Nat)) * (64 : Nat) ≤ (140737488355328 : Nat)) && decide (n + (1 : Nat) ≤ (9223372036854775807 : Nat)) then leafB w (n + 1) (appF n f (chunk (sayC [tBreaker, tOpen]) 4)) else none) else leafB w n f)
    (l := b.links) (d := link0) (c := icells) (d0 := i0) (ch := fun l => sayC [tSelect, s.buses.getD l.bus.toNat e0, bif l.pos == 1 then tClosed else tOpen]) (e := encSel s.buses) (sz := 4)
    (fun m k n f hk hn => by
      show Lbyi_16 (okD M12) dcD s b g (m + 1) n f k x2 x2' 0 w true = Lbyi_16 (okD M12) dcD s b g m (n + 1) _ _ x2 x2' 0 w true
      rw [stbyi_16]
      obtain ⟨b1, b2⟩ := h.bus k hk
      simp -implicitDefEqProofs only [lt1 hk, ge0, tn, tt, cond_true, nx hk (by omega), appOk5 hn, decide_eq_true b1, decide_eq_true b2]
      generalize Lbyi_16 (okD M12) dcD s b g m = LL
      cases ((b.links.getD k link0).pos == 1) <;> rfl)
    (fun m n f => by
      show Lbyi_16 (okD M12) dcD s b g (m + 1) n f (b.links.length : Int) x2 x2' 0 w true = _
      rw [stbyi_16, lt0 (Nat.lt_irrefl _)]
      rfl)
    (fun _ => rfl) (fun k _ => sayC_de _) m 0 n f bef (by omega) (by omega) (by omega) hr
  simp only [Nat.sub_zero, List.drop_zero] at h1 h2
  have h2 : Lbyi_16 (okD M12) dcD s b g m n f 0 x2 x2' 0 w true = _ := h2
  rw [h2]
  cases b.closed with
  | true => exact ⟨_, f', by simpa using h1, rfl⟩
  | false =>
    refine ⟨_, _, h1.app rfl (sayC_de [tBreaker, tOpen]), ?_⟩
    simp only [Bool.not_false, cond_true]
    rw [appOk5 (by omega)]; rfl
include hg
theorem t14 (n : Nat) (f : Nat → List D) (bef : List It) (hn : n ≤ 90) (hr : RLe icells i0 n f bef) :
    ∃ n' f', RLe icells i0 n' f' (bef ++ [say [tTravel, dec b.travel]] ++ b.links.map (encSel s.buses) ++ (bif !b.closed then [say [tBreaker, tOpen]] else [])) ∧ Lbyi_14 (okD M12) dcD s b g g n f x2 x2' 0 w true = leafB w n' f' := by
  have hl := h.len
  obtain ⟨m, rfl⟩ : ∃ m, g = m + 1 := ⟨g - 1, by omega⟩
  obtain ⟨n', f', h1, h2⟩ := t16 h (m + 1) x2 x2' w (m + 1) (n + 1) _ (bef ++ [say [tTravel, dec b.travel]]) (by omega) (by omega) (hr.app rfl (sayC_de _))
  refine ⟨n', f', h1, ?_⟩
  rw [stbyi_14, okN h.travel, dcN, cond_true, appOk5 (by omega), cond_true]
  exact h2
theorem t12 (n : Nat) (f : Nat → List D) (bef : List It) (hn : n ≤ 80) (hr : RLe icells i0 n f bef) :
    ∃ n' f', RLe icells i0 n' f' (bef ++ (bif b.sat != 0 then [say [tSat, dec b.sat]] else []) ++ [say [tTravel, dec b.travel]] ++ b.links.map (encSel s.buses) ++ (bif !b.closed then [say [tBreaker, tOpen]] else [])) ∧ Lbyi_12 (okD M12) dcD s b g g n f x2 x2' 0 w true = leafB w n' f' := by
  obtain ⟨m, rfl⟩ : ∃ m, g = m + 1 := ⟨g - 1, by omega⟩
  rw [stbyi_12, okN h.sat, dcN]
  cases (b.sat != 0) with
  | false =>
    obtain ⟨n', f', h1, h2⟩ := t14 h (m + 1) hg x2 x2' w n f bef (by omega) hr
    refine ⟨n', f', by simpa using h1, ?_⟩
    rw [cond_false]
    exact h2
  | true =>
    obtain ⟨n', f', h1, h2⟩ := t14 h (m + 1) hg x2 x2' w (n + 1) _ (bef ++ [say [tSat, dec b.sat]]) (by omega) (hr.app rfl (sayC_de _))
    refine ⟨n', f', h1, ?_⟩
    rw [cond_true, cond_true, appOk5 (by omega), cond_true]
    exact h2
theorem t10 (n : Nat) (f : Nat → List D) (bef : List It) (hn : n ≤ 70) (hr : RLe icells i0 n f bef) :
    ∃ n' f', RLe icells i0 n' f' (bef ++ (bif b.kind != 3 then [say [tVt, dec b.vt]] else []) ++ (bif b.sat != 0 then [say [tSat, dec b.sat]] else []) ++ [say [tTravel, dec b.travel]] ++ b.links.map (encSel s.buses) ++ (bif !b.closed then [say [tBreaker, tOpen]] else [])) ∧ Lbyi_10 (okD M12) dcD s b g g n f x2 x2' 0 w true = leafB w n' f' := by
  obtain ⟨m, rfl⟩ : ∃ m, g = m + 1 := ⟨g - 1, by omega⟩
  rw [stbyi_10, okN h.vt, dcN]
  cases (b.kind != 3) with
  | false =>
    obtain ⟨n', f', h1, h2⟩ := t12 h (m + 1) hg x2 x2' w n f bef (by omega) hr
    refine ⟨n', f', by simpa using h1, ?_⟩
    rw [cond_false]
    exact h2
  | true =>
    obtain ⟨n', f', h1, h2⟩ := t12 h (m + 1) hg x2 x2' w (n + 1) _ (bef ++ [say [tVt, dec b.vt]]) (by omega) (hr.app rfl (sayC_de _))
    refine ⟨n', f', h1, ?_⟩
    rw [cond_true, cond_true, appOk5 (by omega), cond_true]
    exact h2
theorem t8 : ∃ n' f', RLe icells i0 n' f' (bayK s b) ∧ Lbyi_8 (okD M12) dcD s b g g 0 (fun _ => []) x2 x2' 0 w false = leafB w n' f' := by
  obtain ⟨m, rfl⟩ : ∃ m, g = m + 1 := ⟨g - 1, by omega⟩
  obtain ⟨n', f', h1, h2⟩ := t10 h (m + 1) hg x2 x2' w (0 + 1) _ ([] ++ [say [tCt, dec b.ct]]) (by omega) ((RLe.nil (c := icells) (d0 := i0) fun _ => []).app rfl (sayC_de _))
  refine ⟨n', f', h1, ?_⟩
  rw [stbyi_8, okN h.ct, dcN, cond_true, appOk5 (by omega), cond_true]
  exact h2
end

theorem bayW_fix (s : SSta) (b : SBay) (l : List ByteArray) (hl : bayW s b = plainW l) : DE (wordsC l) (wordsD (bayW s b)) := hl ▸ wordsC_de l
theorem cbyi (s : SSta) (b : SBay) (h : BFit s b) : CX Try.prog 41 [aSta s, aBay b] [] (.agg [.d (dI 0), .d (wordsD (bayW s b)), .d (dB true), .d (kidsD (encBay s b))]) [] := by
  obtain ⟨g, hg⟩ : ∃ g, 200 < g := ⟨201, by omega⟩
  have fin : ∀ (l : List ByteArray), bayW s b = plainW l → callC Try.prog (oSay (okD M12) dcD) annbyi g Try.f41 (bodyOf Try.f41) [aSta s, aBay b] [] = Lbyi_8 (okD M12) dcD s b g g 0 (fun _ => []) 0 false 0 (wordsC l) false →
      CX Try.prog 41 [aSta s, aBay b] [] (.agg [.d (dI 0), .d (wordsD (bayW s b)), .d (dB true), .d (kidsD (encBay s b))]) [] := fun l hl he => by
    obtain ⟨n', f', h1, h2⟩ := t8 h g hg 0 false (wordsC l)
    have hc := (cr_of sSay.ok Try.func41 bbyi rfl (he.trans h2)).data (y := .agg [.d (dI 0), .d (wordsC l), .d (dB true), .d (.sl 4 n' f')]) rfl
    refine (CX.of_cr Try.func41 bbyi hc).le ?_ (.refl _)
    refine ale_of_des (a := [dI 0, wordsC l, dB true, .sl 4 n' f']) (b := [dI 0, wordsD (bayW s b), dB true, kidsD (encBay s b)]) (.cons (.refl _) (.cons (bayW_fix s b l hl) (.cons (.refl _) (.cons ?_ .nil))))
    exact (h1.de (sz := 4)).trans (itemsD_de (encBay s b))
  have ev := evbyi (okD M12) dcD s b g
  cases h1 : (b.kind == 1) with
  | true =>
    obtain ⟨o1, o2⟩ := h.off1 (by simpa using h1)
    refine fin [tBay', b.name, tLine', (s.lines.getD b.off.toNat line0).name, dec b.fin] (by unfold bayW; rw [h1]; rfl) (ev.trans ?_)
    rw [h1, cond_true, decide_eq_true o1, decide_eq_true o2, tt, cond_true, okN h.fin, cond_true, dcN]
    rfl
  | false =>
    cases h2 : (b.kind == 2) with
    | true =>
      obtain ⟨o1, o2⟩ := h.off2 (by simpa using h2)
      refine fin [tBay', b.name, tSource, (s.srcs.getD b.off.toNat src0).name] (by unfold bayW; rw [h1, h2]; rfl) (ev.trans ?_)
      rw [h1, cond_false, h2, cond_true, decide_eq_true o1, decide_eq_true o2, tt, cond_true]
      rfl
    | false =>
      refine fin [tBay', b.name, tCoupler, dec b.zr, dec b.zx] (by unfold bayW; rw [h1, h2]; rfl) (ev.trans ?_)
      rw [h1, cond_false, h2, cond_false, okN h.zr, cond_true, okN h.zx, cond_true, dcN, dcN]
      rfl
end Go.Proofs.Ythmapnolgdpkbaa.de
namespace Go.Proofs.Ythmapnolgdpkbaa.de
open Go.RowKit Go.Eb Go.Proofs.Ythmapnolgdpkbaa.st
set_option maxRecDepth 100000

structure LFit (l : SLine) : Prop where
  r1 : numOk l.r1
  x1 : numOk l.x1
  r0 : numOk l.r0
  x0 : numOk l.x0
structure GFit (l : SSrc) : Prop where
  emf : numOk l.emf
  r1 : numOk l.r1
  x1 : numOk l.x1
  r0 : numOk l.r0
  x0 : numOk l.x0
structure SFit (s : SSta) : Prop where
  lines : ∀ k, k < s.lines.length → LFit (s.lines.getD k line0)
  srcs : ∀ k, k < s.srcs.length → GFit (s.srcs.getD k src0)
  bays : ∀ k, k < s.bays.length → BFit s (s.bays.getD k bay0)
  nb : s.buses.length ≤ 900
  nl : s.lines.length ≤ 900
  ns : s.srcs.length ≤ 900
  nq : s.bays.length ≤ 900
noncomputable def bFit (a : SSta × SBay) : Bool := @decide (BFit a.1 a.2) (Classical.propDecidable _)
theorem bFit_iff {a : SSta × SBay} : bFit a = true ↔ BFit a.1 a.2 := by unfold bFit; simp
theorem aBay_inj : InjA aBay := aG_inj bayC_inj
abbrev eSB := en2 aSta aBay
theorem eSB_inj : InjT eSB := en2_inj aSta_inj aBay_inj
noncomputable abbrev OEn : Orc := oEn (okD M12) dcD (okG (en1 aSta) okSta) (fun x => chkSta (theT (en1 aSta) x)) (okG eSB bFit) (fun x => wordsD (bayW (theT eSB x).1 (theT eSB x).2)) (fun x => kidsD (encBay (theT eSB x).1 (theT eSB x).2))
theorem sEn (hck : ∀ s, okSta s = true → CX Try.prog 8 [aSta s] [] (vI (chkSta s)) []) : OrcS Try.prog OEn :=
  .cons (.t' (r := fun a => vI (chkSta a)) fun a h => hck a h) (.cons (.t' (enc := eSB) (c := bFit) (r := fun a => .agg [.d (dI 0), .d (wordsD (bayW a.1 a.2)), .d (dB true), .d (kidsD (encBay a.1 a.2))]) fun a h => cbyi a.1 a.2 (bFit_iff.1 h)) sSay)
section
variable {s : SSta} (hs : SFit s) (g : Nat) (hg : 6000 < g)
include hs hg
noncomputable abbrev L5 (s : SSta) (g m n : Nat) (f : Nat → List D) (i : Int) := Lenc_5 (okD M12) dcD (okG (en1 aSta) okSta) (fun x => chkSta (theT (en1 aSta) x)) (okG eSB bFit) (fun x => wordsD (bayW (theT eSB x).1 (theT eSB x).2)) (fun x => kidsD (encBay (theT eSB x).1 (theT eSB x).2)) s g m n f i
noncomputable abbrev L9 (s : SSta) (g m n : Nat) (f : Nat → List D) (i : Int) := Lenc_9 (okD M12) dcD (okG (en1 aSta) okSta) (fun x => chkSta (theT (en1 aSta) x)) (okG eSB bFit) (fun x => wordsD (bayW (theT eSB x).1 (theT eSB x).2)) (fun x => kidsD (encBay (theT eSB x).1 (theT eSB x).2)) s g m n f i
noncomputable abbrev L14 (s : SSta) (g m n : Nat) (f : Nat → List D) (i : Int) := Lenc_14 (okD M12) dcD (okG (en1 aSta) okSta) (fun x => chkSta (theT (en1 aSta) x)) (okG eSB bFit) (fun x => wordsD (bayW (theT eSB x).1 (theT eSB x).2)) (fun x => kidsD (encBay (theT eSB x).1 (theT eSB x).2)) s g m n f i
noncomputable abbrev L19 (s : SSta) (g m n : Nat) (f : Nat → List D) (i : Int) := Lenc_19 (okD M12) dcD (okG (en1 aSta) okSta) (fun x => chkSta (theT (en1 aSta) x)) (okG eSB bFit) (fun x => wordsD (bayW (theT eSB x).1 (theT eSB x).2)) (fun x => kidsD (encBay (theT eSB x).1 (theT eSB x).2)) s g m n f i
def leafE (n : Nat) (f : Nat → List D) : Option (T (AV × Hp)) := some (T.leaf (AV.c (C.row 0 4 n), [(0, Blk.row n f 4 45)]))
theorem l19 (n : Nat) (f : Nat → List D) (bef : List It) (hn : n ≤ 4000) (hr : RLe icells i0 n f bef) : ∃ n' f', RLe icells i0 n' f' (bef ++ s.bays.map (encBay s)) ∧ L19 s g g n f 0 = leafE n' f' := by
  have hq := hs.nq
  obtain ⟨f', h1, h2⟩ := app_loop (L := fun m n f i => L19 s g m n f i) (K := leafE) (l := s.bays) (d := bay0) (c := icells) (d0 := i0) (ch := fun b => [dI 0, wordsD (bayW s b), dB true, kidsD (encBay s b)]) (e := encBay s) (sz := 4)
    (fun m k n f hk hn => by
      show L19 s g (m + 1) n f k = L19 s g m (n + 1) _ _
      unfold L19
      rw [stenc_19]
      have e1 : okG eSB bFit [AV.agg (List.map C.d (staC s)), AV.agg (List.map C.d (bayC (List.getD s.bays (Int.toNat (k : Int)) bay0)))] = true := by
        rw [tn]
        exact okG_enc eSB_inj (s, s.bays.getD k bay0) (bFit_iff.2 (hs.bays k hk))
      have e2 : theT eSB [AV.agg (List.map C.d (staC s)), AV.agg (List.map C.d (bayC (List.getD s.bays (Int.toNat (k : Int)) bay0)))] = (s, s.bays.getD k bay0) := by
        rw [tn]
        exact theT_enc eSB_inj (s, s.bays.getD k bay0)
      rw [e1, e2]
      simp -implicitDefEqProofs only [lt1 hk, ge0, tt, cond_true, nx hk (by omega), appOk5 hn])
    (fun m n f => by
      show L19 s g (m + 1) n f (s.bays.length : Int) = _
      unfold L19
      rw [stenc_19, lt0 (Nat.lt_irrefl _), cond_false]
      rfl)
    (fun _ => rfl) (fun k hk => bayC_de (x := encBay s (s.bays.getD k bay0)) rfl rfl (.refl _) (.refl _)) g 0 n f bef (by omega) (by omega) (by omega) hr
  simp only [Nat.sub_zero, List.drop_zero] at h1 h2
  exact ⟨_, f', h1, h2⟩
theorem l14 (n : Nat) (f : Nat → List D) (bef : List It) (hn : n ≤ 3000) (hr : RLe icells i0 n f bef) : ∃ n' f', RLe icells i0 n' f' (bef ++ s.srcs.map encSrc ++ s.bays.map (encBay s)) ∧ L14 s g g n f 0 = leafE n' f' := by
  have hq := hs.ns
  obtain ⟨f', h1, h2⟩ := app_loop (L := fun m n f i => L14 s g m n f i) (K := fun n f => L19 s g g n f 0) (l := s.srcs) (d := src0) (c := icells) (d0 := i0) (ch := fun l => sayC [tSource, l.name, dec l.emf, dec l.r1, dec l.x1, dec l.r0, dec l.x0]) (e := encSrc) (sz := 4)
    (fun m k n f hk hn => by
      show L14 s g (m + 1) n f k = L14 s g m (n + 1) _ _
      unfold L14
      have hf := hs.srcs k hk
      rw [stenc_14]
      simp -implicitDefEqProofs only [lt1 hk, ge0, tn, tt, cond_true, nx hk (by omega), appOk5 hn, okN hf.emf, okN hf.r1, okN hf.x1, okN hf.r0, okN hf.x0, dcN]
      generalize Lenc_14 (okD M12) dcD (okG (en1 aSta) okSta) (fun x => chkSta (theT (en1 aSta) x)) (okG eSB bFit) (fun x => wordsD (bayW (theT eSB x).1 (theT eSB x).2)) (fun x => kidsD (encBay (theT eSB x).1 (theT eSB x).2)) s g m = LL
      rfl)
    (fun m n f => by
      show L14 s g (m + 1) n f (s.srcs.length : Int) = _
      unfold L14
      rw [stenc_14, lt0 (Nat.lt_irrefl _), cond_false])
    (fun _ => rfl) (fun k _ => sayC_de _) g 0 n f bef (by omega) (by omega) (by omega) hr
  simp only [Nat.sub_zero, List.drop_zero] at h1 h2
  obtain ⟨n2, f2, k1, k2⟩ := l19 hs g hg _ f' _ (by omega) h1
  exact ⟨n2, f2, k1, h2.trans k2⟩
theorem l9 (n : Nat) (f : Nat → List D) (bef : List It) (hn : n ≤ 2000) (hr : RLe icells i0 n f bef) : ∃ n' f', RLe icells i0 n' f' (bef ++ s.lines.map encLine ++ s.srcs.map encSrc ++ s.bays.map (encBay s)) ∧ L9 s g g n f 0 = leafE n' f' := by
  have hq := hs.nl
  obtain ⟨f', h1, h2⟩ := app_loop (L := fun m n f i => L9 s g m n f i) (K := fun n f => L14 s g g n f 0) (l := s.lines) (d := line0) (c := icells) (d0 := i0) (ch := fun l => sayC [tLine', l.name, dec l.r1, dec l.x1, dec l.r0, dec l.x0]) (e := encLine) (sz := 4)
    (fun m k n f hk hn => by
      show L9 s g (m + 1) n f k = L9 s g m (n + 1) _ _
      unfold L9
      have hf := hs.lines k hk
      rw [stenc_9]
      simp -implicitDefEqProofs only [lt1 hk, ge0, tn, tt, cond_true, nx hk (by omega), appOk5 hn, okN hf.r1, okN hf.x1, okN hf.r0, okN hf.x0, dcN]
      generalize Lenc_9 (okD M12) dcD (okG (en1 aSta) okSta) (fun x => chkSta (theT (en1 aSta) x)) (okG eSB bFit) (fun x => wordsD (bayW (theT eSB x).1 (theT eSB x).2)) (fun x => kidsD (encBay (theT eSB x).1 (theT eSB x).2)) s g m = LL
      rfl)
    (fun m n f => by
      show L9 s g (m + 1) n f (s.lines.length : Int) = _
      unfold L9
      rw [stenc_9, lt0 (Nat.lt_irrefl _), cond_false])
    (fun _ => rfl) (fun k _ => sayC_de _) g 0 n f bef (by omega) (by omega) (by omega) hr
  simp only [Nat.sub_zero, List.drop_zero] at h1 h2
  obtain ⟨n2, f2, k1, k2⟩ := l14 hs g hg _ f' _ (by omega) h1
  exact ⟨n2, f2, k1, h2.trans k2⟩
theorem l5 (n : Nat) (f : Nat → List D) (bef : List It) (hn : n ≤ 1000) (hr : RLe icells i0 n f bef) : ∃ n' f', RLe icells i0 n' f' (bef ++ s.buses.map encBus ++ s.lines.map encLine ++ s.srcs.map encSrc ++ s.bays.map (encBay s)) ∧ L5 s g g n f 0 = leafE n' f' := by
  have hq := hs.nb
  obtain ⟨f', h1, h2⟩ := app_loop (L := fun m n f i => L5 s g m n f i) (K := fun n f => L9 s g g n f 0) (l := s.buses) (d := e0) (c := icells) (d0 := i0) (ch := fun x => sayC [tBus', x]) (e := encBus) (sz := 4)
    (fun m k n f hk hn => by
      show L5 s g (m + 1) n f k = L5 s g m (n + 1) _ _
      unfold L5
      rw [stenc_5]
      simp -implicitDefEqProofs only [lt1 hk, ge0, tn, tt, cond_true, nx hk (by omega), appOk5 hn]
      generalize Lenc_5 (okD M12) dcD (okG (en1 aSta) okSta) (fun x => chkSta (theT (en1 aSta) x)) (okG eSB bFit) (fun x => wordsD (bayW (theT eSB x).1 (theT eSB x).2)) (fun x => kidsD (encBay (theT eSB x).1 (theT eSB x).2)) s g m = LL
      rfl)
    (fun m n f => by
      show L5 s g (m + 1) n f (s.buses.length : Int) = _
      unfold L5
      rw [stenc_5, lt0 (Nat.lt_irrefl _), cond_false])
    (fun _ => rfl) (fun k _ => sayC_de _) g 0 n f bef (by omega) (by omega) (by omega) hr
  simp only [Nat.sub_zero, List.drop_zero] at h1 h2
  obtain ⟨n2, f2, k1, k2⟩ := l9 hs g hg _ f' _ (by omega) h1
  exact ⟨n2, f2, k1, h2.trans k2⟩
end

theorem cenc (hck : ∀ s, okSta s = true → CX Try.prog 8 [aSta s] [] (vI (chkSta s)) []) (s : SSta) (ho : okSta s = true) (h0 : chkSta s = 0) (hs : SFit s) : CX Try.prog 17 [aSta s] [] (.c (.d (itemsD (encSta s)))) [] := by
  obtain ⟨g, hg⟩ : ∃ g, 6000 < g := ⟨6001, by omega⟩
  have ev := evenc (okD M12) dcD (okG (en1 aSta) okSta) (fun x => chkSta (theT (en1 aSta) x)) (okG eSB bFit) (fun x => wordsD (bayW (theT eSB x).1 (theT eSB x).2)) (fun x => kidsD (encBay (theT eSB x).1 (theT eSB x).2)) s g
  have e1 : okG (en1 aSta) okSta [AV.agg (List.map C.d (staC s))] = true := okG_enc (en1_inj aSta_inj) s ho
  have e2 : theT (en1 aSta) [AV.agg (List.map C.d (staC s))] = s := theT_enc (en1_inj aSta_inj) s
  rw [e1, e2, h0] at ev
  simp only [cond_true, bne_self_eq_false, cond_false] at ev
  obtain ⟨n', f', h1, h2⟩ := l5 hs g hg 1 _ [say [tStation, s.name]] (by omega) (.one (sz := 4) rfl (sayC_de [tStation, s.name]))
  have hc := (cr_of (sEn hck).ok Try.func17 benc rfl (ev.trans h2)).data (y := .c (.d (.sl 4 n' f'))) rfl
  refine (CX.of_cr Try.func17 benc hc).le ?_ (.refl _)
  exact h1.de (sz := 4)
end Go.Proofs.Ythmapnolgdpkbaa.de
namespace Go.Proofs.Ythmapnolgdpkbaa.de
open Go.RowKit Go.Eb Go.Proofs.Ythmapnolgdpkbaa.st
open Go.Proofs.Ythmapnolgdpkbaa.wd (numS rN c11)
set_option maxRecDepth 100000

def formS : List Wd → List UInt8 → List Int × Bool
  | [], _ => ([], true)
  | w :: r, ks => bif w.q then ([], false) else bif ((ks.headD 0).toNat : Int) != 110 then formS r ks.tail else bif !(numS w.text).2 then ([], false) else ((numS w.text).1 :: (formS r ks.tail).1, (formS r ks.tail).2)
abbrev intC (n : Int) : List D := [dI n]
abbrev intsD (l : List Int) : D := .sl 1 l.length fun i => [dI (l.getD i 0)]
def noF : Option (T (AV × Hp)) := some (T.leaf (AV.tup [(false, [C.d (D.v (Value.slice none 0 0))]), (false, [C.d (D.v (Value.bool false))])], []))
def okF (n : Nat) (f : Nat → List D) : Option (T (AV × Hp)) := some (T.leaf (AV.tup [(false, [C.row 0 1 n]), (false, [C.d (D.v (Value.bool true))])], [(0, Blk.row n f 1 3)]))
theorem appOk8 {n : Nat} (h : n ≤ 5000) : (decide ((n + 1) * 8 ≤ 140737488355328) && decide (n + 1 ≤ 9223372036854775807)) = true := by
  rw [decide_eq_true (by omega), decide_eq_true (by omega)]; rfl
theorem drop_head {l : List UInt8} {k : Nat} : (l.drop k).headD 0 = l.getD k 0 := by
  rw [List.headD_eq_head?_getD, List.head?_drop, List.getD_eq_getElem?_getD]
theorem lpfrm (x : It) (ks : ByteArray) (b : Bool) (hl : x.words.length = ks.size) (h5 : x.words.length ≤ 2000) (g : Nat) : ∀ (m k n : Nat) (f : Nat → List D) (bef : List Int), k ≤ x.words.length → x.words.length - k < m → n ≤ k → RLe intC 0 n f bef →
    ∃ n' f', ((formS (x.words.drop k) (ks.data.toList.drop k)).2 = true → RLe intC 0 n' f' (bef ++ (formS (x.words.drop k) (ks.data.toList.drop k)).1)) ∧
      Lfrm_5 numS x ks b g m n f k = bif (formS (x.words.drop k) (ks.data.toList.drop k)).2 then okF n' f' else noF := by
  intro m
  induction m with
  | zero => intro k n f bef _ h; omega
  | succ m ih =>
    intro k n f bef hk hm hn hr
    rw [stfrm_5]
    by_cases hlt : k < x.words.length
    · have hks : decide ((k : Int) < (ks.size : Int)) = true := lt1 (by omega)
      rw [drop_at' (d := w0) hlt]
      unfold formS
      simp -implicitDefEqProofs only [lt1 hlt, hks, ge0, tn, tt, cond_true, nx hlt (by omega), appOk8 (show n ≤ 5000 by omega)]
      cases hq : (x.words.getD k w0).q with
      | true => exact ⟨n, f, (fun h => by cases h), rfl⟩
      | false =>
        rw [drop_head, List.tail_drop]
        simp only [cond_false]
        cases h110 : (((ks.data.toList.getD k 0).toNat : Int) != 110) with
        | true =>
          obtain ⟨n', f', h1, h2⟩ := ih (k + 1) n f bef (by omega) (by omega) (by omega) hr
          simp only [cond_true]
          exact ⟨n', f', h1, h2⟩
        | false =>
          simp only [cond_false]
          cases hnu : (numS (x.words.getD k w0).text).2 with
          | false => exact ⟨n, f, (fun h => by cases h), rfl⟩
          | true =>
            obtain ⟨n', f', h1, h2⟩ := ih (k + 1) (n + 1) (appF n f (chunk [dI (numS (x.words.getD k w0).text).1] 1)) (bef ++ [(numS (x.words.getD k w0).text).1]) (by omega) (by omega) (by omega) (hr.app rfl (.refl _))
            simp only [Bool.not_true, cond_false]
            refine ⟨n', f', fun h => ?_, h2⟩
            have := h1 h
            simpa using this
    · rw [lt0 hlt, List.drop_of_length_le (by omega)]
      exact ⟨n, f, fun _ => by simpa [formS] using hr, rfl⟩
def formR (x : It) (ks : ByteArray) (b : Bool) : List Int × Bool := bif ((x.words.length : Int) != (ks.size : Int)) then ([], false) else bif !x.block == b then ([], false) else bif (formS x.words ks.data.toList).2 then formS x.words ks.data.toList else ([], false)
theorem sNu : OrcS Try.prog (oNu numS) := .cons (.p decS_ok c11) .nil
abbrev aForm (l : List Int) (o : Bool) : AV := .tup [(false, [.d (intsD l)]), (false, [.d (dB o)])]
theorem ale2 {a b c d : D} (h : DE a b) (k : DE c d) : Ale (.tup [(false, [.d a]), (false, [.d c])]) (.tup [(false, [.d b]), (false, [.d d])]) := by
  refine ⟨rfl, fun j p q h1 h2 => ?_⟩
  match j with
  | 0 => simp at h1 h2; subst h1 h2; exact ⟨rfl, .cons h .nil⟩
  | 1 => simp at h1 h2; subst h1 h2; exact ⟨rfl, .cons k .nil⟩
  | j + 2 => simp at h1
theorem cfrm (x : It) (ks : ByteArray) (b : Bool) (h5 : x.words.length ≤ 2000) : CX Try.prog 73 [aIt x, vS ks, vB b] [] (aForm (formR x ks b).1 (formR x ks b).2) [] := by
  obtain ⟨g, hg⟩ : ∃ g, 3000 < g := ⟨3001, by omega⟩
  have ev := evfrm numS x ks b g
  have no : callC Try.prog (oNu numS) annfrm g Try.f73 (bodyOf Try.f73) [aIt x, vS ks, vB b] [] = noF → CX Try.prog 73 [aIt x, vS ks, vB b] [] (aForm [] false) [] := fun h => by
    refine (cx_of sNu.ok Try.func73 bfrm rfl h).le ?_ (.refl _)
    exact ale2 (.nil _ _) (.refl _)
  unfold formR
  cases h1 : ((x.words.length : Int) != (ks.size : Int)) with
  | true => rw [h1] at ev; exact no ev
  | false =>
    rw [h1] at ev
    simp only [cond_false] at ev ⊢
    cases h2 : (!x.block == b) with
    | true => rw [h2] at ev; exact no ev
    | false =>
      rw [h2] at ev
      simp only [cond_false] at ev ⊢
      have hl : x.words.length = ks.size := by
        have : (x.words.length : Int) = (ks.size : Int) := by simpa using h1
        omega
      obtain ⟨n', f', k1, k2⟩ := lpfrm x ks b hl h5 g g 0 0 _ [] (by omega) (by omega) (by omega) (.nil fun _ => [])
      simp only [List.drop_zero] at k1 k2
      have e := ev.trans k2
      cases h3 : (formS x.words ks.data.toList).2 with
      | false => rw [h3] at e; exact no e
      | true =>
        rw [h3] at e
        have hr := k1 h3
        have hc := (cr_of sNu.ok Try.func73 bfrm rfl e).data (y := .tup [(false, [.d (.sl 1 n' f')]), (false, [.d (dB true)])]) rfl
        simp only [cond_true]
        rw [h3]
        refine (CX.of_cr Try.func73 bfrm hc).le ?_ (.refl _)
        exact ale2 (hr.de (sz := 1)) (.refl _)
end Go.Proofs.Ythmapnolgdpkbaa.de
namespace Go.Proofs.Ythmapnolgdpkbaa.de
open Go.RowKit Go.Eb Go.Proofs.Ythmapnolgdpkbaa.st
set_option maxRecDepth 100000

/-- where a name is first -/
noncomputable def idxS {α : Type} (nm : α → ByteArray) (s : ByteArray) : List α → Int → Int
  | [], _ => -1
  | x :: r, k => bif same (nm x) s then k else idxS nm s r (k + 1)
theorem lpixl (l : List SLine) (x : It) (g : Nat) (hl : l.length ≤ 900) (h3 : 3 < x.words.length) : ∀ (m k : Nat), k ≤ l.length → l.length - k < m →
    Lixl_2 l x g m k = some (.leaf (vI (idxS SLine.name (x.words.getD 3 w0).text (l.drop k) k), [(0, .row l.length (fun i => lineC (l.getD i line0)) 5 58), (1, .cells ((icells x).map .d) 45)]))
  | 0, k, _, h => by omega
  | m + 1, k, hk, h => by
    rw [stixl_2]
    by_cases hlt : k < l.length
    · have ih := lpixl l x g hl h3 m (k + 1) (by omega) (by omega)
      have e3 : decide ((3 : Int) < (x.words.length : Int)) = true := decide_eq_true (by omega)
      have e0 : decide ((0 : Int) ≤ 3) = true := rfl
      have e4 : Int.toNat 3 = 3 := rfl
      rw [drop_at' (d := line0) hlt]
      simp -implicitDefEqProofs only [lt1 hlt, ge0, tn, tt, cond_true, nx hlt (by omega), e3, e0, e4, strEq, ih, idxS]
      cases same (l.getD k line0).name (x.words.getD 3 w0).text with
      | true => rfl
      | false => rfl
    · rw [lt0 hlt, List.drop_of_length_le (by omega)]
      rfl
theorem cixl (l : List SLine) (x : It) (hl : l.length ≤ 900) (h3 : 3 < x.words.length) : CX Try.prog 81 [.c (.row 0 5 l.length), .c (.fn 82 [] [.ptr 1 0])] [(0, .row l.length (fun i => lineC (l.getD i line0)) 5 58), (1, .cells ((icells x).map .d) 45)]
    (vI (idxS SLine.name (x.words.getD 3 w0).text l 0)) [(0, .row l.length (fun i => lineC (l.getD i line0)) 5 58), (1, .cells ((icells x).map .d) 45)] := by
  obtain ⟨g, hg⟩ : ∃ g, 1000 < g := ⟨1001, by omega⟩
  have so : OrcS Try.prog oH1 := .cons (.inl .nil Try.func82 (by kernel_rfl)) .nil
  have := lpixl l x g hl h3 g 0 (by omega) (by omega)
  rw [List.drop_zero] at this
  exact cx_of so.ok Try.func81 bixl rfl ((evixl l x g).trans this)
theorem lpixs (l : List SSrc) (x : It) (g : Nat) (hl : l.length ≤ 900) (h3 : 3 < x.words.length) : ∀ (m k : Nat), k ≤ l.length → l.length - k < m →
    Lixs_2 l x g m k = some (.leaf (vI (idxS SSrc.name (x.words.getD 3 w0).text (l.drop k) k), [(0, .row l.length (fun i => srcC' (l.getD i src0)) 6 61), (1, .cells ((icells x).map .d) 45)]))
  | 0, k, _, h => by omega
  | m + 1, k, hk, h => by
    rw [stixs_2]
    by_cases hlt : k < l.length
    · have ih := lpixs l x g hl h3 m (k + 1) (by omega) (by omega)
      have e3 : decide ((3 : Int) < (x.words.length : Int)) = true := decide_eq_true (by omega)
      have e0 : decide ((0 : Int) ≤ 3) = true := rfl
      have e4 : Int.toNat 3 = 3 := rfl
      rw [drop_at' (d := src0) hlt]
      simp -implicitDefEqProofs only [lt1 hlt, ge0, tn, tt, cond_true, nx hlt (by omega), e3, e0, e4, strEq, ih, idxS]
      cases same (l.getD k src0).name (x.words.getD 3 w0).text with
      | true => rfl
      | false => rfl
    · rw [lt0 hlt, List.drop_of_length_le (by omega)]
      rfl
theorem cixs (l : List SSrc) (x : It) (hl : l.length ≤ 900) (h3 : 3 < x.words.length) : CX Try.prog 83 [.c (.row 0 6 l.length), .c (.fn 84 [] [.ptr 1 0])] [(0, .row l.length (fun i => srcC' (l.getD i src0)) 6 61), (1, .cells ((icells x).map .d) 45)]
    (vI (idxS SSrc.name (x.words.getD 3 w0).text l 0)) [(0, .row l.length (fun i => srcC' (l.getD i src0)) 6 61), (1, .cells ((icells x).map .d) 45)] := by
  obtain ⟨g, hg⟩ : ∃ g, 1000 < g := ⟨1001, by omega⟩
  have so : OrcS Try.prog oH2 := .cons (.inl .nil Try.func84 (by kernel_rfl)) .nil
  have := lpixs l x g hl h3 g 0 (by omega) (by omega)
  rw [List.drop_zero] at this
  exact cx_of so.ok Try.func83 bixs rfl ((evixs l x g).trans this)
theorem lpixb (l : List ByteArray) (s : ByteArray) (g : Nat) (hl : l.length ≤ 900) : ∀ (m k : Nat), k ≤ l.length → l.length - k < m →
    Lixb_2 l s g m k = some (.leaf (vI (idxS id s (l.drop k) k), [(0, .row l.length (fun i => busC (l.getD i e0)) 1 9)]))
  | 0, k, _, h => by omega
  | m + 1, k, hk, h => by
    rw [stixb_2]
    by_cases hlt : k < l.length
    · have ih := lpixb l s g hl m (k + 1) (by omega) (by omega)
      have e5 : (s.toList == (l.getD k e0).toList) = same (l.getD k e0) s := by
        rw [strEq, Bool.eq_iff_iff, same_iff, same_iff]; exact ⟨fun h => h.symm, fun h => h.symm⟩
      rw [drop_at' (d := e0) hlt]
      simp -implicitDefEqProofs only [lt1 hlt, ge0, tn, tt, cond_true, nx hlt (by omega), e5, ih, idxS, id]
      cases same (l.getD k e0) s with
      | true => rfl
      | false => rfl
    · rw [lt0 hlt, List.drop_of_length_le (by omega)]
      rfl
theorem cixb (l : List ByteArray) (s : ByteArray) (hl : l.length ≤ 900) : CX Try.prog 87 [.c (.row 0 1 l.length), vS s] [(0, .row l.length (fun i => busC (l.getD i e0)) 1 9)] (vI (idxS id s l 0)) [(0, .row l.length (fun i => busC (l.getD i e0)) 1 9)] := by
  obtain ⟨g, hg⟩ : ∃ g, 1000 < g := ⟨1001, by omega⟩
  have := lpixb l s g hl g 0 (by omega) (by omega)
  rw [List.drop_zero] at this
  exact cx_of (Orc.nil_ok _) Try.func87 bixb rfl ((evixb l s g).trans this)
end Go.Proofs.Ythmapnolgdpkbaa.de
namespace Go.Proofs.Ythmapnolgdpkbaa.de
open Go.RowKit Go.Eb Go.Proofs.Ythmapnolgdpkbaa.st
open Go.Proofs.Ythmapnolgdpkbaa.wd (numS rN c11)
set_option maxRecDepth 100000

theorem icells_inj (x y : It) (h : DEs (icells x) (icells y)) : x = y := by
  have e1 := de_v (h.2 0 _ _ rfl rfl)
  have e2 := wordsD_inj (h.2 1 _ _ rfl rfl)
  have e3 := de_v (h.2 2 _ _ rfl rfl)
  have e4 := kidsD_inj x y (h.2 3 _ _ rfl rfl)
  rw [It.eta x, It.eta y, e2, e4]
  simp only [Value.int.injEq, Value.bool.injEq, true_and] at e1 e3
  rw [e1, e3]
theorem aIt_inj : InjA aIt := aG_inj icells_inj
instance : Inhabited It := ⟨i0⟩
noncomputable abbrev enF : It × ByteArray × Bool → List AV := en3 aIt vS vB
def cF (a : It × ByteArray × Bool) : Bool := decide (a.1.words.length ≤ 2000)
theorem enF_inj : InjT enF := en3_inj aIt_inj vS_inj vB_inj
noncomputable def rFm (x : List AV) : List Int × Bool := formR (theT enF x).1 (theT enF x).2.1 (theT enF x).2.2
theorem sFm {r : Orc} (hr : OrcS Try.prog r) : OrcS Try.prog (oFm (okG enF cF) (fun x => (rFm x).1.length) (fun x i => (rFm x).1.getD i 0) (fun x => (rFm x).2) r) :=
  .cons (AnsS.t' (r := fun a : It × ByteArray × Bool => aForm (formR a.1 a.2.1 a.2.2).1 (formR a.1 a.2.1 a.2.2).2) fun a h => cfrm a.1 a.2.1 a.2.2 (by unfold cF at h; exact of_decide_eq_true h)) hr
theorem fmo (x : It) (ks : ByteArray) (b : Bool) (h : x.words.length ≤ 2000) : okG enF cF [AV.agg (List.map C.d (icells x)), AV.c (C.d (D.v (Value.string ks))), AV.c (C.d (D.v (Value.bool b)))] = true := okG_enc enF_inj (x, ks, b) (by unfold cF; exact decide_eq_true h)
theorem fmr (x : It) (ks : ByteArray) (b : Bool) : rFm [AV.agg (List.map C.d (icells x)), AV.c (C.d (D.v (Value.string ks))), AV.c (C.d (D.v (Value.bool b)))] = formR x ks b := by
  have h : theT enF [AV.agg (List.map C.d (icells x)), AV.c (C.d (D.v (Value.string ks))), AV.c (C.d (D.v (Value.bool b)))] = (x, ks, b) := theT_enc enF_inj (x, ks, b)
  unfold rFm
  rw [h]

/-! rows that are a list's own row, to the letter -/
section
variable {β : Type} (c : β → List D) (d0 : β) (sz : Nat)
noncomputable def okC (n : Nat) (f : Nat → List D) : Bool := @decide (∃ l : List β, n = l.length ∧ l.length ≤ 900 ∧ f = fun i => c (l.getD i d0)) (Classical.propDecidable _)
noncomputable def theC (n : Nat) (f : Nat → List D) : List β := theE (listD sz c d0) (.sl sz n f)
variable {c d0 sz}
theorem theC_can (hc : ∀ a b, DEs (c a) (c b) → a = b) (l : List β) : theC c d0 sz l.length (fun i => c (l.getD i d0)) = l := (the_list hc l).2
theorem okC_can {l : List β} (h : l.length ≤ 900) : okC c d0 l.length (fun i => c (l.getD i d0)) = true := by
  unfold okC
  simp only [decide_eq_true_eq]
  exact ⟨l, rfl, h, rfl⟩
theorem okC_iff {n : Nat} {f : Nat → List D} (h : okC c d0 n f = true) : ∃ l : List β, n = l.length ∧ l.length ≤ 900 ∧ f = fun i => c (l.getD i d0) := by
  unfold okC at h
  simpa only [decide_eq_true_eq] using h
end
noncomputable def zS : KS where
  okf := okG enF cF
  fn := fun x => (rFm x).1.length
  fv := fun x i => (rFm x).1.getD i 0
  fo := fun x => (rFm x).2
  ob := fun a => okC busC e0 a.2.1.1 a.2.1.2 && Nat.beq a.1.1 a.2.1.1
  ib := fun a => idxS id a.1.2.1 (theC busC e0 1 a.2.1.1 a.2.1.2) 0
theorem sSt : OrcS Try.prog (oSt zS) := sFm (.cons (.inl (.cons (.d fun a h => by
  obtain ⟨⟨nk, s, ⟨⟩⟩, ⟨n, f⟩, ⟨⟩⟩ := a
  have h : (okC busC e0 n f && Nat.beq nk n) = true := h
  simp only [Bool.and_eq_true] at h
  obtain ⟨l, h1, h2, h3⟩ := okC_iff h.1
  have h4 := Nat.eq_of_beq_eq_true h.2
  subst h4 h1 h3
  have e : zS.ib ((l.length, s, ()), (l.length, fun i => busC (l.getD i e0)), ()) = idxS id s l 0 := by
    show idxS id s (theC busC e0 1 l.length fun i => busC (l.getD i e0)) 0 = _
    rw [theC_can busC_inj]
  show CX _ _ _ _ (vI (zS.ib ((l.length, s, ()), (l.length, fun i => busC (l.getD i e0)), ()))) _
  rw [e]
  exact cixb l s h2) .nil) Try.func85 (by kernel_rfl)) .nil)
theorem zo (x : It) (ks : ByteArray) (b : Bool) (h : x.words.length ≤ 2000) : KS.okf zS [AV.agg (List.map C.d (icells x)), AV.c (C.d (D.v (Value.string ks))), AV.c (C.d (D.v (Value.bool b)))] = true := fmo x ks b h
theorem zf (x : It) (ks : ByteArray) (b : Bool) : KS.fo zS [AV.agg (List.map C.d (icells x)), AV.c (C.d (D.v (Value.string ks))), AV.c (C.d (D.v (Value.bool b)))] = (formR x ks b).2 := by rw [← fmr]; rfl
theorem zn (x : It) (ks : ByteArray) (b : Bool) : KS.fn zS [AV.agg (List.map C.d (icells x)), AV.c (C.d (D.v (Value.string ks))), AV.c (C.d (D.v (Value.bool b)))] = (formR x ks b).1.length := by rw [← fmr]; rfl
theorem zv (x : It) (ks : ByteArray) (b : Bool) (i : Nat) : KS.fv zS [AV.agg (List.map C.d (icells x)), AV.c (C.d (D.v (Value.string ks))), AV.c (C.d (D.v (Value.bool b)))] i = (formR x ks b).1.getD i 0 := by rw [← fmr]; rfl
theorem form_wn (w t : ByteArray) (h : (numS t).2 = true) : formR (say [w, t]) (ByteArray.mk #[119, 110]) false = ([(numS t).1], true) := by
  have e : formS (say [w, t]).words (ByteArray.mk #[119, 110]).data.toList = ([(numS t).1], true) := by
    show (bif false then ([], false) else bif ((119 : Int) != 110) then (bif false then ([], false) else bif ((110 : Int) != 110) then (([] : List Int), true) else bif !(numS t).2 then ([], false) else ([(numS t).1], true)) else _) = _
    rw [h]; rfl
  unfold formR
  rw [e]; rfl
theorem form_ww (w t : ByteArray) : formR (say [w, t]) (ByteArray.mk #[119, 119]) false = ([], true) := rfl
theorem form_www (w t u : ByteArray) : formR (say [w, t, u]) (ByteArray.mk #[119, 119, 119]) false = ([], true) := rfl

section
variable (t : ByteArray) (s0 : ByteArray) (ka : Nat) (ga : Nat → List D) (kb : Nat) (gb : Nat → List D) (kc : Nat) (gc : Nat → List D) (kd : Nat) (gd : Nat → List D) (mpa : List (Value × Value)) (nd : Bool) (b : SBay) (kl : Nat) (gl : Nat → List D) (seen : List (Value × Value))
abbrev HS : Hp := [(0, .cells [.d (dS s0), .row 1 1 ka, .row 2 5 kb, .row 3 6 kc, .row 4 12 kd, .mp 5, .d (dB nd)] 87), (1, .row ka ga 1 9), (2, .row kb gb 5 58), (3, .row kc gc 6 61), (4, .row kd gd 12 54), (5, .map 0 mpa), (6, .cells [.d (dS b.name), .d (dI b.kind), .d (dI b.off), .d (dI b.fin), .d (dI b.zr), .d (dI b.zx), .row 7 2 kl, .d (dB b.closed), .d (dI b.ct), .d (dI b.vt), .d (dI b.sat), .d (dI b.travel)] 54), (7, .row kl gl 2 108), (8, .map 0 seen)]
abbrev HS' (f : Nat → List D) : Hp := [(0, .cells [.d (dS s0), .row 1 1 ka, .row 2 5 kb, .row 3 6 kc, .row 4 12 kd, .mp 5, .d (dB nd)] 87), (1, .row ka ga 1 9), (2, .row kb gb 5 58), (3, .row kc gc 6 61), (4, .row kd gd 12 54), (5, .map 0 mpa), (6, .cells [.d (dS b.name), .d (dI b.kind), .d (dI b.off), .d (dI b.fin), .d (dI b.zr), .d (dI b.zx), .row 9 2 (kl + 1), .d (dB b.closed), .d (dI b.ct), .d (dI b.vt), .d (dI b.sat), .d (dI b.travel)] 54), (7, .dead), (8, .map 0 seen), (9, .row (kl + 1) f 2 108)]
abbrev argS (y : It) : List AV := [.c (.ptr 0 0), aIt y, .c (.ptr 6 0), .c (.mp 8)]
theorem gct (hn : (numS t).2 = true) (hs : boolOf (assoc seen (.string tCt)) = false) : CX Try.prog 75 (argS (say [tCt, t])) (HS s0 ka ga kb gb kc gc kd gd mpa nd b kl gl seen) (vI 0) (HS s0 ka ga kb gb kc gc kd gd mpa nd { b with ct := (numS t).1 } kl gl seen) := by
  refine cx_of sSt.ok Try.func75 bsct rfl ((evsct zS t s0 ka ga kb gb kc gc kd gd mpa nd b kl gl seen 0).trans ?_)
  have e : (Wd.text (List.getD (It.words (say [tCt, t])) (Int.toNat (0 : Int)) w0)) = tCt := rfl
  rw [zo _ _ _ (by show 2 ≤ 2000; omega), zf, zn, zv, form_wn _ _ hn, e, hs]
  rfl
theorem gvt (hn : (numS t).2 = true) (hs : boolOf (assoc seen (.string tVt)) = false) : CX Try.prog 75 (argS (say [tVt, t])) (HS s0 ka ga kb gb kc gc kd gd mpa nd b kl gl seen) (vI 0) (HS s0 ka ga kb gb kc gc kd gd mpa nd { b with vt := (numS t).1 } kl gl seen) := by
  refine cx_of sSt.ok Try.func75 bsvt rfl ((evsvt zS t s0 ka ga kb gb kc gc kd gd mpa nd b kl gl seen 0).trans ?_)
  have e : (Wd.text (List.getD (It.words (say [tVt, t])) (Int.toNat (0 : Int)) w0)) = tVt := rfl
  rw [zo _ _ _ (by show 2 ≤ 2000; omega), zf, zn, zv, form_wn _ _ hn, e, hs]
  rfl
theorem gsa (hn : (numS t).2 = true) (hs : boolOf (assoc seen (.string tSat)) = false) : CX Try.prog 75 (argS (say [tSat, t])) (HS s0 ka ga kb gb kc gc kd gd mpa nd b kl gl seen) (vI 0) (HS s0 ka ga kb gb kc gc kd gd mpa nd { b with sat := (numS t).1 } kl gl seen) := by
  refine cx_of sSt.ok Try.func75 bssa rfl ((evssa zS t s0 ka ga kb gb kc gc kd gd mpa nd b kl gl seen 0).trans ?_)
  have e : (Wd.text (List.getD (It.words (say [tSat, t])) (Int.toNat (0 : Int)) w0)) = tSat := rfl
  rw [zo _ _ _ (by show 2 ≤ 2000; omega), zf, zn, zv, form_wn _ _ hn, e, hs]
  rfl
theorem gtr (hn : (numS t).2 = true) (hs : boolOf (assoc seen (.string tTravel)) = false) : CX Try.prog 75 (argS (say [tTravel, t])) (HS s0 ka ga kb gb kc gc kd gd mpa nd b kl gl seen) (vI 0) (HS s0 ka ga kb gb kc gc kd gd mpa nd { b with travel := (numS t).1 } kl gl seen) := by
  refine cx_of sSt.ok Try.func75 bstr rfl ((evstr zS t s0 ka ga kb gb kc gc kd gd mpa nd b kl gl seen 0).trans ?_)
  have e : (Wd.text (List.getD (It.words (say [tTravel, t])) (Int.toNat (0 : Int)) w0)) = tTravel := rfl
  rw [zo _ _ _ (by show 2 ≤ 2000; omega), zf, zn, zv, form_wn _ _ hn, e, hs]
  rfl
theorem gbr (hs : boolOf (assoc seen (.string tBreaker)) = false) : CX Try.prog 75 (argS (say [tBreaker, tOpen])) (HS s0 ka ga kb gb kc gc kd gd mpa nd b kl gl seen) (vI 0) (HS s0 ka ga kb gb kc gc kd gd mpa nd { b with closed := false } kl gl seen) := by
  refine cx_of sSt.ok Try.func75 bsbr rfl ((evsbr zS s0 ka ga kb gb kc gc kd gd mpa nd b kl gl seen 0).trans ?_)
  have e : (Wd.text (List.getD (It.words (say [tBreaker, tOpen])) (Int.toNat (0 : Int)) w0)) = tBreaker := rfl
  rw [zo _ _ _ (by show 2 ≤ 2000; omega), zf, form_ww, e, hs]
  rfl
theorem apOk16' (h : kl ≤ 5000) : (decide ((kl + 1) * 16 ≤ 140737488355328) && decide (kl + 1 ≤ 9223372036854775807)) = true := by
  rw [decide_eq_true (by omega), decide_eq_true (by omega)]; rfl
theorem zb (l : List ByteArray) (s : ByteArray) (h : l.length ≤ 900) : KS.ob zS ((l.length, s, ()), (l.length, fun i => busC (l.getD i e0)), ()) = true ∧ KS.ib zS ((l.length, s, ()), (l.length, fun i => busC (l.getD i e0)), ()) = idxS id s l 0 := by
  refine ⟨?_, ?_⟩
  · show (okC busC e0 l.length (fun i => busC (l.getD i e0)) && Nat.beq l.length l.length) = true
    rw [okC_can h, Nat.beq_refl]; rfl
  · show idxS id s (theC busC e0 1 l.length fun i => busC (l.getD i e0)) 0 = _
    rw [theC_can busC_inj]
theorem gsel1 (l : List ByteArray) (h9 : l.length ≤ 900) (hk : kl ≤ 5000) (hi : decide (idxS id t l 0 < 0) = false) : CX Try.prog 75 (argS (say [tSelect, t, tClosed])) (HS s0 l.length (fun i => busC (l.getD i e0)) kb gb kc gc kd gd mpa nd b kl gl seen) (vI 0) (HS' s0 l.length (fun i => busC (l.getD i e0)) kb gb kc gc kd gd mpa nd b kl seen (appF kl gl (chunk [dI (idxS id t l 0), dI 1] 2))) := by
  refine cx_of sSt.ok Try.func75 bsel1 rfl ((evsel1 zS t s0 l.length (fun i => busC (l.getD i e0)) kb gb kc gc kd gd mpa nd b kl gl seen 0).trans ?_)
  have e : (Wd.text (List.getD (It.words (say [tSelect, t, tClosed])) (Int.toNat (1 : Int)) w0)) = t := rfl
  rw [zo _ _ _ (by show 3 ≤ 2000; omega), zf, form_www, e, (zb l t h9).1, (zb l t h9).2, hi, apOk16' kl hk]
  rfl
theorem gsel0 (l : List ByteArray) (h9 : l.length ≤ 900) (hk : kl ≤ 5000) (hi : decide (idxS id t l 0 < 0) = false) : CX Try.prog 75 (argS (say [tSelect, t, tOpen])) (HS s0 l.length (fun i => busC (l.getD i e0)) kb gb kc gc kd gd mpa nd b kl gl seen) (vI 0) (HS' s0 l.length (fun i => busC (l.getD i e0)) kb gb kc gc kd gd mpa nd b kl seen (appF kl gl (chunk [dI (idxS id t l 0), dI 0] 2))) := by
  refine cx_of sSt.ok Try.func75 bsel0 rfl ((evsel0 zS t s0 l.length (fun i => busC (l.getD i e0)) kb gb kc gc kd gd mpa nd b kl gl seen 0).trans ?_)
  have e : (Wd.text (List.getD (It.words (say [tSelect, t, tOpen])) (Int.toNat (1 : Int)) w0)) = t := rfl
  rw [zo _ _ _ (by show 3 ≤ 2000; omega), zf, form_www, e, (zb l t h9).1, (zb l t h9).2, hi, apOk16' kl hk]
  rfl
end
end Go.Proofs.Ythmapnolgdpkbaa.de
namespace Go.Proofs.Ythmapnolgdpkbaa.de
open Go.RowKit Go.Eb Go.Proofs.Ythmapnolgdpkbaa.st
set_option maxRecDepth 100000

def dBay : Dec (List AV) (Unit × RBay × Unit) := .cons (.c (.ptr 0 0)) (.cons (.agg bayD) .nil)
def d55 : Dec (List AV × Hp) ((Unit × RBay × Unit) × AD) := .pair dBay dHD
noncomputable def o55 : Orc := oWi
noncomputable def ann55 : Ann := annOf [(5, ⟨[3, 0, 27, 28, 29], []⟩)]
noncomputable def L55_5 (x : SBay) (s0 : ByteArray) (ka : Nat) (ga : Nat → List D) (kb : Nat) (gb : Nat → List D) (kc : Nat) (gc : Nat → List D) (kd : Nat) (gd : Nat → List D) (mpa : List (Value × Value)) (nd : Bool) (g m : Nat) (i29 : Int) := LK Try.prog o55 ann55 (List.length (α := Nat × Blk) [(0, .cells [.d (dS s0), .row 1 1 ka, .row 2 5 kb, .row 3 6 kc, .row 4 12 kd, .mp 5, .d (dB nd)] 87), (1, .row ka ga 1 9), (2, .row kb gb 5 58), (3, .row kc gc 6 61), (4, .row kd gd 12 54), (5, .map 0 mpa)]) g Try.f55 5 m ⟨frm [(0, AV.c (C.ptr 0 0)), (3, AV.c (C.ptr 6 0)), (27, AV.c (C.d (listD 2 linkC link0 (SBay.links x)))), (28, AV.c (C.d (D.v (Value.int IntKind.i64 (↑(List.length (SBay.links x)) : Int))))), (29, AV.c (C.d (D.v (Value.int IntKind.i64 i29))))] 0 Try.f55.ntmps, [(0, Blk.cells [C.d (D.v (Value.string s0)), C.row 1 1 ka, C.row 2 5 kb, C.row 3 6 kc, C.row 4 12 kd, C.mp 5, C.d (D.v (Value.bool nd))] 87), (1, Blk.row ka ga 1 9), (2, Blk.row kb gb 5 58), (3, Blk.row kc gc 6 61), (4, Blk.row kd gd 12 54), (5, Blk.map 0 mpa), (6, Blk.cells (List.map C.d (bayC x)) 54)], 7⟩
theorem b55 : Try.f55.body = some (bodyOf Try.f55) := by kernel_rfl
set_option maxRecDepth 100000 in
theorem ev55 (x : SBay) (s0 : ByteArray) (ka : Nat) (ga : Nat → List D) (kb : Nat) (gb : Nat → List D) (kc : Nat) (gc : Nat → List D) (kd : Nat) (gd : Nat → List D) (mpa : List (Value × Value)) (nd : Bool) (g : Nat) : callC Try.prog o55 ann55 g Try.f55 (bodyOf Try.f55) [.c (.ptr 0 0), aBay x] [(0, .cells [.d (dS s0), .row 1 1 ka, .row 2 5 kb, .row 3 6 kc, .row 4 12 kd, .mp 5, .d (dB nd)] 87), (1, .row ka ga 1 9), (2, .row kb gb 5 58), (3, .row kc gc 6 61), (4, .row kd gd 12 54), (5, .map 0 mpa)] =
 (bif decide ((↑(List.length (SBay.links x)) : Int) < (1 : Int)) then some (T.leaf (AV.c (C.d (D.v (Value.int IntKind.i64 (3 : Int)))), [((0 : Nat), Blk.cells [C.d (D.v (Value.string
 s0)), C.row ((1 : Nat)) ((1 : Nat)) ka, C.row ((2 : Nat)) ((5 : Nat)) kb, C.row ((3 : Nat)) ((6 : Nat)) kc, C.row ((4 : Nat)) ((12 : Nat)) kd, C.mp ((5 : Nat)), C.d (D.v (Value.bool
 nd))] ((87 : Nat))), ((1 : Nat), Blk.row ka ga ((1 : Nat)) ((9 : Nat))), ((2 : Nat), Blk.row kb gb ((5 : Nat)) ((58 : Nat))), ((3 : Nat), Blk.row kc gc ((6 : Nat)) ((61 : Nat))),
 ((4 : Nat), Blk.row kd gd ((12 : Nat)) ((54 : Nat))), ((5 : Nat), Blk.map ((0 : Nat)) mpa)])) else (bif decide ((↑(List.length (SBay.links x)) : Int) > (2 : Int)) then some (T.leaf
 (AV.c (C.d (D.v (Value.int IntKind.i64 (3 : Int)))), [((0 : Nat), Blk.cells [C.d (D.v (Value.string s0)), C.row ((1 : Nat)) ((1 : Nat)) ka, C.row ((2 : Nat)) ((5 : Nat)) kb, C.row
 ((3 : Nat)) ((6 : Nat)) kc, C.row ((4 : Nat)) ((12 : Nat)) kd, C.mp ((5 : Nat)), C.d (D.v (Value.bool nd))] ((87 : Nat))), ((1 : Nat), Blk.row ka ga ((1 : Nat)) ((9 : Nat))), ((2 :
 Nat), Blk.row kb gb ((5 : Nat)) ((58 : Nat))), ((3 : Nat), Blk.row kc gc ((6 : Nat)) ((61 : Nat))), ((4 : Nat), Blk.row kd gd ((12 : Nat)) ((54 : Nat))), ((5 : Nat), Blk.map ((0 :
 Nat)) mpa)])) else (bif SBay.kind x == (3 : Int) then (bif (↑(List.length (SBay.links x)) : Int) != (2 : Int) then some (T.leaf (AV.c (C.d (D.v (Value.int IntKind.i64 (3 : Int)))),
 [((0 : Nat), Blk.cells [C.d (D.v (Value.string s0)), C.row ((1 : Nat)) ((1 : Nat)) ka, C.row ((2 : Nat)) ((5 : Nat)) kb, C.row ((3 : Nat)) ((6 : Nat)) kc, C.row ((4 : Nat)) ((12 :
 Nat)) kd, C.mp ((5 : Nat)), C.d (D.v (Value.bool nd))] ((87 : Nat))), ((1 : Nat), Blk.row ka ga ((1 : Nat)) ((9 : Nat))), ((2 : Nat), Blk.row kb gb ((5 : Nat)) ((58 : Nat))), ((3 :
 Nat), Blk.row kc gc ((6 : Nat)) ((61 : Nat))), ((4 : Nat), Blk.row kd gd ((12 : Nat)) ((54 : Nat))), ((5 : Nat), Blk.map ((0 : Nat)) mpa)])) else L55_5 x s0 ka ga kb gb kc gc kd gd
 mpa nd g g ((0 : Int))) else L55_5 x s0 ka ga kb gb kc gc kd gd mpa nd g g ((0 : Int))))) := by kernel_rfl
set_option maxRecDepth 100000 in
theorem st55_5 (x : SBay) (s0 : ByteArray) (ka : Nat) (ga : Nat → List D) (kb : Nat) (gb : Nat → List D) (kc : Nat) (gc : Nat → List D) (kd : Nat) (gd : Nat → List D) (mpa : List (Value × Value)) (nd : Bool) (g m : Nat) (i29 : Int) : L55_5 x s0 ka ga kb gb kc gc kd gd mpa nd g (m + 1) i29 =
 (bif decide (i29 < (↑(List.length (SBay.links x)) : Int)) then (bif decide ((0 : Int) ≤ i29) && decide (i29 < (↑(List.length (SBay.links x)) : Int)) then (bif decide (SLink.bus
 (List.getD (SBay.links x) (Int.toNat i29) link0) ≥ (0 : Int)) then (bif !decide (SLink.bus (List.getD (SBay.links x) (Int.toNat i29) link0) ≤ IntKind.wrap IntKind.i64 ((↑ka : Int) -
 (1 : Int))) then some (T.leaf (AV.c (C.d (D.v (Value.int IntKind.i64 (9 : Int)))), [((0 : Nat), Blk.cells [C.d (D.v (Value.string s0)), C.row ((1 : Nat)) ((1 : Nat)) ka, C.row ((2 :
 Nat)) ((5 : Nat)) kb, C.row ((3 : Nat)) ((6 : Nat)) kc, C.row ((4 : Nat)) ((12 : Nat)) kd, C.mp ((5 : Nat)), C.d (D.v (Value.bool nd))] ((87 : Nat))), ((1 : Nat), Blk.row ka ga ((1
 : Nat)) ((9 : Nat))), ((2 : Nat), Blk.row kb gb ((5 : Nat)) ((58 : Nat))), ((3 : Nat), Blk.row kc gc ((6 : Nat)) ((61 : Nat))), ((4 : Nat), Blk.row kd gd ((12 : Nat)) ((54 : Nat))),
 ((5 : Nat), Blk.map ((0 : Nat)) mpa)])) else (bif SLink.pos (List.getD (SBay.links x) (Int.toNat i29) link0) != (1 : Int) then (bif SLink.pos (List.getD (SBay.links x) (Int.toNat
 i29) link0) != (0 : Int) then some (T.leaf (AV.c (C.d (D.v (Value.int IntKind.i64 (16 : Int)))), [((0 : Nat), Blk.cells [C.d (D.v (Value.string s0)), C.row ((1 : Nat)) ((1 : Nat))
 ka, C.row ((2 : Nat)) ((5 : Nat)) kb, C.row ((3 : Nat)) ((6 : Nat)) kc, C.row ((4 : Nat)) ((12 : Nat)) kd, C.mp ((5 : Nat)), C.d (D.v (Value.bool nd))] ((87 : Nat))), ((1 : Nat),
 Blk.row ka ga ((1 : Nat)) ((9 : Nat))), ((2 : Nat), Blk.row kb gb ((5 : Nat)) ((58 : Nat))), ((3 : Nat), Blk.row kc gc ((6 : Nat)) ((61 : Nat))), ((4 : Nat), Blk.row kd gd ((12 :
 Nat)) ((54 : Nat))), ((5 : Nat), Blk.map ((0 : Nat)) mpa)])) else (bif SBay.kind x == (3 : Int) then some (T.leaf (AV.c (C.d (D.v (Value.int IntKind.i64 (16 : Int)))), [((0 : Nat),
 Blk.cells [C.d (D.v (Value.string s0)), C.row ((1 : Nat)) ((1 : Nat)) ka, C.row ((2 : Nat)) ((5 : Nat)) kb, C.row ((3 : Nat)) ((6 : Nat)) kc, C.row ((4 : Nat)) ((12 : Nat)) kd, C.mp
 ((5 : Nat)), C.d (D.v (Value.bool nd))] ((87 : Nat))), ((1 : Nat), Blk.row ka ga ((1 : Nat)) ((9 : Nat))), ((2 : Nat), Blk.row kb gb ((5 : Nat)) ((58 : Nat))), ((3 : Nat), Blk.row
 kc gc ((6 : Nat)) ((61 : Nat))), ((4 : Nat), Blk.row kd gd ((12 : Nat)) ((54 : Nat))), ((5 : Nat), Blk.map ((0 : Nat)) mpa)])) else (bif decide (i29 > (0 : Int)) then (bif decide
 ((0 : Int) ≤ IntKind.wrap IntKind.i64 (i29 - (1 : Int))) && decide (IntKind.wrap IntKind.i64 (i29 - (1 : Int)) < (↑(List.length (SBay.links x)) : Int)) then (bif SLink.bus
 (List.getD (SBay.links x) (Int.toNat (IntKind.wrap IntKind.i64 (i29 - (1 : Int)))) link0) == SLink.bus (List.getD (SBay.links x) (Int.toNat i29) link0) then some (T.leaf (AV.c (C.d
 (D.v (Value.int IntKind.i64 (12 : Int)))), [((0 : Nat), Blk.cells [C.d (D.v (Value.string s0)), C.row ((1 : Nat)) ((1 : Nat)) ka, C.row ((2 : Nat)) ((5 : Nat)) kb, C.row ((3 : Nat))
 ((6 : Nat)) kc, C.row ((4 : Nat)) ((12 : Nat)) kd, C.mp ((5 : Nat)), C.d (D.v (Value.bool nd))] ((87 : Nat))), ((1 : Nat), Blk.row ka ga ((1 : Nat)) ((9 : Nat))), ((2 : Nat),
 Blk.row kb gb ((5 : Nat)) ((58 : Nat))), ((3 : Nat), Blk.row kc gc ((6 : Nat)) ((61 : Nat))), ((4 : Nat), Blk.row kd gd ((12 : Nat)) ((54 : Nat))), ((5 : Nat), Blk.map ((0 : Nat))
 mpa)])) else L55_5 x s0 ka ga kb gb kc gc kd gd mpa nd g m (IntKind.wrap IntKind.i64 (i29 + (1 : Int)))) else none) else L55_5 x s0 ka ga kb gb kc gc kd gd mpa nd g m (IntKind.wrap
 IntKind.i64 (i29 + (1 : Int)))))) else (bif decide (i29 > (0 : Int)) then (bif decide ((0 : Int) ≤ IntKind.wrap IntKind.i64 (i29 - (1 : Int))) && decide (IntKind.wrap IntKind.i64
 (i29 - (1 : Int)) < (↑(List.length (SBay.links x)) : Int)) then (bif SLink.bus (List.getD (SBay.links x) (Int.toNat (IntKind.wrap IntKind.i64 (i29 - (1 : Int)))) link0) == SLink.bus
 (List.getD (SBay.links x) (Int.toNat i29) link0) then some (T.leaf (AV.c (C.d (D.v (Value.int IntKind.i64 (12 : Int)))), [((0 : Nat), Blk.cells [C.d (D.v (Value.string s0)), C.row
 ((1 : Nat)) ((1 : Nat)) ka, C.row ((2 : Nat)) ((5 : Nat)) kb, C.row ((3 : Nat)) ((6 : Nat)) kc, C.row ((4 : Nat)) ((12 : Nat)) kd, C.mp ((5 : Nat)), C.d (D.v (Value.bool nd))] ((87
 : Nat))), ((1 : Nat), Blk.row ka ga ((1 : Nat)) ((9 : Nat))), ((2 : Nat), Blk.row kb gb ((5 : Nat)) ((58 : Nat))), ((3 : Nat), Blk.row kc gc ((6 : Nat)) ((61 : Nat))), ((4 : Nat),
 Blk.row kd gd ((12 : Nat)) ((54 : Nat))), ((5 : Nat), Blk.map ((0 : Nat)) mpa)])) else L55_5 x s0 ka ga kb gb kc gc kd gd mpa nd g m (IntKind.wrap IntKind.i64 (i29 + (1 : Int))))
 else none) else L55_5 x s0 ka ga kb gb kc gc kd gd mpa nd g m (IntKind.wrap IntKind.i64 (i29 + (1 : Int)))))) else some (T.leaf (AV.c (C.d (D.v (Value.int IntKind.i64 (9 : Int)))),
 [((0 : Nat), Blk.cells [C.d (D.v (Value.string s0)), C.row ((1 : Nat)) ((1 : Nat)) ka, C.row ((2 : Nat)) ((5 : Nat)) kb, C.row ((3 : Nat)) ((6 : Nat)) kc, C.row ((4 : Nat)) ((12 :
 Nat)) kd, C.mp ((5 : Nat)), C.d (D.v (Value.bool nd))] ((87 : Nat))), ((1 : Nat), Blk.row ka ga ((1 : Nat)) ((9 : Nat))), ((2 : Nat), Blk.row kb gb ((5 : Nat)) ((58 : Nat))), ((3 :
 Nat), Blk.row kc gc ((6 : Nat)) ((61 : Nat))), ((4 : Nat), Blk.row kd gd ((12 : Nat)) ((54 : Nat))), ((5 : Nat), Blk.map ((0 : Nat)) mpa)]))) else none) else some (T.leaf (AV.c (C.d
 (D.v (Value.int IntKind.i64 (0 : Int)))), [((0 : Nat), Blk.cells [C.d (D.v (Value.string s0)), C.row ((1 : Nat)) ((1 : Nat)) ka, C.row ((2 : Nat)) ((5 : Nat)) kb, C.row ((3 : Nat))
 ((6 : Nat)) kc, C.row ((4 : Nat)) ((12 : Nat)) kd, C.mp ((5 : Nat)), C.d (D.v (Value.bool nd))] ((87 : Nat))), ((1 : Nat), Blk.row ka ga ((1 : Nat)) ((9 : Nat))), ((2 : Nat),
 Blk.row kb gb ((5 : Nat)) ((58 : Nat))), ((3 : Nat), Blk.row kc gc ((6 : Nat)) ((61 : Nat))), ((4 : Nat), Blk.row kd gd ((12 : Nat)) ((54 : Nat))), ((5 : Nat), Blk.map ((0 : Nat))
 mpa)]))) := by kernel_rfl
noncomputable def o54 : Orc := Orc.cons 52 (inl Try.prog oWi na 1 Try.f52) oWi
noncomputable def ann54 : Ann := annOf []
theorem b54 : Try.f54.body = some (bodyOf Try.f54) := by kernel_rfl
set_option maxRecDepth 100000 in
theorem ev54 (x : SBay) (g : Nat) : callC Try.prog o54 ann54 g Try.f54 (bodyOf Try.f54) [aBay x] [] =
 (bif SBay.kind x == (3 : Int) then (bif decide (SBay.zr x ≥ (0 : Int)) then (bif decide (SBay.zr x ≤ (1000 : Int)) then (bif decide (SBay.zx x ≥ (1 : Int)) then (bif !decide
 (SBay.zx x ≤ (1000 : Int)) then some (T.leaf (AV.c (C.d (D.v (Value.bool false))), [])) else (bif SBay.vt x != (0 : Int) then some (T.leaf (AV.c (C.d (D.v (Value.bool false))), []))
 else (bif SBay.kind x == (1 : Int) then (bif decide (SBay.fin x ≥ (0 : Int)) then (bif decide (SBay.fin x ≤ (1 : Int)) then (bif decide (SBay.ct x ≥ (1 : Int)) then (bif decide
 (SBay.ct x ≤ (100 : Int)) then (bif decide (SBay.sat x ≥ (0 : Int)) then (bif decide (SBay.sat x ≤ (16383 : Int)) then (bif decide (SBay.travel x ≥ (1 : Int)) then some (T.leaf
 (AV.c (C.d (D.v (Value.bool (decide (SBay.travel x ≤ (6 : Int)))))), [])) else some (T.leaf (AV.c (C.d (D.v (Value.bool false))), []))) else some (T.leaf (AV.c (C.d (D.v (Value.bool
 false))), []))) else some (T.leaf (AV.c (C.d (D.v (Value.bool false))), []))) else some (T.leaf (AV.c (C.d (D.v (Value.bool false))), []))) else some (T.leaf (AV.c (C.d (D.v
 (Value.bool false))), []))) else some (T.leaf (AV.c (C.d (D.v (Value.bool false))), []))) else some (T.leaf (AV.c (C.d (D.v (Value.bool false))), []))) else (bif decide (SBay.fin x
 ≥ (0 : Int)) then (bif decide (SBay.fin x ≤ (0 : Int)) then (bif decide (SBay.ct x ≥ (1 : Int)) then (bif decide (SBay.ct x ≤ (100 : Int)) then (bif decide (SBay.sat x ≥ (0 : Int))
 then (bif decide (SBay.sat x ≤ (16383 : Int)) then (bif decide (SBay.travel x ≥ (1 : Int)) then some (T.leaf (AV.c (C.d (D.v (Value.bool (decide (SBay.travel x ≤ (6 : Int)))))),
 [])) else some (T.leaf (AV.c (C.d (D.v (Value.bool false))), []))) else some (T.leaf (AV.c (C.d (D.v (Value.bool false))), []))) else some (T.leaf (AV.c (C.d (D.v (Value.bool
 false))), []))) else some (T.leaf (AV.c (C.d (D.v (Value.bool false))), []))) else some (T.leaf (AV.c (C.d (D.v (Value.bool false))), []))) else some (T.leaf (AV.c (C.d (D.v
 (Value.bool false))), []))) else some (T.leaf (AV.c (C.d (D.v (Value.bool false))), [])))))) else some (T.leaf (AV.c (C.d (D.v (Value.bool false))), []))) else some (T.leaf (AV.c
 (C.d (D.v (Value.bool false))), []))) else some (T.leaf (AV.c (C.d (D.v (Value.bool false))), []))) else (bif !(SBay.zr x == (0 : Int) && (SBay.zx x == (0 : Int) && true)) then some
 (T.leaf (AV.c (C.d (D.v (Value.bool false))), [])) else (bif decide (SBay.vt x ≥ (1 : Int)) then (bif !decide (SBay.vt x ≤ (10000 : Int)) then some (T.leaf (AV.c (C.d (D.v
 (Value.bool false))), [])) else (bif SBay.kind x == (1 : Int) then (bif decide (SBay.fin x ≥ (0 : Int)) then (bif decide (SBay.fin x ≤ (1 : Int)) then (bif decide (SBay.ct x ≥ (1 :
 Int)) then (bif decide (SBay.ct x ≤ (100 : Int)) then (bif decide (SBay.sat x ≥ (0 : Int)) then (bif decide (SBay.sat x ≤ (16383 : Int)) then (bif decide (SBay.travel x ≥ (1 : Int))
 then some (T.leaf (AV.c (C.d (D.v (Value.bool (decide (SBay.travel x ≤ (6 : Int)))))), [])) else some (T.leaf (AV.c (C.d (D.v (Value.bool false))), []))) else some (T.leaf (AV.c
 (C.d (D.v (Value.bool false))), []))) else some (T.leaf (AV.c (C.d (D.v (Value.bool false))), []))) else some (T.leaf (AV.c (C.d (D.v (Value.bool false))), []))) else some (T.leaf
 (AV.c (C.d (D.v (Value.bool false))), []))) else some (T.leaf (AV.c (C.d (D.v (Value.bool false))), []))) else some (T.leaf (AV.c (C.d (D.v (Value.bool false))), []))) else (bif
 decide (SBay.fin x ≥ (0 : Int)) then (bif decide (SBay.fin x ≤ (0 : Int)) then (bif decide (SBay.ct x ≥ (1 : Int)) then (bif decide (SBay.ct x ≤ (100 : Int)) then (bif decide
 (SBay.sat x ≥ (0 : Int)) then (bif decide (SBay.sat x ≤ (16383 : Int)) then (bif decide (SBay.travel x ≥ (1 : Int)) then some (T.leaf (AV.c (C.d (D.v (Value.bool (decide
 (SBay.travel x ≤ (6 : Int)))))), [])) else some (T.leaf (AV.c (C.d (D.v (Value.bool false))), []))) else some (T.leaf (AV.c (C.d (D.v (Value.bool false))), []))) else some (T.leaf
 (AV.c (C.d (D.v (Value.bool false))), []))) else some (T.leaf (AV.c (C.d (D.v (Value.bool false))), []))) else some (T.leaf (AV.c (C.d (D.v (Value.bool false))), []))) else some
 (T.leaf (AV.c (C.d (D.v (Value.bool false))), []))) else some (T.leaf (AV.c (C.d (D.v (Value.bool false))), []))))) else some (T.leaf (AV.c (C.d (D.v (Value.bool false))), []))))) := by kernel_rfl
def d54 : Dec (List AV × Hp) ((RBay × Unit) × Unit) := .pair (.cons (.agg bayD) .nil) .nil
noncomputable def oRa (nk : ByteArray → Bool) (okr rg : RBay → Bool) : Orc := Orc.cons 54 (ansD d54 (fun a => okr a.1.1) (fun a => vB (rg a.1.1)) fun _ => []) (oIm nk)
noncomputable def o33 (nk : ByteArray → Bool) (okr rg : RBay → Bool) (ok : (Unit × RBay × Unit) × AD → Bool) (lk : (Unit × RBay × Unit) × AD → Int) : Orc := Orc.cons 55 (ansD d55 ok (fun a => vI (lk a)) (fun a => (d55.enc a).2)) (oRa nk okr rg)
noncomputable def ann33 : Ann := annOf [(18, ⟨[3, 50, 0, 51, 52], []⟩)]
noncomputable def L33_18 (nk : ByteArray → Bool) (okr rg : RBay → Bool) (ok : (Unit × RBay × Unit) × AD → Bool) (lk : (Unit × RBay × Unit) × AD → Int) (x : SBay) (s0 : ByteArray) (ka : Nat) (ga : Nat → List D) (kb : Nat) (gb : Nat → List D) (kc : Nat) (gc : Nat → List D) (bs : List SBay) (mpa : List (Value × Value)) (nd : Bool) (g m : Nat) (i52 : Int) := LK Try.prog (o33 nk okr rg ok lk) ann33 (List.length (α := Nat × Blk) [(0, .cells [.d (dS s0), .row 1 1 ka, .row 2 5 kb, .row 3 6 kc, .row 4 12 bs.length, .mp 5, .d (dB nd)] 87), (1, .row ka ga 1 9), (2, .row kb gb 5 58), (3, .row kc gc 6 61), (4, .row bs.length (fun i => bayC (bs.getD i bay0)) 12 54), (5, .map 0 mpa)]) g Try.f33 18 m ⟨frm [(0, AV.c (C.ptr 0 0)), (3, AV.c (C.ptr 6 0)), (50, AV.c (C.row 4 12 (List.length bs))), (51, AV.c (C.d (D.v (Value.int IntKind.i64 (↑(List.length bs) : Int))))), (52, AV.c (C.d (D.v (Value.int IntKind.i64 i52))))] 0 Try.f33.ntmps, [(0, Blk.cells [C.d (D.v (Value.string s0)), C.row 1 1 ka, C.row 2 5 kb, C.row 3 6 kc, C.row 4 12 (List.length bs), C.mp 5, C.d (D.v (Value.bool nd))] 87), (1, Blk.row ka ga 1 9), (2, Blk.row kb gb 5 58), (3, Blk.row kc gc 6 61), (4, Blk.row (List.length bs) (fun i => bayC (List.getD bs i bay0)) 12 54), (5, Blk.map 0 mpa), (6, Blk.cells (List.map C.d (bayC x)) 54)], 7⟩
theorem b33 : Try.f33.body = some (bodyOf Try.f33) := by kernel_rfl
set_option maxRecDepth 100000 in
theorem ev33 (nk : ByteArray → Bool) (okr rg : RBay → Bool) (ok : (Unit × RBay × Unit) × AD → Bool) (lk : (Unit × RBay × Unit) × AD → Int) (x : SBay) (s0 : ByteArray) (ka : Nat) (ga : Nat → List D) (kb : Nat) (gb : Nat → List D) (kc : Nat) (gc : Nat → List D) (bs : List SBay) (mpa : List (Value × Value)) (nd : Bool) (g : Nat) : callC Try.prog (o33 nk okr rg ok lk) ann33 g Try.f33 (bodyOf Try.f33) [.c (.ptr 0 0), aBay x] [(0, .cells [.d (dS s0), .row 1 1 ka, .row 2 5 kb, .row 3 6 kc, .row 4 12 bs.length, .mp 5, .d (dB nd)] 87), (1, .row ka ga 1 9), (2, .row kb gb 5 58), (3, .row kc gc 6 61), (4, .row bs.length (fun i => bayC (bs.getD i bay0)) 12 54), (5, .map 0 mpa)] =
 (bif !nk (SBay.name x) then some (T.leaf (AV.c (C.d (D.v (Value.int IntKind.i64 (7 : Int)))), [((0 : Nat), Blk.cells [C.d (D.v (Value.string s0)), C.row ((1 : Nat)) ((1 : Nat)) ka,
 C.row ((2 : Nat)) ((5 : Nat)) kb, C.row ((3 : Nat)) ((6 : Nat)) kc, C.row ((4 : Nat)) ((12 : Nat)) (List.length bs), C.mp ((5 : Nat)), C.d (D.v (Value.bool nd))] ((87 : Nat))), ((1
 : Nat), Blk.row ka ga ((1 : Nat)) ((9 : Nat))), ((2 : Nat), Blk.row kb gb ((5 : Nat)) ((58 : Nat))), ((3 : Nat), Blk.row kc gc ((6 : Nat)) ((61 : Nat))), ((4 : Nat), Blk.row
 (List.length bs) (fun i => bayC (List.getD bs i bay0)) ((12 : Nat)) ((54 : Nat))), ((5 : Nat), Blk.map ((0 : Nat)) mpa)])) else (bif boolOf (assoc mpa (Value.string (SBay.name x)))
 then some (T.leaf (AV.c (C.d (D.v (Value.int IntKind.i64 (8 : Int)))), [((0 : Nat), Blk.cells [C.d (D.v (Value.string s0)), C.row ((1 : Nat)) ((1 : Nat)) ka, C.row ((2 : Nat)) ((5 :
 Nat)) kb, C.row ((3 : Nat)) ((6 : Nat)) kc, C.row ((4 : Nat)) ((12 : Nat)) (List.length bs), C.mp ((5 : Nat)), C.d (D.v (Value.bool nd))] ((87 : Nat))), ((1 : Nat), Blk.row ka ga
 ((1 : Nat)) ((9 : Nat))), ((2 : Nat), Blk.row kb gb ((5 : Nat)) ((58 : Nat))), ((3 : Nat), Blk.row kc gc ((6 : Nat)) ((61 : Nat))), ((4 : Nat), Blk.row (List.length bs) (fun i =>
 bayC (List.getD bs i bay0)) ((12 : Nat)) ((54 : Nat))), ((5 : Nat), Blk.map ((0 : Nat)) mpa)])) else (bif SBay.kind x == (1 : Int) then (bif decide (SBay.off x ≥ (0 : Int)) then
 (bif !decide (SBay.off x ≤ IntKind.wrap IntKind.i64 ((↑kb : Int) - (1 : Int))) then some (T.leaf (AV.c (C.d (D.v (Value.int IntKind.i64 (9 : Int)))), [((0 : Nat), Blk.cells [C.d
 (D.v (Value.string s0)), C.row ((1 : Nat)) ((1 : Nat)) ka, C.row ((2 : Nat)) ((5 : Nat)) kb, C.row ((3 : Nat)) ((6 : Nat)) kc, C.row ((4 : Nat)) ((12 : Nat)) (List.length bs), C.mp
 ((5 : Nat)), C.d (D.v (Value.bool nd))] ((87 : Nat))), ((1 : Nat), Blk.row ka ga ((1 : Nat)) ((9 : Nat))), ((2 : Nat), Blk.row kb gb ((5 : Nat)) ((58 : Nat))), ((3 : Nat), Blk.row
 kc gc ((6 : Nat)) ((61 : Nat))), ((4 : Nat), Blk.row (List.length bs) (fun i => bayC (List.getD bs i bay0)) ((12 : Nat)) ((54 : Nat))), ((5 : Nat), Blk.map ((0 : Nat)) mpa)])) else
 (bif okr (SBay.name x, SBay.kind x, SBay.off x, SBay.fin x, SBay.zr x, SBay.zx x, linksD (SBay.links x), SBay.closed x, SBay.ct x, SBay.vt x, SBay.sat x, SBay.travel x, ()) then
 (bif !rg (SBay.name x, SBay.kind x, SBay.off x, SBay.fin x, SBay.zr x, SBay.zx x, linksD (SBay.links x), SBay.closed x, SBay.ct x, SBay.vt x, SBay.sat x, SBay.travel x, ()) then
 some (T.leaf (AV.c (C.d (D.v (Value.int IntKind.i64 (2 : Int)))), [((0 : Nat), Blk.cells [C.d (D.v (Value.string s0)), C.row ((1 : Nat)) ((1 : Nat)) ka, C.row ((2 : Nat)) ((5 :
 Nat)) kb, C.row ((3 : Nat)) ((6 : Nat)) kc, C.row ((4 : Nat)) ((12 : Nat)) (List.length bs), C.mp ((5 : Nat)), C.d (D.v (Value.bool nd))] ((87 : Nat))), ((1 : Nat), Blk.row ka ga
 ((1 : Nat)) ((9 : Nat))), ((2 : Nat), Blk.row kb gb ((5 : Nat)) ((58 : Nat))), ((3 : Nat), Blk.row kc gc ((6 : Nat)) ((61 : Nat))), ((4 : Nat), Blk.row (List.length bs) (fun i =>
 bayC (List.getD bs i bay0)) ((12 : Nat)) ((54 : Nat))), ((5 : Nat), Blk.map ((0 : Nat)) mpa)])) else L33_18 nk okr rg ok lk x s0 ka ga kb gb kc gc bs mpa nd g g ((0 : Int))) else
 none)) else some (T.leaf (AV.c (C.d (D.v (Value.int IntKind.i64 (9 : Int)))), [((0 : Nat), Blk.cells [C.d (D.v (Value.string s0)), C.row ((1 : Nat)) ((1 : Nat)) ka, C.row ((2 :
 Nat)) ((5 : Nat)) kb, C.row ((3 : Nat)) ((6 : Nat)) kc, C.row ((4 : Nat)) ((12 : Nat)) (List.length bs), C.mp ((5 : Nat)), C.d (D.v (Value.bool nd))] ((87 : Nat))), ((1 : Nat),
 Blk.row ka ga ((1 : Nat)) ((9 : Nat))), ((2 : Nat), Blk.row kb gb ((5 : Nat)) ((58 : Nat))), ((3 : Nat), Blk.row kc gc ((6 : Nat)) ((61 : Nat))), ((4 : Nat), Blk.row (List.length
 bs) (fun i => bayC (List.getD bs i bay0)) ((12 : Nat)) ((54 : Nat))), ((5 : Nat), Blk.map ((0 : Nat)) mpa)]))) else (bif SBay.kind x == (2 : Int) then (bif decide (SBay.off x ≥ (0 :
 Int)) then (bif !decide (SBay.off x ≤ IntKind.wrap IntKind.i64 ((↑kc : Int) - (1 : Int))) then some (T.leaf (AV.c (C.d (D.v (Value.int IntKind.i64 (9 : Int)))), [((0 : Nat),
 Blk.cells [C.d (D.v (Value.string s0)), C.row ((1 : Nat)) ((1 : Nat)) ka, C.row ((2 : Nat)) ((5 : Nat)) kb, C.row ((3 : Nat)) ((6 : Nat)) kc, C.row ((4 : Nat)) ((12 : Nat))
 (List.length bs), C.mp ((5 : Nat)), C.d (D.v (Value.bool nd))] ((87 : Nat))), ((1 : Nat), Blk.row ka ga ((1 : Nat)) ((9 : Nat))), ((2 : Nat), Blk.row kb gb ((5 : Nat)) ((58 :
 Nat))), ((3 : Nat), Blk.row kc gc ((6 : Nat)) ((61 : Nat))), ((4 : Nat), Blk.row (List.length bs) (fun i => bayC (List.getD bs i bay0)) ((12 : Nat)) ((54 : Nat))), ((5 : Nat),
 Blk.map ((0 : Nat)) mpa)])) else (bif okr (SBay.name x, SBay.kind x, SBay.off x, SBay.fin x, SBay.zr x, SBay.zx x, linksD (SBay.links x), SBay.closed x, SBay.ct x, SBay.vt x,
 SBay.sat x, SBay.travel x, ()) then (bif !rg (SBay.name x, SBay.kind x, SBay.off x, SBay.fin x, SBay.zr x, SBay.zx x, linksD (SBay.links x), SBay.closed x, SBay.ct x, SBay.vt x,
 SBay.sat x, SBay.travel x, ()) then some (T.leaf (AV.c (C.d (D.v (Value.int IntKind.i64 (2 : Int)))), [((0 : Nat), Blk.cells [C.d (D.v (Value.string s0)), C.row ((1 : Nat)) ((1 :
 Nat)) ka, C.row ((2 : Nat)) ((5 : Nat)) kb, C.row ((3 : Nat)) ((6 : Nat)) kc, C.row ((4 : Nat)) ((12 : Nat)) (List.length bs), C.mp ((5 : Nat)), C.d (D.v (Value.bool nd))] ((87 :
 Nat))), ((1 : Nat), Blk.row ka ga ((1 : Nat)) ((9 : Nat))), ((2 : Nat), Blk.row kb gb ((5 : Nat)) ((58 : Nat))), ((3 : Nat), Blk.row kc gc ((6 : Nat)) ((61 : Nat))), ((4 : Nat),
 Blk.row (List.length bs) (fun i => bayC (List.getD bs i bay0)) ((12 : Nat)) ((54 : Nat))), ((5 : Nat), Blk.map ((0 : Nat)) mpa)])) else L33_18 nk okr rg ok lk x s0 ka ga kb gb kc gc
 bs mpa nd g g ((0 : Int))) else none)) else some (T.leaf (AV.c (C.d (D.v (Value.int IntKind.i64 (9 : Int)))), [((0 : Nat), Blk.cells [C.d (D.v (Value.string s0)), C.row ((1 : Nat))
 ((1 : Nat)) ka, C.row ((2 : Nat)) ((5 : Nat)) kb, C.row ((3 : Nat)) ((6 : Nat)) kc, C.row ((4 : Nat)) ((12 : Nat)) (List.length bs), C.mp ((5 : Nat)), C.d (D.v (Value.bool nd))]
 ((87 : Nat))), ((1 : Nat), Blk.row ka ga ((1 : Nat)) ((9 : Nat))), ((2 : Nat), Blk.row kb gb ((5 : Nat)) ((58 : Nat))), ((3 : Nat), Blk.row kc gc ((6 : Nat)) ((61 : Nat))), ((4 :
 Nat), Blk.row (List.length bs) (fun i => bayC (List.getD bs i bay0)) ((12 : Nat)) ((54 : Nat))), ((5 : Nat), Blk.map ((0 : Nat)) mpa)]))) else (bif SBay.kind x == (3 : Int) then
 (bif decide (SBay.off x ≥ (0 : Int)) then (bif !decide (SBay.off x ≤ IntKind.wrap IntKind.i64 ((1 : Int) - (1 : Int))) then some (T.leaf (AV.c (C.d (D.v (Value.int IntKind.i64 (9 :
 Int)))), [((0 : Nat), Blk.cells [C.d (D.v (Value.string s0)), C.row ((1 : Nat)) ((1 : Nat)) ka, C.row ((2 : Nat)) ((5 : Nat)) kb, C.row ((3 : Nat)) ((6 : Nat)) kc, C.row ((4 : Nat))
 ((12 : Nat)) (List.length bs), C.mp ((5 : Nat)), C.d (D.v (Value.bool nd))] ((87 : Nat))), ((1 : Nat), Blk.row ka ga ((1 : Nat)) ((9 : Nat))), ((2 : Nat), Blk.row kb gb ((5 : Nat))
 ((58 : Nat))), ((3 : Nat), Blk.row kc gc ((6 : Nat)) ((61 : Nat))), ((4 : Nat), Blk.row (List.length bs) (fun i => bayC (List.getD bs i bay0)) ((12 : Nat)) ((54 : Nat))), ((5 :
 Nat), Blk.map ((0 : Nat)) mpa)])) else (bif okr (SBay.name x, SBay.kind x, SBay.off x, SBay.fin x, SBay.zr x, SBay.zx x, linksD (SBay.links x), SBay.closed x, SBay.ct x, SBay.vt x,
 SBay.sat x, SBay.travel x, ()) then (bif !rg (SBay.name x, SBay.kind x, SBay.off x, SBay.fin x, SBay.zr x, SBay.zx x, linksD (SBay.links x), SBay.closed x, SBay.ct x, SBay.vt x,
 SBay.sat x, SBay.travel x, ()) then some (T.leaf (AV.c (C.d (D.v (Value.int IntKind.i64 (2 : Int)))), [((0 : Nat), Blk.cells [C.d (D.v (Value.string s0)), C.row ((1 : Nat)) ((1 :
 Nat)) ka, C.row ((2 : Nat)) ((5 : Nat)) kb, C.row ((3 : Nat)) ((6 : Nat)) kc, C.row ((4 : Nat)) ((12 : Nat)) (List.length bs), C.mp ((5 : Nat)), C.d (D.v (Value.bool nd))] ((87 :
 Nat))), ((1 : Nat), Blk.row ka ga ((1 : Nat)) ((9 : Nat))), ((2 : Nat), Blk.row kb gb ((5 : Nat)) ((58 : Nat))), ((3 : Nat), Blk.row kc gc ((6 : Nat)) ((61 : Nat))), ((4 : Nat),
 Blk.row (List.length bs) (fun i => bayC (List.getD bs i bay0)) ((12 : Nat)) ((54 : Nat))), ((5 : Nat), Blk.map ((0 : Nat)) mpa)])) else L33_18 nk okr rg ok lk x s0 ka ga kb gb kc gc
 bs mpa nd g g ((0 : Int))) else none)) else some (T.leaf (AV.c (C.d (D.v (Value.int IntKind.i64 (9 : Int)))), [((0 : Nat), Blk.cells [C.d (D.v (Value.string s0)), C.row ((1 : Nat))
 ((1 : Nat)) ka, C.row ((2 : Nat)) ((5 : Nat)) kb, C.row ((3 : Nat)) ((6 : Nat)) kc, C.row ((4 : Nat)) ((12 : Nat)) (List.length bs), C.mp ((5 : Nat)), C.d (D.v (Value.bool nd))]
 ((87 : Nat))), ((1 : Nat), Blk.row ka ga ((1 : Nat)) ((9 : Nat))), ((2 : Nat), Blk.row kb gb ((5 : Nat)) ((58 : Nat))), ((3 : Nat), Blk.row kc gc ((6 : Nat)) ((61 : Nat))), ((4 :
 Nat), Blk.row (List.length bs) (fun i => bayC (List.getD bs i bay0)) ((12 : Nat)) ((54 : Nat))), ((5 : Nat), Blk.map ((0 : Nat)) mpa)]))) else some (T.leaf (AV.c (C.d (D.v
 (Value.int IntKind.i64 (10 : Int)))), [((0 : Nat), Blk.cells [C.d (D.v (Value.string s0)), C.row ((1 : Nat)) ((1 : Nat)) ka, C.row ((2 : Nat)) ((5 : Nat)) kb, C.row ((3 : Nat)) ((6
 : Nat)) kc, C.row ((4 : Nat)) ((12 : Nat)) (List.length bs), C.mp ((5 : Nat)), C.d (D.v (Value.bool nd))] ((87 : Nat))), ((1 : Nat), Blk.row ka ga ((1 : Nat)) ((9 : Nat))), ((2 :
 Nat), Blk.row kb gb ((5 : Nat)) ((58 : Nat))), ((3 : Nat), Blk.row kc gc ((6 : Nat)) ((61 : Nat))), ((4 : Nat), Blk.row (List.length bs) (fun i => bayC (List.getD bs i bay0)) ((12 :
 Nat)) ((54 : Nat))), ((5 : Nat), Blk.map ((0 : Nat)) mpa)]))))))) := by kernel_rfl
set_option maxRecDepth 100000 in
theorem st33_18 (nk : ByteArray → Bool) (okr rg : RBay → Bool) (ok : (Unit × RBay × Unit) × AD → Bool) (lk : (Unit × RBay × Unit) × AD → Int) (x : SBay) (s0 : ByteArray) (ka : Nat) (ga : Nat → List D) (kb : Nat) (gb : Nat → List D) (kc : Nat) (gc : Nat → List D) (bs : List SBay) (mpa : List (Value × Value)) (nd : Bool) (g m : Nat) (i52 : Int) : L33_18 nk okr rg ok lk x s0 ka ga kb gb kc gc bs mpa nd g (m + 1) i52 =
 (bif decide (i52 < (↑(List.length bs) : Int)) then (bif decide ((0 : Int) ≤ i52) && decide (i52 < (↑(List.length bs) : Int)) then (bif SBay.kind x != (3 : Int) then (bif SBay.kind x
 == SBay.kind (List.getD bs (Int.toNat i52) bay0) then (bif SBay.off x == SBay.off (List.getD bs (Int.toNat i52) bay0) then (bif SBay.fin x == SBay.fin (List.getD bs (Int.toNat i52)
 bay0) then some (T.leaf (AV.c (C.d (D.v (Value.int IntKind.i64 (12 : Int)))), [((0 : Nat), Blk.cells [C.d (D.v (Value.string s0)), C.row ((1 : Nat)) ((1 : Nat)) ka, C.row ((2 :
 Nat)) ((5 : Nat)) kb, C.row ((3 : Nat)) ((6 : Nat)) kc, C.row ((4 : Nat)) ((12 : Nat)) (List.length bs), C.mp ((5 : Nat)), C.d (D.v (Value.bool nd))] ((87 : Nat))), ((1 : Nat),
 Blk.row ka ga ((1 : Nat)) ((9 : Nat))), ((2 : Nat), Blk.row kb gb ((5 : Nat)) ((58 : Nat))), ((3 : Nat), Blk.row kc gc ((6 : Nat)) ((61 : Nat))), ((4 : Nat), Blk.row (List.length
 bs) (fun i => bayC (List.getD bs i bay0)) ((12 : Nat)) ((54 : Nat))), ((5 : Nat), Blk.map ((0 : Nat)) mpa)])) else L33_18 nk okr rg ok lk x s0 ka ga kb gb kc gc bs mpa nd g m
 (IntKind.wrap IntKind.i64 (i52 + (1 : Int)))) else L33_18 nk okr rg ok lk x s0 ka ga kb gb kc gc bs mpa nd g m (IntKind.wrap IntKind.i64 (i52 + (1 : Int)))) else L33_18 nk okr rg ok
 lk x s0 ka ga kb gb kc gc bs mpa nd g m (IntKind.wrap IntKind.i64 (i52 + (1 : Int)))) else L33_18 nk okr rg ok lk x s0 ka ga kb gb kc gc bs mpa nd g m (IntKind.wrap IntKind.i64 (i52
 + (1 : Int)))) else none) else (bif ok (((), (SBay.name x, SBay.kind x, SBay.off x, SBay.fin x, SBay.zr x, SBay.zx x, linksD (SBay.links x), SBay.closed x, SBay.ct x, SBay.vt x,
 SBay.sat x, SBay.travel x, ()), ()), (s0, ka, kb, kc, List.length bs, (), nd, ()), (ka, ga), (kb, gb), (kc, gc), (List.length bs, fun i => bayC (List.getD bs i bay0)), mpa, ()) then
 (bif lk (((), (SBay.name x, SBay.kind x, SBay.off x, SBay.fin x, SBay.zr x, SBay.zx x, linksD (SBay.links x), SBay.closed x, SBay.ct x, SBay.vt x, SBay.sat x, SBay.travel x, ()),
 ()), (s0, ka, kb, kc, List.length bs, (), nd, ()), (ka, ga), (kb, gb), (kc, gc), (List.length bs, fun i => bayC (List.getD bs i bay0)), mpa, ()) != (0 : Int) then some (T.leaf (AV.c
 (C.d (D.v (Value.int IntKind.i64 (lk (((), (SBay.name x, SBay.kind x, SBay.off x, SBay.fin x, SBay.zr x, SBay.zx x, linksD (SBay.links x), SBay.closed x, SBay.ct x, SBay.vt x,
 SBay.sat x, SBay.travel x, ()), ()), (s0, ka, kb, kc, List.length bs, (), nd, ()), (ka, ga), (kb, gb), (kc, gc), (List.length bs, fun i => bayC (List.getD bs i bay0)), mpa, ()))))),
 [((0 : Nat), Blk.cells [C.d (D.v (Value.string s0)), C.row ((1 : Nat)) ((1 : Nat)) ka, C.row ((2 : Nat)) ((5 : Nat)) kb, C.row ((3 : Nat)) ((6 : Nat)) kc, C.row ((4 : Nat)) ((12 :
 Nat)) (List.length bs), C.mp ((5 : Nat)), C.d (D.v (Value.bool nd))] ((87 : Nat))), ((1 : Nat), Blk.row ka ga ((1 : Nat)) ((9 : Nat))), ((2 : Nat), Blk.row kb gb ((5 : Nat)) ((58 :
 Nat))), ((3 : Nat), Blk.row kc gc ((6 : Nat)) ((61 : Nat))), ((4 : Nat), Blk.row (List.length bs) (fun i => bayC (List.getD bs i bay0)) ((12 : Nat)) ((54 : Nat))), ((5 : Nat),
 Blk.map ((0 : Nat)) (Prod.fst (Prod.snd (Prod.snd (Prod.snd (Prod.snd (Prod.snd (Prod.snd (((), (SBay.name x, SBay.kind x, SBay.off x, SBay.fin x, SBay.zr x, SBay.zx x, linksD
 (SBay.links x), SBay.closed x, SBay.ct x, SBay.vt x, SBay.sat x, SBay.travel x, ()), ()), (s0, ka, kb, kc, List.length bs, (), nd, ()), (ka, ga), (kb, gb), (kc, gc), (List.length
 bs, fun i => bayC (List.getD bs i bay0)), mpa, ())))))))))])) else (bif decide ((List.length bs + (1 : Nat)) * (120 : Nat) ≤ (140737488355328 : Nat)) && decide (List.length bs + (1
 : Nat) ≤ (9223372036854775807 : Nat)) then some (T.leaf (AV.c (C.d (D.v (Value.int IntKind.i64 (0 : Int)))), [((0 : Nat), Blk.cells [C.d (D.v (Value.string s0)), C.row ((1 : Nat))
 ((1 : Nat)) ka, C.row ((2 : Nat)) ((5 : Nat)) kb, C.row ((3 : Nat)) ((6 : Nat)) kc, C.row ((6 : Nat)) ((12 : Nat)) (List.length bs + (1 : Nat)), C.mp ((5 : Nat)), C.d (D.v
 (Value.bool nd))] ((87 : Nat))), ((1 : Nat), Blk.row ka ga ((1 : Nat)) ((9 : Nat))), ((2 : Nat), Blk.row kb gb ((5 : Nat)) ((58 : Nat))), ((3 : Nat), Blk.row kc gc ((6 : Nat)) ((61
 : Nat))), ((4 : Nat), Blk.dead), ((5 : Nat), Blk.map ((0 : Nat)) ((Value.string (SBay.name x), Value.bool true) :: Prod.fst (Prod.snd (Prod.snd (Prod.snd (Prod.snd (Prod.snd
 (Prod.snd (((), (SBay.name x, SBay.kind x, SBay.off x, SBay.fin x, SBay.zr x, SBay.zx x, linksD (SBay.links x), SBay.closed x, SBay.ct x, SBay.vt x, SBay.sat x, SBay.travel x, ()),
 ()), (s0, ka, kb, kc, List.length bs, (), nd, ()), (ka, ga), (kb, gb), (kc, gc), (List.length bs, fun i => bayC (List.getD bs i bay0)), mpa, ()))))))))), ((6 : Nat), Blk.row
 (List.length bs + (1 : Nat)) (appF (List.length bs) (fun i => bayC (List.getD bs i bay0)) (chunk [dS (SBay.name x), dI (SBay.kind x), dI (SBay.off x), dI (SBay.fin x), dI (SBay.zr
 x), dI (SBay.zx x), linksD (SBay.links x), dB (SBay.closed x), dI (SBay.ct x), dI (SBay.vt x), dI (SBay.sat x), dI (SBay.travel x)] ((11 : Nat) + (1 : Nat)))) ((12 : Nat)) ((54 :
 Nat)))])) else none)) else none)) := by kernel_rfl
end Go.Proofs.Ythmapnolgdpkbaa.de
namespace Go.Proofs.Ythmapnolgdpkbaa.de
open Go.RowKit Go.Eb Go.Proofs.Ythmapnolgdpkbaa.st
set_option maxRecDepth 100000

theorem appOk {k b : Nat} (h : k + 1 ≤ 1000) (hb : b ≤ 1000) : (decide ((k + 1) * b ≤ 140737488355328) && decide (k + 1 ≤ 9223372036854775807)) = true := by
  have h1 : (k + 1) * b ≤ 1000 * 1000 := Nat.mul_le_mul h hb
  rw [decide_eq_true (by omega), decide_eq_true (by omega)]; rfl
theorem sNm : OrcS Try.prog (oNm nameOk) := .cons (.p decS_ok c15) .nil
theorem sNam : OrcS Try.prog (oNam nameOk) := .cons (.inl sNm Try.func51 (by kernel_rfl)) .nil
theorem sWi : OrcS Try.prog oWi := .cons (.inl .nil Try.func53 (by kernel_rfl)) .nil
theorem sIm : OrcS Try.prog (oIm nameOk) := .cons (.inl sWi Try.func52 (by kernel_rfl)) (.cons (.inl .nil Try.func53 (by kernel_rfl)) sNam)
abbrev lI (e : Int) (H : Hp) : Option (T (AV × Hp)) := some (.leaf (vI e, H))
theorem w1 {k : Nat} (h : k ≤ 9223372036854775807) : IntKind.wrap IntKind.i64 ((k : Int) - 1) = (k : Int) - 1 := wrap_id (by omega) (by omega)
theorem len_lt1 (n : Nat) : decide ((n : Int) < 1) = decide (n < 1) := by rw [decide_eq_decide]; omega
theorem len_gt2 (n : Nat) : decide ((n : Int) > 2) = decide (2 < n) := by rw [decide_eq_decide]; omega
theorem len_ne2 (n : Nat) : ((n : Int) != 2) = (n != 2) := by
  rw [Bool.eq_iff_iff]; simp only [bne_iff_ne]; omega
theorem gt0 (k : Nat) : decide ((k : Int) > 0) = decide (0 < k) := by rw [decide_eq_decide]; omega

section
variable (x : SBay) (s0 : ByteArray) (ka : Nat) (ga : Nat → List D) (kb : Nat) (gb : Nat → List D) (kc : Nat) (gc : Nat → List D) (kd : Nat) (gd : Nat → List D) (mpa : List (Value × Value)) (nd : Bool)
def prevB (l : List SLink) : Nat → Option Int
  | 0 => none
  | k + 1 => some (l.getD k link0).bus
theorem lp55 (hka : ka ≤ 9223372036854775807) (hl : x.links.length ≤ 9223372036854775807) (g : Nat) : ∀ (m k : Nat), k ≤ x.links.length → x.links.length - k < m →
    L55_5 x s0 ka ga kb gb kc gc kd gd mpa nd g m k = lI (linkErr ka x.kind (prevB x.links k) (x.links.drop k)) (HD s0 ka ga kb gb kc gc kd gd mpa nd)
  | 0, k, _, h => by omega
  | m + 1, k, hk, h => by
    rw [st55_5]
    by_cases hlt : k < x.links.length
    · have ih := lp55 hka hl g m (k + 1) (by omega) (by omega)
      rw [drop_at' (d := link0) hlt]
      simp only [lt1 hlt, ge0, tn, Bool.and_self, cond_true, nx hlt (by omega), ih, w1 hka, linkErr, within]
      cases k with
      | zero =>
        simp only [prevB, List.getD_cons_zero]
        generalize decide ((x.links.getD 0 link0).bus ≥ 0) = b1
        generalize decide ((x.links.getD 0 link0).bus ≤ (ka : Int) - 1) = b2
        generalize ((x.links.getD 0 link0).pos != 1) = b3
        generalize ((x.links.getD 0 link0).pos != 0) = b4
        generalize (x.kind == 3) = b5
        cases b1 <;> cases b2 <;> cases b3 <;> cases b4 <;> cases b5 <;> rfl
      | succ k =>
        have e1 : IntKind.wrap IntKind.i64 (((k + 1 : Nat) : Int) - 1) = (k : Int) := by rw [wrap_id (by omega) (by omega)]; omega
        have e2 : decide (((k + 1 : Nat) : Int) > 0) = true := by rw [gt0]; simp
        have e3 : decide ((k : Int) < (x.links.length : Int)) = true := lt1 (by omega)
        have e4 : (some (x.links.getD k link0).bus == some (x.links.getD (k + 1) link0).bus) = ((x.links.getD k link0).bus == (x.links.getD (k + 1) link0).bus) := rfl
        simp only [prevB, e1, e2, e3, e4, ge0, tn, Bool.and_self, cond_true]
        generalize decide ((x.links.getD (k + 1) link0).bus ≥ 0) = b1
        generalize decide ((x.links.getD (k + 1) link0).bus ≤ (ka : Int) - 1) = b2
        generalize ((x.links.getD (k + 1) link0).pos != 1) = b3
        generalize ((x.links.getD (k + 1) link0).pos != 0) = b4
        generalize (x.kind == 3) = b5
        generalize ((x.links.getD k link0).bus == (x.links.getD (k + 1) link0).bus) = b6
        cases b1 <;> cases b2 <;> cases b3 <;> cases b4 <;> cases b5 <;> cases b6 <;> rfl
    · rw [lt0 hlt, List.drop_of_length_le (by omega)]
      rfl
theorem c55 (hka : ka ≤ 9223372036854775807) (hl : x.links.length ≤ 9223372036854775807) : CX Try.prog 55 [.c (.ptr 0 0), aBay x] (HD s0 ka ga kb gb kc gc kd gd mpa nd) (vI (linksErr ka x)) (HD s0 ka ga kb gb kc gc kd gd mpa nd) := by
  obtain ⟨g, hg⟩ : ∃ g, x.links.length < g := ⟨x.links.length + 1, by omega⟩
  refine cx_of (sWi.ok) Try.func55 b55 rfl ((ev55 x s0 ka ga kb gb kc gc kd gd mpa nd g).trans ?_)
  have := lp55 x s0 ka ga kb gb kc gc kd gd mpa nd hka hl g g 0 (by omega) (by omega)
  have e0 : L55_5 x s0 ka ga kb gb kc gc kd gd mpa nd g g 0 = lI (linkErr ka x.kind none x.links) (HD s0 ka ga kb gb kc gc kd gd mpa nd) := this
  rw [e0, len_lt1, len_gt2, len_ne2]
  unfold linksErr
  generalize decide (x.links.length < 1) = b1
  generalize decide (2 < x.links.length) = b2
  generalize (x.kind == 3) = b3
  generalize (x.links.length != 2) = b4
  cases b1 <;> cases b2 <;> cases b3 <;> cases b4 <;> rfl
end

theorem s54 : OrcS Try.prog o54 := .cons (.inl sWi Try.func52 (by kernel_rfl)) sWi
theorem c54 (x : SBay) : CX Try.prog 54 [aBay x] [] (vB (rngOk x)) [] := by
  refine cx_of s54.ok Try.func54 b54 rfl ((ev54 x 1).trans ?_)
  simp only [fNot, bAnd, neN, Bool.and_true]
  unfold rngOk impOk within
  cases (x.kind == 3) with
  | true =>
    simp only [cond_true]
    cases (x.kind == 1) <;> simp only [cond_true, cond_false, Bool.and_assoc, bAnd]
  | false =>
    simp only [cond_false]
    cases (x.kind == 1) <;> simp only [cond_true, cond_false, Bool.and_assoc, bAnd]

/-- headers and blocks agree, sizes fit -/
def eqs (a : AD) : Bool := Nat.beq a.1.2.1 a.2.1.1 && (Nat.beq a.1.2.2.1 a.2.2.1.1 && (Nat.beq a.1.2.2.2.1 a.2.2.2.1.1 && (Nat.beq a.1.2.2.2.2.1 a.2.2.2.2.1.1 && (Nat.ble a.1.2.1 900 && (Nat.ble a.1.2.2.1 900 && (Nat.ble a.1.2.2.2.1 900 && Nat.ble a.1.2.2.2.2.1 900))))))
theorem enc55 (a : (Unit × RBay × Unit) × AD) (h : eqs a.2 = true) : (d55.enc a).2 = HD a.2.1.1 a.2.2.1.1 a.2.2.1.2 a.2.2.2.1.1 a.2.2.2.1.2 a.2.2.2.2.1.1 a.2.2.2.2.1.2 a.2.2.2.2.2.1.1 a.2.2.2.2.2.1.2 a.2.2.2.2.2.2.1 a.2.1.2.2.2.2.2.2.1 ∧ (a.2.2.1.1 ≤ 900 ∧ a.2.2.2.1.1 ≤ 900 ∧ a.2.2.2.2.1.1 ≤ 900 ∧ a.2.2.2.2.2.1.1 ≤ 900) := by
  unfold eqs at h
  simp only [Bool.and_eq_true] at h
  obtain ⟨h1, h2, h3, h4, h5, h6, h7, h8⟩ := h
  have e1 := Nat.eq_of_beq_eq_true h1
  have e2 := Nat.eq_of_beq_eq_true h2
  have e3 := Nat.eq_of_beq_eq_true h3
  have e4 := Nat.eq_of_beq_eq_true h4
  have g5 := Nat.le_of_ble_eq_true h5
  have g6 := Nat.le_of_ble_eq_true h6
  have g7 := Nat.le_of_ble_eq_true h7
  have g8 := Nat.le_of_ble_eq_true h8
  refine ⟨?_, by omega, by omega, by omega, by omega⟩
  show [(0, Blk.cells [.d (dS a.2.1.1), .row 1 1 a.2.1.2.1, .row 2 5 a.2.1.2.2.1, .row 3 6 a.2.1.2.2.2.1, .row 4 12 a.2.1.2.2.2.2.1, .mp 5, .d (dB a.2.1.2.2.2.2.2.2.1)] 87), (1, .row a.2.2.1.1 a.2.2.1.2 1 9), (2, .row a.2.2.2.1.1 a.2.2.2.1.2 5 58), (3, .row a.2.2.2.2.1.1 a.2.2.2.2.1.2 6 61), (4, .row a.2.2.2.2.2.1.1 a.2.2.2.2.2.1.2 12 54), (5, .map 0 a.2.2.2.2.2.2.1)] = _
  rw [e1, e2, e3, e4]

noncomputable def ok33 (a : (Unit × RBay × Unit) × AD) : Bool := okRB a.1.2.1 && eqs a.2
noncomputable def lk33 (a : (Unit × RBay × Unit) × AD) : Int := linksErr a.2.2.1.1 (rbay a.1.2.1)
theorem okRB_len {x : RBay} (h : okRB x = true) : (rbay x).links.length ≤ 9223372036854775807 := by
  unfold okRB okLk at h
  simp only [Bool.and_eq_true, decide_eq_true_eq] at h
  exact h.2
theorem s33 : OrcS Try.prog (o33 nameOk okRB (fun a => rngOk (rbay a)) ok33 lk33) := by
  refine .cons (.d fun a ha => ?_) (.cons (.d fun a ha => ?_) sIm)
  · unfold ok33 at ha
    simp only [Bool.and_eq_true] at ha
    obtain ⟨e, h1, _⟩ := enc55 a ha.2
    rw [e]
    exact (c55 (rbay a.1.2.1) _ _ _ _ _ _ _ _ _ _ _ (by omega) (okRB_len ha.1)).ge (.cons (.refl _) (.cons (bay_le _ ha.1) .nil)) (.refl _)
  · exact (c54 (rbay a.1.1)).ge (.cons (bay_le _ ha) .nil) (.refl _)

section
variable (x : SBay) (s0 : ByteArray) (ka : Nat) (ga : Nat → List D) (kb : Nat) (gb : Nat → List D) (kc : Nat) (gc : Nat → List D) (bs : List SBay) (mpa : List (Value × Value)) (nd : Bool)
abbrev cnB (bs : List SBay) : Nat → List D := fun i => bayC (bs.getD i bay0)
def H33 : Hp := [(0, .cells [.d (dS s0), .row 1 1 ka, .row 2 5 kb, .row 3 6 kc, .row 6 12 (bs.length + 1), .mp 5, .d (dB nd)] 87), (1, .row ka ga 1 9), (2, .row kb gb 5 58), (3, .row kc gc 6 61), (4, .dead), (5, .map 0 ((.string x.name, .bool true) :: mpa)), (6, .row (bs.length + 1) (appF bs.length (cnB bs) (chunk (bayC x) 12)) 12 54)]
def aft33 : Option (T (AV × Hp)) := bif linksErr ka x != 0 then lI (linksErr ka x) (HD s0 ka ga kb gb kc gc bs.length (cnB bs) mpa nd) else lI 0 (H33 x s0 ka ga kb gb kc gc bs mpa nd)
theorem lp33 (hka : ka ≤ 900) (hkb : kb ≤ 900) (hkc : kc ≤ 900) (hbs : bs.length ≤ 900) (hl : x.links.length ≤ 9223372036854775807) (g : Nat) : ∀ (m k : Nat), k ≤ bs.length → bs.length - k < m →
    L33_18 nameOk okRB (fun a => rngOk (rbay a)) ok33 lk33 x s0 ka ga kb gb kc gc bs mpa nd g m k = bif (bs.drop k).any (clash x) then lI 12 (HD s0 ka ga kb gb kc gc bs.length (cnB bs) mpa nd) else aft33 x s0 ka ga kb gb kc gc bs mpa nd
  | 0, k, _, h => by omega
  | m + 1, k, hk, h => by
    rw [st33_18]
    by_cases hlt : k < bs.length
    · have ih := lp33 hka hkb hkc hbs hl g m (k + 1) (by omega) (by omega)
      rw [drop_at' (d := bay0) hlt]
      simp only [lt1 hlt, ge0, tn, Bool.and_self, cond_true, nx hlt (by omega), ih, List.any_cons, clash]
      generalize (x.kind != 3) = b1
      generalize (x.kind == (bs.getD k bay0).kind) = b2
      generalize (x.off == (bs.getD k bay0).off) = b3
      generalize (x.fin == (bs.getD k bay0).fin) = b4
      cases b1 <;> cases b2 <;> cases b3 <;> cases b4 <;> rfl
    · rw [lt0 hlt, List.drop_of_length_le (by omega)]
      have hok : ok33 (((), bayR x, ()), (s0, ka, kb, kc, bs.length, (), nd, ()), (ka, ga), (kb, gb), (kc, gc), (bs.length, cnB bs), mpa, ()) = true := by
        unfold ok33
        have e1 : okRB (bayR x) = true := okLk_links hl
        have e2 : eqs ((s0, ka, kb, kc, bs.length, (), nd, ()), (ka, ga), (kb, gb), (kc, gc), (bs.length, cnB bs), mpa, ()) = true := by
          unfold eqs
          simp only [Nat.beq_refl, Bool.true_and, bleD, decide_eq_true hka, decide_eq_true hkb, decide_eq_true hkc, decide_eq_true hbs]
        simp only [e1, e2, Bool.and_self]
      have hlk : lk33 (((), bayR x, ()), (s0, ka, kb, kc, bs.length, (), nd, ()), (ka, ga), (kb, gb), (kc, gc), (bs.length, cnB bs), mpa, ()) = linksErr ka x := by
        unfold lk33
        simp only [rbay_bayR]
      simp only [cond_false, List.any_nil]
      show (bif ok33 (((), bayR x, ()), (s0, ka, kb, kc, bs.length, (), nd, ()), (ka, ga), (kb, gb), (kc, gc), (bs.length, cnB bs), mpa, ()) then (bif lk33 (((), bayR x, ()), (s0, ka, kb, kc, bs.length, (), nd, ()), (ka, ga), (kb, gb), (kc, gc), (bs.length, cnB bs), mpa, ()) != 0 then
        lI (lk33 (((), bayR x, ()), (s0, ka, kb, kc, bs.length, (), nd, ()), (ka, ga), (kb, gb), (kc, gc), (bs.length, cnB bs), mpa, ())) (HD s0 ka ga kb gb kc gc bs.length (cnB bs) mpa nd) else
        (bif decide ((bs.length + 1) * 120 ≤ 140737488355328) && decide (bs.length + 1 ≤ 9223372036854775807) then lI 0 (H33 x s0 ka ga kb gb kc gc bs mpa nd) else none)) else none) = _
      rw [hok, hlk, appOk (k := bs.length) (b := 120) (by omega) (by omega)]
      unfold aft33
      cases (linksErr ka x != 0) <;> rfl

def r33 : Option (T (AV × Hp)) := bif bayErrD ka kb kc (boolOf (assoc mpa (.string x.name))) bs x != 0 then lI (bayErrD ka kb kc (boolOf (assoc mpa (.string x.name))) bs x) (HD s0 ka ga kb gb kc gc bs.length (cnB bs) mpa nd) else lI 0 (H33 x s0 ka ga kb gb kc gc bs mpa nd)
theorem e33 (hka : ka ≤ 900) (hkb : kb ≤ 900) (hkc : kc ≤ 900) (hbs : bs.length ≤ 900) (hl : x.links.length ≤ 9223372036854775807) (g : Nat) (hg : bs.length < g) :
    callC Try.prog (o33 nameOk okRB (fun a => rngOk (rbay a)) ok33 lk33) ann33 g Try.f33 (bodyOf Try.f33) [.c (.ptr 0 0), aBay x] (HD s0 ka ga kb gb kc gc bs.length (cnB bs) mpa nd) = r33 x s0 ka ga kb gb kc gc bs mpa nd := by
  refine (ev33 nameOk okRB (fun a => rngOk (rbay a)) ok33 lk33 x s0 ka ga kb gb kc gc bs mpa nd g).trans ?_
  have hL := lp33 x s0 ka ga kb gb kc gc bs mpa nd hka hkb hkc hbs hl g g 0 (by omega) (by omega)
  have hL0 : L33_18 nameOk okRB (fun a => rngOk (rbay a)) ok33 lk33 x s0 ka ga kb gb kc gc bs mpa nd g g 0 = bif bs.any (clash x) then lI 12 (HD s0 ka ga kb gb kc gc bs.length (cnB bs) mpa nd) else aft33 x s0 ka ga kb gb kc gc bs mpa nd := hL
  have e1 : okRB (bayR x) = true := okLk_links hl
  have e2 : rngOk (rbay (bayR x)) = rngOk x := by rw [rbay_bayR]
  have e1' : okRB (x.name, x.kind, x.off, x.fin, x.zr, x.zx, linksD x.links, x.closed, x.ct, x.vt, x.sat, x.travel, ()) = true := e1
  have e2' : rngOk (rbay (x.name, x.kind, x.off, x.fin, x.zr, x.zx, linksD x.links, x.closed, x.ct, x.vt, x.sat, x.travel, ())) = rngOk x := e2
  have w0 : IntKind.wrap IntKind.i64 ((1 : Int) - 1) = (1 : Int) - 1 := by decide
  rw [hL0]
  simp only [e1', e2', w1 (show kb ≤ 9223372036854775807 by omega), w1 (show kc ≤ 9223372036854775807 by omega), w0, cond_true]
  unfold r33 bayErrD cntOf within aft33
  cases nameOk x.name with
  | false => rfl
  | true =>
    cases boolOf (assoc mpa (Value.string x.name)) with
    | true => rfl
    | false =>
      cases (x.kind == 1) with
      | true =>
        simp only [cond_true, cond_false, Bool.not_true]
        generalize decide (x.off ≥ 0) = b1
        generalize decide (x.off ≤ (kb : Int) - 1) = b2
        cases b1 <;> cases b2 <;> first | rfl | (cases rngOk x <;> first | rfl | (cases bs.any (clash x) <;> rfl))
      | false =>
        cases (x.kind == 2) with
        | true =>
          simp only [cond_true, cond_false, Bool.not_true]
          generalize decide (x.off ≥ 0) = b1
          generalize decide (x.off ≤ (kc : Int) - 1) = b2
          cases b1 <;> cases b2 <;> first | rfl | (cases rngOk x <;> first | rfl | (cases bs.any (clash x) <;> rfl))
        | false =>
          cases (x.kind == 3) with
          | true =>
            simp only [cond_true, cond_false, Bool.not_true]
            generalize decide (x.off ≥ 0) = b1
            generalize decide (x.off ≤ (1 : Int) - 1) = b2
            cases b1 <;> cases b2 <;> first | rfl | (cases rngOk x <;> first | rfl | (cases bs.any (clash x) <;> rfl))
          | false => rfl
end
end Go.Proofs.Ythmapnolgdpkbaa.de
namespace Go.Proofs.Ythmapnolgdpkbaa.de
open Go.RowKit Go.Eb Go.Proofs.Ythmapnolgdpkbaa.st
open Go.Proofs.Ythmapnolgdpkbaa.wd (numS rN c11)
set_option maxRecDepth 100000

def ydOf (r : RIt) : D := .sl 4 1 fun _ => [dI r.1, r.2.1, dB r.2.2.1, r.2.2.2.1]
noncomputable def theIt (r : RIt) : It := (theI (ydOf r)).getD 0 i0
theorem theIt_le {r : RIt} (h : okI (ydOf r) = true) : DEs [dI r.1, r.2.1, dB r.2.2.1, r.2.2.2.1] (icells (theIt r)) := by
  obtain ⟨_, hl, hf⟩ := de_sl (theI_de h)
  exact hf 0 (by omega)
theorem theIt_of {r : RIt} {x : It} (h1 : DEs [dI r.1, r.2.1, dB r.2.2.1, r.2.2.2.1] (icells x)) (h2 : DEs (icells x) [dI r.1, r.2.1, dB r.2.2.1, r.2.2.2.1]) : okI (ydOf r) = true ∧ theIt r = x := by
  have e1 : DE (ydOf r) (itemsD [x]) := .sls fun i hi => by
    obtain rfl : i = 0 := by omega
    exact h1
  have e2 : DE (itemsD [x]) (ydOf r) := .sls fun i hi => by
    have hi : i < 1 := hi
    obtain rfl : i = 0 := by omega
    exact h2
  have := theI_of e1 e2
  exact ⟨this.1, by unfold theIt; rw [this.2]; rfl⟩
theorem theIt_it (x : It) : okI (ydOf (x.line, wordsD x.words, x.block, kidsD x, ())) = true ∧ theIt (x.line, wordsD x.words, x.block, kidsD x, ()) = x := theIt_of (.refl _) (.refl _)
def hd (y : It) : ByteArray := (y.words.getD 0 w0).text
def tx (y : It) (i : Nat) : ByteArray := (y.words.getD i w0).text
noncomputable def setB (y : It) (b : SBay) : SBay := bif same (hd y) tCt then { b with ct := (numS (tx y 1)).1 } else bif same (hd y) tVt then { b with vt := (numS (tx y 1)).1 } else bif same (hd y) tSat then { b with sat := (numS (tx y 1)).1 } else bif same (hd y) tTravel then { b with travel := (numS (tx y 1)).1 } else bif same (hd y) tBreaker then { b with closed := false } else b
noncomputable def setL (bs : List ByteArray) (y : It) : SLink := ⟨idxS id (tx y 1) bs 0, bif same (tx y 2) tClosed then 1 else 0⟩
abbrev Sn := List (Value × Value)
def fresh (seen : Sn) (s : ByteArray) : Prop := boolOf (assoc seen (.string s)) = false
def GoodS (bs : List ByteArray) (n : Nat) (seen : Sn) (y : It) : Prop :=
  (∃ t, (numS t).2 = true ∧ ((y = say [tCt, t] ∧ fresh seen tCt) ∨ (y = say [tVt, t] ∧ fresh seen tVt) ∨ (y = say [tSat, t] ∧ fresh seen tSat) ∨ (y = say [tTravel, t] ∧ fresh seen tTravel))) ∨ (y = say [tBreaker, tOpen] ∧ fresh seen tBreaker) ∨
  (∃ t, (y = say [tSelect, t, tClosed] ∨ y = say [tSelect, t, tOpen]) ∧ decide (idxS id t bs 0 < 0) = false ∧ n ≤ 5000)
theorem sne {a b : ByteArray} (h : a ≠ b) : same a b = false := by
  cases e : same a b with
  | false => rfl
  | true => exact absurd (same_iff.1 e) h
theorem sre (a : ByteArray) : same a a = true := same_iff.2 rfl
noncomputable def tsB (a : TS) : SBay := ⟨a.2.2.2.2.2.2.2.1.1, a.2.2.2.2.2.2.2.1.2.1, a.2.2.2.2.2.2.2.1.2.2.1, a.2.2.2.2.2.2.2.1.2.2.2.1, a.2.2.2.2.2.2.2.1.2.2.2.2.1, a.2.2.2.2.2.2.2.1.2.2.2.2.2.1, [], a.2.2.2.2.2.2.2.1.2.2.2.2.2.2.2.1, a.2.2.2.2.2.2.2.1.2.2.2.2.2.2.2.2.1, a.2.2.2.2.2.2.2.1.2.2.2.2.2.2.2.2.2.1, a.2.2.2.2.2.2.2.1.2.2.2.2.2.2.2.2.2.2.1, a.2.2.2.2.2.2.2.1.2.2.2.2.2.2.2.2.2.2.2.1⟩
noncomputable def tsY (a : TS) : It := theIt a.1.2.1
noncomputable def tsN (a : TS) : List ByteArray := theC busC e0 1 a.2.2.1.1 a.2.2.1.2
noncomputable def tsG (a : TS) : Bool := @decide (GoodS (tsN a) a.2.2.2.2.2.2.2.2.1.1 a.2.2.2.2.2.2.2.2.2.1 (tsY a)) (Classical.propDecidable _)
noncomputable def okS6 (a : TS) : Bool := okI (ydOf a.1.2.1) && (okC busC e0 a.2.2.1.1 a.2.2.1.2 && (Nat.beq a.2.1.2.1 a.2.2.1.1 && (Nat.beq a.2.1.2.2.1 a.2.2.2.1.1 && (Nat.beq a.2.1.2.2.2.1 a.2.2.2.2.1.1 && (Nat.beq a.2.1.2.2.2.2.1 a.2.2.2.2.2.1.1 && (Nat.beq a.2.2.2.2.2.2.2.1.2.2.2.2.2.2.1 a.2.2.2.2.2.2.2.2.1.1 && tsG a))))))
noncomputable def selS (a : TS) : Bool := same (hd (tsY a)) tSelect
noncomputable def glS (a : TS) : Nat → List D := appF a.2.2.2.2.2.2.2.2.1.1 a.2.2.2.2.2.2.2.2.1.2 (chunk (linkC (setL (tsN a) (tsY a))) 2)
noncomputable def clS (a : TS) : Bool := (setB (tsY a) (tsB a)).closed
noncomputable def ctS (a : TS) : Int := (setB (tsY a) (tsB a)).ct
noncomputable def vtS (a : TS) : Int := (setB (tsY a) (tsB a)).vt
noncomputable def saS (a : TS) : Int := (setB (tsY a) (tsB a)).sat
noncomputable def trS (a : TS) : Int := (setB (tsY a) (tsB a)).travel
theorem setB_ct (t : ByteArray) (b : SBay) : setB (say [tCt, t]) b = { b with ct := (numS t).1 } := by
  unfold setB
  show (bif same tCt tCt then _ else _) = _
  rw [sre]; rfl
theorem setB_vt (t : ByteArray) (b : SBay) : setB (say [tVt, t]) b = { b with vt := (numS t).1 } := by
  unfold setB
  show (bif same tVt tCt then _ else bif same tVt tVt then _ else _) = _
  rw [sre, sne (by decide)]; rfl
theorem setB_sa (t : ByteArray) (b : SBay) : setB (say [tSat, t]) b = { b with sat := (numS t).1 } := by
  unfold setB
  show (bif same tSat tCt then _ else bif same tSat tVt then _ else bif same tSat tSat then _ else _) = _
  rw [sre, sne (show tSat ≠ tCt by decide), sne (show tSat ≠ tVt by decide)]; rfl
theorem setB_tr (t : ByteArray) (b : SBay) : setB (say [tTravel, t]) b = { b with travel := (numS t).1 } := by
  unfold setB
  show (bif same tTravel tCt then _ else bif same tTravel tVt then _ else bif same tTravel tSat then _ else bif same tTravel tTravel then _ else _) = _
  rw [sre, sne (show tTravel ≠ tCt by decide), sne (show tTravel ≠ tVt by decide), sne (show tTravel ≠ tSat by decide)]; rfl
theorem setB_br (b : SBay) : setB (say [tBreaker, tOpen]) b = { b with closed := false } := by
  unfold setB
  show (bif same tBreaker tCt then _ else bif same tBreaker tVt then _ else bif same tBreaker tSat then _ else bif same tBreaker tTravel then _ else bif same tBreaker tBreaker then _ else _) = _
  rw [sre, sne (show tBreaker ≠ tCt by decide), sne (show tBreaker ≠ tVt by decide), sne (show tBreaker ≠ tSat by decide), sne (show tBreaker ≠ tTravel by decide)]; rfl
theorem setB_sel (t u : ByteArray) (b : SBay) : setB (say [tSelect, t, u]) b = b := by
  unfold setB
  show (bif same tSelect tCt then _ else bif same tSelect tVt then _ else bif same tSelect tSat then _ else bif same tSelect tTravel then _ else bif same tSelect tBreaker then _ else _) = _
  rw [sne (show tSelect ≠ tCt by decide), sne (show tSelect ≠ tVt by decide), sne (show tSelect ≠ tSat by decide), sne (show tSelect ≠ tTravel by decide), sne (show tSelect ≠ tBreaker by decide)]; rfl
theorem arg_le {r : RIt} (h : okI (ydOf r) = true) : Ale (.agg ([dI r.1, r.2.1, dB r.2.2.1, r.2.2.2.1].map .d)) (aIt (theIt r)) := by
  have := theIt_le h
  refine ⟨by simpa using this.1, fun j p q h1 h2 => ?_⟩
  rw [List.getElem?_map] at h1 h2
  cases e1 : [dI r.1, r.2.1, dB r.2.2.1, r.2.2.2.1][j]? with
  | none => rw [e1] at h1; cases h1
  | some a =>
    cases e2 : (icells (theIt r))[j]? with
    | none => rw [e2] at h2; cases h2
    | some b =>
      rw [e1] at h1; rw [e2] at h2
      cases h1; cases h2
      exact this.2 j a b e1 e2
/-- what a setting does: the contract, for each form -/
theorem s75 : AnsS Try.prog 75 (ansB dSt okS6 selS (fun _ => vI 0) (hS1 clS ctS vtS saS trS glS) (fun _ => vI 0) (hS2 clS ctS vtS saS trS)) := by
  have key : ∀ a, okS6 a = true → ∃ (l : List ByteArray) (s0 : ByteArray) (ka kb kc kd : Nat) (nd : Bool) (gb gc gd : Nat → List D) (mpa : Sn) (b : SBay) (kl : Nat) (gl : Nat → List D) (seen : Sn) (y : It) (ln : Int) (ws : D) (bl : Bool) (kd' : D),
      l.length ≤ 900 ∧ a = (((), (ln, ws, bl, kd', ()), (), (), ()), (s0, l.length, kb, kc, kd, (), nd, ()), (l.length, fun i => busC (l.getD i e0)), (kb, gb), (kc, gc), (kd, gd), mpa, (b.name, b.kind, b.off, b.fin, b.zr, b.zx, kl, b.closed, b.ct, b.vt, b.sat, b.travel, ()), (kl, gl), seen, ()) ∧ tsN a = l ∧ tsY a = y ∧ GoodS l kl seen y ∧ Ale (.agg ([dI ln, ws, dB bl, kd'].map .d)) (aIt y) ∧ tsB a = { b with links := [] } := by
    intro a h
    unfold okS6 at h
    simp only [Bool.and_eq_true] at h
    obtain ⟨h1, h2, h3, h4, h5, h6, h7, h8⟩ := h
    obtain ⟨l, l1, l2, l3⟩ := okC_iff h2
    replace h3 := Nat.eq_of_beq_eq_true h3
    replace h4 := Nat.eq_of_beq_eq_true h4
    replace h5 := Nat.eq_of_beq_eq_true h5
    replace h6 := Nat.eq_of_beq_eq_true h6
    replace h7 := Nat.eq_of_beq_eq_true h7
    have hN : tsN a = l := by
      unfold tsN
      rw [l1, l3]
      exact theC_can busC_inj l
    have hA := arg_le h1
    have hG : GoodS (tsN a) a.2.2.2.2.2.2.2.2.1.1 a.2.2.2.2.2.2.2.2.2.1 (tsY a) := by
      unfold tsG at h8
      simpa only [decide_eq_true_eq] using h8
    rw [hN] at hG
    obtain ⟨⟨⟨⟩, ⟨ln, ws, bl, kd', ⟨⟩⟩, ⟨⟩, ⟨⟩, ⟨⟩⟩, ⟨s0, ka', kb', kc', kd2, ⟨⟩, nd, ⟨⟩⟩, ⟨ka, ga⟩, ⟨kb, gb⟩, ⟨kc, gc⟩, ⟨kd, gd⟩, mpa, ⟨nm, ki, off, fi, zr, zx, n8', cl, ct, vt, sa, tr, ⟨⟩⟩, ⟨n8, f8⟩, seen, ⟨⟩⟩ := a
    replace l1 : ka = l.length := l1
    replace l3 : ga = fun i => busC (l.getD i e0) := l3
    replace h3 : ka' = ka := h3
    replace h4 : kb' = kb := h4
    replace h5 : kc' = kc := h5
    replace h6 : kd2 = kd := h6
    replace h7 : n8' = n8 := h7
    subst h3 h4 h5 h6 h7 l1 l3
    exact ⟨l, s0, l.length, kb', kc', kd2, nd, gb, gc, gd, mpa, ⟨nm, ki, off, fi, zr, zx, [], cl, ct, vt, sa, tr⟩, n8', f8, seen, _, ln, ws, bl, kd', l2, rfl, hN, rfl, hG, hA, rfl⟩
  refine .b (fun a ha hb => ?_) (fun a ha hb => ?_)
  · obtain ⟨l, s0, ka, kb, kc, kd, nd, gb, gc, gd, mpa, b, kl, gl, seen, y, ln, ws, bl, kd', h9, hae, hN, hY, hG, hA, hB⟩ := key a ha
    unfold selS at hb
    rw [hY] at hb
    have hb := same_iff.1 hb
    have ec : clS a = b.closed ∧ ctS a = b.ct ∧ vtS a = b.vt ∧ saS a = b.sat ∧ trS a = b.travel := by
      unfold clS ctS vtS saS trS
      rw [hY, hB]
      have : setB y { b with links := [] } = { b with links := [] } := by
        rcases hG with ⟨t, _, ⟨rfl, _⟩ | ⟨rfl, _⟩ | ⟨rfl, _⟩ | ⟨rfl, _⟩⟩ | ⟨rfl, _⟩ | ⟨t, rfl | rfl, _⟩
        · exact absurd hb (show tCt ≠ tSelect by decide)
        · exact absurd hb (show tVt ≠ tSelect by decide)
        · exact absurd hb (show tSat ≠ tSelect by decide)
        · exact absurd hb (show tTravel ≠ tSelect by decide)
        · exact absurd hb (show tBreaker ≠ tSelect by decide)
        · exact setB_sel _ _ _
        · exact setB_sel _ _ _
      rw [this]
      exact ⟨rfl, rfl, rfl, rfl, rfl⟩
    have eg : glS a = appF kl gl (chunk (linkC (setL l y)) 2) := by
      unfold glS
      rw [hY, hN, hae]
    have hmem : hS1 clS ctS vtS saS trS glS a = HS' s0 l.length (fun i => busC (l.getD i e0)) kb gb kc gc kd gd mpa nd b kl seen (appF kl gl (chunk (linkC (setL l y)) 2)) := by
      unfold hS1
      rw [ec.1, ec.2.1, ec.2.2.1, ec.2.2.2.1, ec.2.2.2.2, eg, hae]
    rw [hmem, hae]
    rcases hG with ⟨t, _, ⟨rfl, _⟩ | ⟨rfl, _⟩ | ⟨rfl, _⟩ | ⟨rfl, _⟩⟩ | ⟨rfl, _⟩ | ⟨t, rfl | rfl, hi, hk⟩
    · exact absurd hb (show tCt ≠ tSelect by decide)
    · exact absurd hb (show tVt ≠ tSelect by decide)
    · exact absurd hb (show tSat ≠ tSelect by decide)
    · exact absurd hb (show tTravel ≠ tSelect by decide)
    · exact absurd hb (show tBreaker ≠ tSelect by decide)
    · have e : linkC (setL l (say [tSelect, t, tClosed])) = [dI (idxS id t l 0), dI 1] := by
        unfold setL linkC
        show [dI (idxS id t l 0), dI (bif same tClosed tClosed then 1 else 0)] = _
        rw [sre]; rfl
      rw [e]
      exact (gsel1 t s0 kb gb kc gc kd gd mpa nd b kl gl seen l h9 hk hi).ge (.cons (.refl _) (.cons hA (.cons (.refl _) (.cons (.refl _) .nil)))) (.refl _)
    · have e : linkC (setL l (say [tSelect, t, tOpen])) = [dI (idxS id t l 0), dI 0] := by
        unfold setL linkC
        show [dI (idxS id t l 0), dI (bif same tOpen tClosed then 1 else 0)] = _
        rw [sne (show tOpen ≠ tClosed by decide)]; rfl
      rw [e]
      exact (gsel0 t s0 kb gb kc gc kd gd mpa nd b kl gl seen l h9 hk hi).ge (.cons (.refl _) (.cons hA (.cons (.refl _) (.cons (.refl _) .nil)))) (.refl _)
  · obtain ⟨l, s0, ka, kb, kc, kd, nd, gb, gc, gd, mpa, b, kl, gl, seen, y, ln, ws, bl, kd', h9, hae, hN, hY, hG, hA, hB⟩ := key a ha
    unfold selS at hb
    rw [hY] at hb
    have hmem : hS2 clS ctS vtS saS trS a = HS s0 l.length (fun i => busC (l.getD i e0)) kb gb kc gc kd gd mpa nd { b with closed := (setB y { b with links := [] }).closed, ct := (setB y { b with links := [] }).ct, vt := (setB y { b with links := [] }).vt, sat := (setB y { b with links := [] }).sat, travel := (setB y { b with links := [] }).travel } kl gl seen := by
      have e1 : clS a = (setB y { b with links := [] }).closed := by unfold clS; rw [hY, hB]
      have e2 : ctS a = (setB y { b with links := [] }).ct := by unfold ctS; rw [hY, hB]
      have e3 : vtS a = (setB y { b with links := [] }).vt := by unfold vtS; rw [hY, hB]
      have e4 : saS a = (setB y { b with links := [] }).sat := by unfold saS; rw [hY, hB]
      have e5 : trS a = (setB y { b with links := [] }).travel := by unfold trS; rw [hY, hB]
      unfold hS2
      rw [e1, e2, e3, e4, e5, hae]
    rw [hmem, hae]
    have hg : ∀ {x : List AV} {K : Hp}, CX Try.prog 75 (argS y) (HS s0 l.length (fun i => busC (l.getD i e0)) kb gb kc gc kd gd mpa nd b kl gl seen) (vI 0) K → CX Try.prog 75 [.c (.ptr 0 0), .agg ([dI ln, ws, dB bl, kd'].map .d), .c (.ptr 6 0), .c (.mp 8)] (HS s0 l.length (fun i => busC (l.getD i e0)) kb gb kc gc kd gd mpa nd b kl gl seen) (vI 0) K :=
      fun h => h.ge (.cons (.refl _) (.cons hA (.cons (.refl _) (.cons (.refl _) .nil)))) (.refl _)
    rcases hG with ⟨t, hn, ⟨rfl, hf⟩ | ⟨rfl, hf⟩ | ⟨rfl, hf⟩ | ⟨rfl, hf⟩⟩ | ⟨rfl, hf⟩ | ⟨t, rfl | rfl, hi, hk⟩
    · rw [setB_ct]
      exact hg (x := []) (gct t s0 l.length _ kb gb kc gc kd gd mpa nd b kl gl seen hn hf)
    · rw [setB_vt]
      exact hg (x := []) (gvt t s0 l.length _ kb gb kc gc kd gd mpa nd b kl gl seen hn hf)
    · rw [setB_sa]
      exact hg (x := []) (gsa t s0 l.length _ kb gb kc gc kd gd mpa nd b kl gl seen hn hf)
    · rw [setB_tr]
      exact hg (x := []) (gtr t s0 l.length _ kb gb kc gc kd gd mpa nd b kl gl seen hn hf)
    · rw [setB_br]
      exact hg (x := []) (gbr s0 l.length _ kb gb kc gc kd gd mpa nd b kl gl seen hf)
    · exact absurd (show same tSelect tSelect = true from sre _) (by rw [show same tSelect tSelect = false from hb]; decide)
    · exact absurd (show same tSelect tSelect = true from sre _) (by rw [show same tSelect tSelect = false from hb]; decide)
end Go.Proofs.Ythmapnolgdpkbaa.de
namespace Go.Proofs.Ythmapnolgdpkbaa.de
open Go.RowKit Go.Eb Go.Proofs.Ythmapnolgdpkbaa.st
open Go.Proofs.Ythmapnolgdpkbaa.wd (numS rN c11)
set_option maxRecDepth 100000

/-- an item's cells that are, to the letter or not, a statement's -/
noncomputable def okY (r : RIt) : Bool := @decide (DEs (icells (theIt r)) [dI r.1, r.2.1, dB r.2.2.1, r.2.2.2.1]) (Classical.propDecidable _) && (okI (ydOf r) && decide (3 < (theIt r).words.length))
theorem okY_iff {r : RIt} (h : okY r = true) : DEs (icells (theIt r)) [dI r.1, r.2.1, dB r.2.2.1, r.2.2.2.1] ∧ DEs [dI r.1, r.2.1, dB r.2.2.1, r.2.2.2.1] (icells (theIt r)) ∧ 3 < (theIt r).words.length := by
  unfold okY at h
  simp only [Bool.and_eq_true, decide_eq_true_eq] at h
  exact ⟨h.1, theIt_le h.2.1, h.2.2⟩
theorem Csle.ofD {a b : List D} (h : DEs a b) : Csle (a.map .d) (b.map .d) := by
  refine ⟨by simpa using h.1, fun j p q h1 h2 => ?_⟩
  rw [List.getElem?_map] at h1 h2
  cases e1 : a[j]? with
  | none => rw [e1] at h1; cases h1
  | some a' =>
    cases e2 : b[j]? with
    | none => rw [e2] at h2; cases h2
    | some b' =>
      rw [e1] at h1; rw [e2] at h2
      cases h1; cases h2
      exact h.2 j a' b' e1 e2
abbrev AL := (Nat × Unit × Unit) × (Nat × (Nat → List D)) × RIt × Unit
abbrev AY := (Unit × RBay × Unit) × AD
noncomputable def zB : KB where
  ok6 := okS6
  sel := selS
  cl := clS
  ct := ctS
  vt := vtS
  sa := saS
  tr := trS
  gl := glS
  okf := okG enF cF
  fn := fun x => (rFm x).1.length
  fv := fun x i => (rFm x).1.getD i 0
  fo := fun x => (rFm x).2
  ol := fun a => okC lineC line0 a.2.1.1 a.2.1.2 && (Nat.beq a.1.1 a.2.1.1 && okY a.2.2.1)
  il := fun a => idxS SLine.name (tx (theIt a.2.2.1) 3) (theC lineC line0 5 a.2.1.1 a.2.1.2) 0
  os := fun a => okC srcC' src0 a.2.1.1 a.2.1.2 && (Nat.beq a.1.1 a.2.1.1 && okY a.2.2.1)
  is := fun a => idxS SSrc.name (tx (theIt a.2.2.1) 3) (theC srcC' src0 6 a.2.1.1 a.2.1.2) 0
  oy := fun a => okRB a.1.2.1 && (eqs a.2 && (okC bayC bay0 a.2.2.2.2.2.1.1 a.2.2.2.2.2.1.2 && (bayErrD a.2.2.1.1 a.2.2.2.1.1 a.2.2.2.2.1.1 (boolOf (assoc a.2.2.2.2.2.2.1 (.string (rbay a.1.2.1).name))) (theC bayC bay0 12 a.2.2.2.2.2.1.1 a.2.2.2.2.2.1.2) (rbay a.1.2.1) == 0)))
  my := fun a => (.string (rbay a.1.2.1).name, .bool true) :: a.2.2.2.2.2.2.1
  gy := fun a => appF a.2.2.2.2.2.1.1 a.2.2.2.2.2.1.2 (chunk (bayC (rbay a.1.2.1)) 12)
theorem Hle2 {n sz : Nat} {t ty : TypeId} {f : Nat → List D} {a b : List D} (h : DEs a b) : Hle [(0, .row n f sz t), (1, .cells (a.map .d) ty)] [(0, .row n f sz t), (1, .cells (b.map .d) ty)] := .cons (.refl _) (.cons ⟨rfl, Csle.ofD h⟩ .nil)
theorem sHd : OrcS Try.prog (oHd zB) := sFm (.cons (.d fun a h => by
  obtain ⟨⟨nk, ⟨⟩, ⟨⟩⟩, ⟨n, f⟩, r, ⟨⟩⟩ := a
  replace h : (okC lineC line0 n f && (Nat.beq nk n && okY r)) = true := h
  simp only [Bool.and_eq_true] at h
  obtain ⟨h1, h2, h3⟩ := h
  obtain ⟨l, l1, l2, l3⟩ := okC_iff h1
  replace h2 := Nat.eq_of_beq_eq_true h2
  obtain ⟨y1, y2, y3⟩ := okY_iff h3
  subst h2 l3
  obtain rfl : nk = l.length := l1
  have e : zB.il ((l.length, (), ()), (l.length, fun i => lineC (l.getD i line0)), r, ()) = idxS SLine.name (tx (theIt r) 3) l 0 := by
    show idxS SLine.name (tx (theIt r) 3) (theC lineC line0 5 l.length fun i => lineC (l.getD i line0)) 0 = _
    rw [theC_can lineC_inj]
  show CX _ _ _ _ (vI (zB.il ((l.length, (), ()), (l.length, fun i => lineC (l.getD i line0)), r, ()))) _
  rw [e]
  exact ((cixl l (theIt r) l2 y3).ge (.refl _) (Hle2 y2)).le (.refl _) (Hle2 y1)) (.cons (.d fun a h => by
  obtain ⟨⟨nk, ⟨⟩, ⟨⟩⟩, ⟨n, f⟩, r, ⟨⟩⟩ := a
  replace h : (okC srcC' src0 n f && (Nat.beq nk n && okY r)) = true := h
  simp only [Bool.and_eq_true] at h
  obtain ⟨h1, h2, h3⟩ := h
  obtain ⟨l, l1, l2, l3⟩ := okC_iff h1
  replace h2 := Nat.eq_of_beq_eq_true h2
  obtain ⟨y1, y2, y3⟩ := okY_iff h3
  subst h2 l3
  obtain rfl : nk = l.length := l1
  have e : zB.is ((l.length, (), ()), (l.length, fun i => srcC' (l.getD i src0)), r, ()) = idxS SSrc.name (tx (theIt r) 3) l 0 := by
    show idxS SSrc.name (tx (theIt r) 3) (theC srcC' src0 6 l.length fun i => srcC' (l.getD i src0)) 0 = _
    rw [theC_can srcC_inj]
  show CX _ _ _ _ (vI (zB.is ((l.length, (), ()), (l.length, fun i => srcC' (l.getD i src0)), r, ()))) _
  rw [e]
  exact ((cixs l (theIt r) l2 y3).ge (.refl _) (Hle2 y2)).le (.refl _) (Hle2 y1)) .nil))
theorem sRb : OrcS Try.prog (oRb zB) := .cons (.inl sHd Try.func74 (by kernel_rfl)) (.cons s75 (.cons (.d fun a h => by
  replace h : (okRB a.1.2.1 && (eqs a.2 && (okC bayC bay0 a.2.2.2.2.2.1.1 a.2.2.2.2.2.1.2 && (bayErrD a.2.2.1.1 a.2.2.2.1.1 a.2.2.2.2.1.1 (boolOf (assoc a.2.2.2.2.2.2.1 (.string (rbay a.1.2.1).name))) (theC bayC bay0 12 a.2.2.2.2.2.1.1 a.2.2.2.2.2.1.2) (rbay a.1.2.1) == 0)))) = true := h
  simp only [Bool.and_eq_true] at h
  obtain ⟨h1, h2, h3, h4⟩ := h
  obtain ⟨bs, l1, l2, l3⟩ := okC_iff h3
  rw [show theC bayC bay0 12 a.2.2.2.2.2.1.1 a.2.2.2.2.2.1.2 = bs by rw [l1, l3]; exact theC_can bayC_inj bs] at h4
  obtain ⟨he, g1, g2, g3, g4⟩ := enc55 a h2
  have hc := e33 (rbay a.1.2.1) a.2.1.1 a.2.2.1.1 a.2.2.1.2 a.2.2.2.1.1 a.2.2.2.1.2 a.2.2.2.2.1.1 a.2.2.2.2.1.2 bs a.2.2.2.2.2.2.1 a.2.1.2.2.2.2.2.2.1 g1 g2 g3 (by omega) (okRB_len h1) (bs.length + 1) (by omega)
  have e0 : bayErrD a.2.2.1.1 a.2.2.2.1.1 a.2.2.2.2.1.1 (boolOf (assoc a.2.2.2.2.2.2.1 (.string (rbay a.1.2.1).name))) bs (rbay a.1.2.1) = 0 := by simpa using h4
  unfold r33 at hc
  rw [e0] at hc
  have hx := (cx_of s33.ok Try.func33 b33 rfl hc).ge (.cons (.refl _) (.cons (bay_le _ h1) .nil)) (.refl _)
  have hd : hy zB.my zB.gy a = H33 (rbay a.1.2.1) a.2.1.1 a.2.2.1.1 a.2.2.1.2 a.2.2.2.1.1 a.2.2.2.1.2 a.2.2.2.2.1.1 a.2.2.2.2.1.2 bs a.2.2.2.2.2.2.1 a.2.1.2.2.2.2.2.2.1 := by
    have e1 : zB.gy a = appF bs.length (cnB bs) (chunk (bayC (rbay a.1.2.1)) 12) := by
      show appF a.2.2.2.2.2.1.1 a.2.2.2.2.2.1.2 _ = _
      rw [l1, l3]
    unfold hy H33
    rw [e1, l1]
    rfl
  rw [hd]
  show CX _ _ _ (dBy.enc a).2 _ _
  rw [show (dBy.enc a).2 = (d55.enc a).2 from rfl, he, l1, l3]
  exact hx) .nil))
end Go.Proofs.Ythmapnolgdpkbaa.de
namespace Go.Proofs.Ythmapnolgdpkbaa.de
open Go.RowKit Go.Eb Go.Proofs.Ythmapnolgdpkbaa.st
open Go.Proofs.Ythmapnolgdpkbaa.wd (numS rN c11)
set_option maxRecDepth 100000

noncomputable def updB (y : It) (b : SBay) : SBay := { b with closed := (setB y { b with links := [] }).closed, ct := (setB y { b with links := [] }).ct, vt := (setB y { b with links := [] }).vt, sat := (setB y { b with links := [] }).sat, travel := (setB y { b with links := [] }).travel }
noncomputable def stepB (bs : List ByteArray) (y : It) (b : SBay) : SBay := bif same (hd y) tSelect then { updB y b with links := b.links ++ [setL bs y] } else updB y b
noncomputable def kidsR (bs : List ByteArray) : List It → SBay → SBay
  | [], b => b
  | y :: r, b => kidsR bs r (stepB bs y b)
def seenR : List It → Sn → Sn
  | [], s => s
  | y :: r, s => seenR r ((.string (hd y), .bool true) :: s)
noncomputable def GoodK (bs : List ByteArray) : List It → Nat → Sn → Prop
  | [], _, _ => True
  | y :: r, n, s => GoodS bs n s y ∧ GoodK bs r (bif same (hd y) tSelect then n + 1 else n) ((.string (hd y), .bool true) :: s)
theorem good_len {bs : List ByteArray} {n : Nat} {s : Sn} {y : It} (h : GoodS bs n s y) : decide ((0 : Int) < (y.words.length : Int)) = true := by
  have : 0 < y.words.length := by
    rcases h with ⟨t, _, ⟨rfl, _⟩ | ⟨rfl, _⟩ | ⟨rfl, _⟩ | ⟨rfl, _⟩⟩ | ⟨rfl, _⟩ | ⟨t, rfl | rfl, _⟩ <;> exact Nat.succ_pos _
  exact decide_eq_true (by omega)

section
variable (x : It) (s0 : ByteArray) (nl : List ByteArray) (ll : List SLine) (sl : List SSrc) (yl : List SBay) (mpa : Sn) (nd : Bool)
abbrev rB (l : List ByteArray) : Nat → List D := fun i => busC (l.getD i e0)
abbrev rL (l : List SLine) : Nat → List D := fun i => lineC (l.getD i line0)
abbrev rS (l : List SSrc) : Nat → List D := fun i => srcC' (l.getD i src0)
abbrev tup (y : It) (n : Nat) (f : Nat → List D) (sn : Sn) (b : SBay) : TS := (((), (It.line y, wordsD (It.words y), It.block y, kidsD y, ()), (), (), ()), (s0, nl.length, ll.length, sl.length, yl.length, (), nd, ()), (nl.length, rB nl), (ll.length, rL ll), (sl.length, rS sl), (yl.length, cnB yl), mpa, (b.name, b.kind, b.off, b.fin, b.zr, b.zx, n, b.closed, b.ct, b.vt, b.sat, b.travel, ()), (n, f), sn, ())
theorem tsY_tup (y : It) (n : Nat) (f : Nat → List D) (sn : Sn) (b : SBay) : tsY (tup s0 nl ll sl yl mpa nd y n f sn b) = y := (theIt_it y).2
theorem tsN_tup (y : It) (n : Nat) (f : Nat → List D) (sn : Sn) (b : SBay) : tsN (tup s0 nl ll sl yl mpa nd y n f sn b) = nl := theC_can busC_inj nl
theorem tsB_tup (y : It) (n : Nat) (f : Nat → List D) (sn : Sn) (b : SBay) : tsB (tup s0 nl ll sl yl mpa nd y n f sn b) = { b with links := [] } := rfl
theorem hok6 (y : It) (n : Nat) (f : Nat → List D) (sn : Sn) (b : SBay) (h9 : nl.length ≤ 900) (hg : GoodS nl n sn y) : KB.ok6 zB (tup s0 nl ll sl yl mpa nd y n f sn b) = true := by
  have hG : tsG (tup s0 nl ll sl yl mpa nd y n f sn b) = true := by
    unfold tsG
    rw [tsY_tup, tsN_tup]
    simp only [decide_eq_true_eq]
    exact hg
  show okS6 (tup s0 nl ll sl yl mpa nd y n f sn b) = true
  unfold okS6
  rw [hG]
  show (okI (ydOf (It.line y, wordsD (It.words y), It.block y, kidsD y, ())) && (okC busC e0 nl.length (rB nl) && (Nat.beq nl.length nl.length && (Nat.beq ll.length ll.length && (Nat.beq sl.length sl.length && (Nat.beq yl.length yl.length && (Nat.beq n n && true))))))) = true
  rw [(theIt_it y).1, okC_can h9]
  simp only [Nat.beq_refl, Bool.and_true]
theorem hsel6 (y : It) (n : Nat) (f : Nat → List D) (sn : Sn) (b : SBay) : KB.sel zB (tup s0 nl ll sl yl mpa nd y n f sn b) = same (hd y) tSelect := by
  show same (hd (tsY (tup s0 nl ll sl yl mpa nd y n f sn b))) tSelect = _
  rw [tsY_tup]
theorem hgl6 (y : It) (n : Nat) (f : Nat → List D) (sn : Sn) (b : SBay) : KB.gl zB (tup s0 nl ll sl yl mpa nd y n f sn b) = appF n f (chunk (linkC (setL nl y)) 2) := by
  show appF n f (chunk (linkC (setL (tsN (tup s0 nl ll sl yl mpa nd y n f sn b)) (tsY (tup s0 nl ll sl yl mpa nd y n f sn b)))) 2) = _
  rw [tsY_tup, tsN_tup]
theorem hcl6 (y : It) (n : Nat) (f : Nat → List D) (sn : Sn) (b : SBay) : KB.cl zB (tup s0 nl ll sl yl mpa nd y n f sn b) = (updB y b).closed := by
  show (setB (tsY (tup s0 nl ll sl yl mpa nd y n f sn b)) (tsB (tup s0 nl ll sl yl mpa nd y n f sn b))).closed = _
  rw [tsY_tup, tsB_tup]; rfl
theorem hct6 (y : It) (n : Nat) (f : Nat → List D) (sn : Sn) (b : SBay) : KB.ct zB (tup s0 nl ll sl yl mpa nd y n f sn b) = (updB y b).ct := by
  show (setB (tsY (tup s0 nl ll sl yl mpa nd y n f sn b)) (tsB (tup s0 nl ll sl yl mpa nd y n f sn b))).ct = _
  rw [tsY_tup, tsB_tup]; rfl
theorem hvt6 (y : It) (n : Nat) (f : Nat → List D) (sn : Sn) (b : SBay) : KB.vt zB (tup s0 nl ll sl yl mpa nd y n f sn b) = (updB y b).vt := by
  show (setB (tsY (tup s0 nl ll sl yl mpa nd y n f sn b)) (tsB (tup s0 nl ll sl yl mpa nd y n f sn b))).vt = _
  rw [tsY_tup, tsB_tup]; rfl
theorem hsa6 (y : It) (n : Nat) (f : Nat → List D) (sn : Sn) (b : SBay) : KB.sa zB (tup s0 nl ll sl yl mpa nd y n f sn b) = (updB y b).sat := by
  show (setB (tsY (tup s0 nl ll sl yl mpa nd y n f sn b)) (tsB (tup s0 nl ll sl yl mpa nd y n f sn b))).sat = _
  rw [tsY_tup, tsB_tup]; rfl
theorem htr6 (y : It) (n : Nat) (f : Nat → List D) (sn : Sn) (b : SBay) : KB.tr zB (tup s0 nl ll sl yl mpa nd y n f sn b) = (updB y b).travel := by
  show (setB (tsY (tup s0 nl ll sl yl mpa nd y n f sn b)) (tsB (tup s0 nl ll sl yl mpa nd y n f sn b))).travel = _
  rw [tsY_tup, tsB_tup]; rfl
noncomputable abbrev L6 (g m n : Nat) (f : Nat → List D) (sn : Sn) (k : Int) (b : SBay) := Lrdb_6 zB x s0 nl.length (rB nl) ll.length (rL ll) sl.length (rS sl) yl.length (cnB yl) mpa nd g m n f sn k b.name b.kind b.off b.fin b.zr b.zx b.closed b.ct b.vt b.sat b.travel
noncomputable abbrev G13 (g m : Nat) (sn : Sn) (d : D) (b : SBay) := Lrdb_13 zB x s0 nl.length (rB nl) ll.length (rL ll) sl.length (rS sl) yl.length (cnB yl) mpa nd g m sn b.name b.kind b.off b.fin b.zr b.zx d b.closed b.ct b.vt b.sat b.travel
theorem L6_step (h9 : nl.length ≤ 900) (g m n : Nat) (f : Nat → List D) (sn : Sn) (k : Nat) (b : SBay) (hk : k < x.kids.length) (hl : x.kids.length ≤ 9000) (hg : GoodS nl n sn (x.kids.getD k i0)) :
    L6 x s0 nl ll sl yl mpa nd g (m + 1) n f sn k b = bif same (hd (x.kids.getD k i0)) tSelect then L6 x s0 nl ll sl yl mpa nd g m (n + 1) (appF n f (chunk (linkC (setL nl (x.kids.getD k i0))) 2)) ((.string (hd (x.kids.getD k i0)), .bool true) :: sn) ((k + 1 : Nat) : Int) (updB (x.kids.getD k i0) b)
      else L6 x s0 nl ll sl yl mpa nd g m n f ((.string (hd (x.kids.getD k i0)), .bool true) :: sn) ((k + 1 : Nat) : Int) (updB (x.kids.getD k i0) b) := by
  unfold L6
  rw [strdb_6]
  have e0 : Int.toNat (0 : Int) = 0 := rfl
  have e1 : decide ((0 : Int) ≤ 0) = true := rfl
  simp -implicitDefEqProofs only [lt1 hk, ge0, tn, tt, cond_true, nx hk (show x.kids.length ≤ 9223372036854775807 by omega), e0, e1]
  generalize x.kids.getD k i0 = y at hg
  rw [hok6 s0 nl ll sl yl mpa nd y n f sn b h9 hg, hsel6 s0 nl ll sl yl mpa nd y n f sn b, hgl6 s0 nl ll sl yl mpa nd y n f sn b, hcl6 s0 nl ll sl yl mpa nd y n f sn b, hct6 s0 nl ll sl yl mpa nd y n f sn b, hvt6 s0 nl ll sl yl mpa nd y n f sn b, hsa6 s0 nl ll sl yl mpa nd y n f sn b, htr6 s0 nl ll sl yl mpa nd y n f sn b, good_len hg]
  simp -implicitDefEqProofs only [tt, cond_true]
  rfl
theorem L6_end (g m n : Nat) (f : Nat → List D) (sn : Sn) (k : Nat) (b : SBay) (hk : ¬ k < x.kids.length) : L6 x s0 nl ll sl yl mpa nd g (m + 1) n f sn k b = G13 x s0 nl ll sl yl mpa nd g g sn (.sl 2 n f) b := by
  unfold L6
  rw [strdb_6, lt0 hk]
  rfl
theorem lp6 (h9 : nl.length ≤ 900) (hl : x.kids.length ≤ 9000) (g : Nat) : ∀ (r : List It) (m k n : Nat) (f : Nat → List D) (sn : Sn) (b : SBay), x.kids.drop k = r → k ≤ x.kids.length → r.length < m → GoodK nl r n sn → RL linkC link0 n f b.links →
    ∃ n' f', RL linkC link0 n' f' (kidsR nl r b).links ∧ L6 x s0 nl ll sl yl mpa nd g m n f sn k b = G13 x s0 nl ll sl yl mpa nd g g (seenR r sn) (.sl 2 n' f') (kidsR nl r b)
  | [], 0, k, n, f, sn, b, _, _, hm, _, _ => by simp at hm
  | _ :: _, 0, k, n, f, sn, b, _, _, hm, _, _ => by simp at hm
  | [], m + 1, k, n, f, sn, b, hd', hk, hm, _, hr => by
    have : ¬ k < x.kids.length := by
      intro h
      have := congrArg List.length hd'
      rw [List.length_drop] at this
      simp at this
      omega
    exact ⟨n, f, hr, L6_end x s0 nl ll sl yl mpa nd g m n f sn k b this⟩
  | y :: r, m + 1, k, n, f, sn, b, hd', hk, hm, hG, hr => by
    have hlt : k < x.kids.length := by
      have := congrArg List.length hd'
      rw [List.length_drop] at this
      simp at this
      omega
    have hdr := drop_at' (d := i0) hlt
    rw [hd'] at hdr
    obtain ⟨e1, e2⟩ := List.cons.inj hdr
    obtain ⟨g1, g2⟩ := hG
    rw [L6_step x s0 nl ll sl yl mpa nd h9 g m n f sn k b hlt hl (by rw [← e1]; exact g1), ← e1]
    have hm' : r.length < m := by simp at hm; omega
    cases hs : same (hd y) tSelect with
    | true =>
      rw [hs] at g2
      have hst : stepB nl y b = { updB y b with links := b.links ++ [setL nl y] } := by unfold stepB; rw [hs]; rfl
      have := lp6 h9 hl g r m (k + 1) (n + 1) (appF n f (chunk (linkC (setL nl y)) 2)) ((.string (hd y), .bool true) :: sn) (stepB nl y b) e2.symm (by omega) hm' g2 (by rw [hst]; exact hr.app' rfl)
      obtain ⟨n', f', k1, k2⟩ := this
      refine ⟨n', f', k1, Eq.trans ?_ k2⟩
      rw [hst]
      rfl
    | false =>
      rw [hs] at g2
      have hst : stepB nl y b = updB y b := by unfold stepB; rw [hs]; rfl
      have := lp6 h9 hl g r m (k + 1) n f ((.string (hd y), .bool true) :: sn) (stepB nl y b) e2.symm (by omega) hm' g2 (by rw [hst]; exact hr)
      obtain ⟨n', f', k1, k2⟩ := this
      refine ⟨n', f', k1, Eq.trans ?_ k2⟩
      rw [hst]
      rfl
end
end Go.Proofs.Ythmapnolgdpkbaa.de
namespace Go.Proofs.Ythmapnolgdpkbaa.de
open Go.RowKit Go.Eb Go.Proofs.Ythmapnolgdpkbaa.st
open Go.Proofs.Ythmapnolgdpkbaa.wd (numS rN c11)
set_option maxRecDepth 100000

def NumDec : Prop := ∀ n : Int, 0 ≤ n → n ≤ 9999999 → numS (dec n) = (n, true)
def nOk (n : Int) : Prop := 0 ≤ n ∧ n ≤ 9999999
theorem NumDec.f (h : NumDec) {n : Int} (k : nOk n) : (numS (dec n)).1 = n := by rw [h n k.1 k.2]
theorem NumDec.s (h : NumDec) {n : Int} (k : nOk n) : (numS (dec n)).2 = true := by rw [h n k.1 k.2]
structure LinkOk (nl : List ByteArray) (l : SLink) : Prop where
  ix : idxS id (nl.getD l.bus.toNat e0) nl 0 = l.bus
  lo : 0 ≤ l.bus
  ps : l.pos = 0 ∨ l.pos = 1

theorem updB_of {y : It} {b : SBay} {c : SBay} (h : setB y { b with links := [] } = { c with links := [] }) (h1 : c.name = b.name) (h2 : c.kind = b.kind) (h3 : c.off = b.off) (h4 : c.fin = b.fin) (h5 : c.zr = b.zr) (h6 : c.zx = b.zx) (h7 : c.links = b.links) : updB y b = c := by
  unfold updB
  rw [h, ← h1, ← h2, ← h3, ← h4, ← h5, ← h6, ← h7]
section
variable (nl : List ByteArray) (t u : ByteArray) (b : SBay)
theorem stepB_ct : stepB nl (say [tCt, t]) b = { b with ct := (numS t).1 } := by
  unfold stepB
  rw [show same (hd (say [tCt, t])) tSelect = false from sne (show tCt ≠ tSelect by decide)]
  exact updB_of (setB_ct _ _) rfl rfl rfl rfl rfl rfl rfl
theorem stepB_vt : stepB nl (say [tVt, t]) b = { b with vt := (numS t).1 } := by
  unfold stepB
  rw [show same (hd (say [tVt, t])) tSelect = false from sne (show tVt ≠ tSelect by decide)]
  exact updB_of (setB_vt _ _) rfl rfl rfl rfl rfl rfl rfl
theorem stepB_sa : stepB nl (say [tSat, t]) b = { b with sat := (numS t).1 } := by
  unfold stepB
  rw [show same (hd (say [tSat, t])) tSelect = false from sne (show tSat ≠ tSelect by decide)]
  exact updB_of (setB_sa _ _) rfl rfl rfl rfl rfl rfl rfl
theorem stepB_tr : stepB nl (say [tTravel, t]) b = { b with travel := (numS t).1 } := by
  unfold stepB
  rw [show same (hd (say [tTravel, t])) tSelect = false from sne (show tTravel ≠ tSelect by decide)]
  exact updB_of (setB_tr _ _) rfl rfl rfl rfl rfl rfl rfl
theorem stepB_br : stepB nl (say [tBreaker, tOpen]) b = { b with closed := false } := by
  unfold stepB
  rw [show same (hd (say [tBreaker, tOpen])) tSelect = false from sne (show tBreaker ≠ tSelect by decide)]
  exact updB_of (setB_br _) rfl rfl rfl rfl rfl rfl rfl
theorem stepB_sel {l : SLink} (h : LinkOk nl l) : stepB nl (encSel nl l) b = { b with links := b.links ++ [l] } := by
  unfold stepB
  rw [show same (hd (encSel nl l)) tSelect = true from sre _]
  have e1 : updB (encSel nl l) b = b := updB_of (setB_sel _ _ _) rfl rfl rfl rfl rfl rfl rfl
  have e2 : setL nl (encSel nl l) = l := by
    unfold setL
    show (⟨idxS id (nl.getD l.bus.toNat e0) nl 0, bif same (bif l.pos == 1 then tClosed else tOpen) tClosed then 1 else 0⟩ : SLink) = l
    rw [h.ix]
    rcases h.ps with e | e
    · rw [e, show ((0 : Int) == 1) = false from rfl, cond_false, sne (show tOpen ≠ tClosed by decide), cond_false, ← e]
    · rw [e, show ((1 : Int) == 1) = true from rfl, cond_true, sre, cond_true, ← e]
  rw [e1, e2]; rfl
variable {nl t u b} {r : List It} {n : Nat} {s : Sn}
theorem K_ct (h : (numS t).2 = true) (hf : fresh s tCt) (k : GoodK nl r n ((.string tCt, .bool true) :: s)) : GoodK nl (say [tCt, t] :: r) n s := by
  refine ⟨.inl ⟨t, h, .inl ⟨rfl, hf⟩⟩, ?_⟩
  rw [show same (hd (say [tCt, t])) tSelect = false from sne (show tCt ≠ tSelect by decide)]
  exact k
theorem K_vt (h : (numS t).2 = true) (hf : fresh s tVt) (k : GoodK nl r n ((.string tVt, .bool true) :: s)) : GoodK nl (say [tVt, t] :: r) n s := by
  refine ⟨.inl ⟨t, h, .inr (.inl ⟨rfl, hf⟩)⟩, ?_⟩
  rw [show same (hd (say [tVt, t])) tSelect = false from sne (show tVt ≠ tSelect by decide)]
  exact k
theorem K_sa (h : (numS t).2 = true) (hf : fresh s tSat) (k : GoodK nl r n ((.string tSat, .bool true) :: s)) : GoodK nl (say [tSat, t] :: r) n s := by
  refine ⟨.inl ⟨t, h, .inr (.inr (.inl ⟨rfl, hf⟩))⟩, ?_⟩
  rw [show same (hd (say [tSat, t])) tSelect = false from sne (show tSat ≠ tSelect by decide)]
  exact k
theorem K_tr (h : (numS t).2 = true) (hf : fresh s tTravel) (k : GoodK nl r n ((.string tTravel, .bool true) :: s)) : GoodK nl (say [tTravel, t] :: r) n s := by
  refine ⟨.inl ⟨t, h, .inr (.inr (.inr ⟨rfl, hf⟩))⟩, ?_⟩
  rw [show same (hd (say [tTravel, t])) tSelect = false from sne (show tTravel ≠ tSelect by decide)]
  exact k
theorem K_br (hf : fresh s tBreaker) (k : GoodK nl r n ((.string tBreaker, .bool true) :: s)) : GoodK nl (say [tBreaker, tOpen] :: r) n s := by
  refine ⟨.inr (.inl ⟨rfl, hf⟩), ?_⟩
  rw [show same (hd (say [tBreaker, tOpen])) tSelect = false from sne (show tBreaker ≠ tSelect by decide)]
  exact k
theorem K_sel {l : SLink} (h : LinkOk nl l) (hn : n ≤ 5000) (k : GoodK nl r (n + 1) ((.string tSelect, .bool true) :: s)) : GoodK nl (encSel nl l :: r) n s := by
  refine ⟨.inr (.inr ⟨nl.getD l.bus.toNat e0, ?_, ?_, hn⟩), ?_⟩
  · unfold encSel
    cases (l.pos == 1) with
    | true => exact .inl rfl
    | false => exact .inr rfl
  · rw [h.ix]; have := h.lo; simp; omega
  · rw [show same (hd (encSel nl l)) tSelect = true from sre _]
    exact k
end
theorem kids_ok (s : SSta) (b : SBay) (hN : NumDec) (hct : nOk b.ct) (hvt : nOk b.vt) (hsa : nOk b.sat) (htr : nOk b.travel) (hlk : ∀ l ∈ b.links, LinkOk s.buses l) (hll : b.links.length = 1 ∨ b.links.length = 2) (b0 : SBay) (hb0 : b0.links = []) :
    GoodK s.buses (bayK s b) 0 [] ∧ kidsR s.buses (bayK s b) b0 = { b0 with ct := b.ct, vt := bif b.kind != 3 then b.vt else b0.vt, sat := bif b.sat != 0 then b.sat else b0.sat, travel := b.travel, links := b.links, closed := bif !b.closed then false else b0.closed } ∧
      boolOf (assoc (seenR (bayK s b) []) (.string tCt)) = true ∧ boolOf (assoc (seenR (bayK s b) []) (.string tTravel)) = true ∧ boolOf (assoc (seenR (bayK s b) []) (.string tVt)) = (b.kind != 3) := by
  have l12 : (∃ l, b.links = [l] ∧ LinkOk s.buses l) ∨ (∃ l k, b.links = [l, k] ∧ LinkOk s.buses l ∧ LinkOk s.buses k) := by
    rcases hll with h | h
    · obtain ⟨l, e⟩ := List.length_eq_one_iff.1 h
      exact .inl ⟨l, e, hlk l (by rw [e]; simp)⟩
    · obtain ⟨l, k, e⟩ : ∃ l k, b.links = [l, k] := by
        match hb : b.links, h with
        | [l, k], _ => exact ⟨l, k, rfl⟩
      exact .inr ⟨l, k, e, hlk l (by rw [e]; simp), hlk k (by rw [e]; simp)⟩
  unfold bayK
  rcases l12 with ⟨l, e, h1⟩ | ⟨l, k, e, h1, h2⟩ <;> rw [e] <;> cases (b.kind != 3) <;> cases (b.sat != 0) <;> cases b.closed <;>
    refine ⟨?_, ?_, rfl, rfl, rfl⟩ <;>
    simp only [cond_true, cond_false, Bool.not_true, Bool.not_false, List.singleton_append, List.cons_append, List.nil_append, List.append_nil, List.map_cons, List.map_nil, kidsR, stepB_ct, stepB_vt, stepB_sa, stepB_tr, stepB_br, stepB_sel _ _ h1, hb0, hN.f hct, hN.f hvt, hN.f hsa, hN.f htr] <;>
    first
    | rfl
    | (simp only [stepB_sel _ _ h2, List.cons_append, List.nil_append]; done)
    | (repeat (first | exact True.intro | refine K_ct (hN.s hct) rfl ?_ | refine K_vt (hN.s hvt) rfl ?_ | refine K_sa (hN.s hsa) rfl ?_ | refine K_tr (hN.s htr) rfl ?_ | refine K_sel h1 (by omega) ?_ | refine K_sel h2 (by omega) ?_ | refine K_br rfl ?_))
end Go.Proofs.Ythmapnolgdpkbaa.de
namespace Go.Proofs.Ythmapnolgdpkbaa.de
open Go.RowKit Go.Eb Go.Proofs.Ythmapnolgdpkbaa.st Go.Proofs.Ythmapnolgdpkbaa.wd
set_option maxRecDepth 100000

theorem bs_app (a b : ByteArray) : bs (a ++ b) = bs a ++ bs b := by simp [bs]
theorem val_app (a b : List UInt8) (n : Int) : val (a ++ b) n = val b (val a n) := by
  induction a generalizing n with
  | nil => rfl
  | cons c r ih => exact ih _
theorem u8 {n : Nat} (h : n < 10) : (UInt8.ofNat (48 + n)).toNat = 48 + n := by
  rw [UInt8.toNat_ofNat']; omega
theorem bs1 {n : Nat} (h : n < 10) : bs (decB n) = [UInt8.ofNat (48 + n)] := by rw [decB_lt h]
theorem decB_facts (n : Nat) : digs (bs (decB n)) = true ∧ val (bs (decB n)) 0 = n ∧ (∃ c r, bs (decB n) = c :: r ∧ 48 ≤ c.toNat ∧ (0 < n → c.toNat ≠ 48)) := by
  induction n using Nat.strongRecOn with
  | ind n ih =>
    by_cases h : n < 10
    · rw [bs1 h]
      refine ⟨?_, ?_, _, [], rfl, by rw [u8 h]; omega, fun h0 => by rw [u8 h]; omega⟩
      · show (digit ((UInt8.ofNat (48 + n)).toNat : Int) && true) = true
        rw [u8 h]
        unfold digit
        simp; omega
      · show (10 * 0 + (((UInt8.ofNat (48 + n)).toNat : Int) - 48)) = _
        rw [u8 h]; omega
    · obtain ⟨h1, h2, c, r, h3, h4, h5⟩ := ih (n / 10) (by omega)
      obtain ⟨k1, k2, _⟩ := ih (n % 10) (by omega)
      have hm : n % 10 < 10 := by omega
      rw [decB_ge h, bs_app]
      refine ⟨?_, ?_, c, r ++ bs (decB (n % 10)), by rw [h3]; rfl, h4, fun _ => h5 (by omega)⟩
      · unfold digs at h1 k1 ⊢
        rw [List.all_append, h1, k1]; rfl
      · rw [val_app, h2, bs1 hm]
        show (10 * ((n / 10 : Nat) : Int) + (((UInt8.ofNat (48 + n % 10)).toNat : Int) - 48)) = _
        rw [u8 hm]; omega
theorem decB_sz (k : Nat) : ∀ n : Nat, n < 10 ^ (k + 1) → (decB n).size ≤ k + 1 := by
  induction k with
  | zero => intro n h; rw [decB_lt (by simpa using h)]; exact Nat.le_refl 1
  | succ k ih =>
    intro n h
    by_cases h10 : n < 10
    · rw [decB_lt h10]; show 1 ≤ _; omega
    · rw [decB_ge h10, ByteArray.size_append, decB_lt (show n % 10 < 10 by omega)]
      have : n / 10 < 10 ^ (k + 1) := by
        rw [Nat.div_lt_iff_lt_mul (by omega), ← Nat.pow_succ]; exact h
      have := ih (n / 10) this
      show (decB (n / 10)).size + 1 ≤ _
      omega
theorem cut_none {d : ByteArray} {c : UInt8} {r : List UInt8} (h : bs d = c :: r) (hc : 48 ≤ c.toNat) : cutP d (ByteArray.mk #[45]) = (d, false) := by
  have : hasP d (ByteArray.mk #[45]) = false := by
    unfold hasP
    rw [strEq, sne (fun e => ?_), Bool.and_false]
    have e2 : (d.extract 0 1).data.toList = [45] := by
      exact congrArg (fun x : ByteArray => x.data.toList) e
    have e3 : (d.extract 0 1).data.toList = (bs d).take 1 := by simp [bs]
    rw [e3, h] at e2
    simp at e2
    rw [e2] at hc
    revert hc
    decide
  unfold cutP
  rw [this]; rfl
theorem numDec : NumDec := fun n h0 h1 => by
  obtain ⟨f1, f2, c, r, f3, f4, f5⟩ := decB_facts n.toNat
  have hs : (decB n.toNat).size ≤ 7 := decB_sz 6 n.toNat (by omega)
  have hl : 1 ≤ (decB n.toNat).size := by rw [← bs_len, f3]; simp
  unfold numS dec
  rw [cut_none f3 f4]
  show wd.res (decB n.toNat) false = _
  unfold wd.res
  rw [f1, f2, decide_eq_true hs]
  show fin (decB n.toNat) false (n.toNat : Int) = _
  have hn : ((n.toNat : Nat) : Int) = n := by omega
  rw [hn]
  unfold fin
  have e0 : ((decB n.toNat).toList == (ByteArray.mk #[]).toList) = false := by
    rw [strEq]
    exact sne fun e => by rw [e] at hl; exact absurd hl (by decide)
  have ec : (bs (decB n.toNat)).getD 0 0 = c := by rw [f3]; rfl
  rw [e0, ec]
  cases h48 : (c.toNat == 48) with
  | false => rfl
  | true =>
    have : c.toNat = 48 := by simpa using h48
    have hz : n.toNat = 0 := by
      by_cases hp : 0 < n.toNat
      · exact absurd this (f5 hp)
      · omega
    rw [hz, decB_lt (by omega)]
    rfl

theorem idxS_at {α : Type} {nm : α → ByteArray} {d : α} : ∀ (l : List α) (k : Nat) (j : Int), k < l.length → (∀ i, i < k → nm (l.getD i d) ≠ nm (l.getD k d)) → idxS nm (nm (l.getD k d)) l j = j + k
  | [], k, j, h, _ => by simp at h
  | x :: r, 0, j, _, _ => by
    unfold idxS
    rw [List.getD_cons_zero, sre]
    simp
  | x :: r, k + 1, j, h, hd => by
    unfold idxS
    have h0 := hd 0 (by omega)
    rw [List.getD_cons_zero] at h0
    rw [sne h0, cond_false, List.getD_cons_succ, idxS_at r k (j + 1) (by simpa using h) (fun i hi => by have := hd (i + 1) (by omega); simpa using this)]
    omega
end Go.Proofs.Ythmapnolgdpkbaa.de
namespace Go.Proofs.Ythmapnolgdpkbaa.de
open Go.RowKit Go.Eb Go.Proofs.Ythmapnolgdpkbaa.st
open Go.Proofs.Ythmapnolgdpkbaa.wd (numS rN c11)
set_option maxRecDepth 100000

section
variable (x : It) (s0 : ByteArray) (nl : List ByteArray) (ll : List SLine) (sl : List SSrc) (yl : List SBay) (mpa : Sn) (nd : Bool) (b : SBay)
abbrev rbR (b : SBay) (d : D) : RBay := (b.name, b.kind, b.off, b.fin, b.zr, b.zx, d, b.closed, b.ct, b.vt, b.sat, b.travel, ())
theorem rbay_rbR {b : SBay} {n : Nat} {f : Nat → List D} (h : RL linkC link0 n f b.links) : rbay (rbR b (.sl 2 n f)) = b := by
  have := (h.the (sz := 2) linkC_inj).2
  show (⟨b.name, b.kind, b.off, b.fin, b.zr, b.zx, theE linksD (.sl 2 n f), b.closed, b.ct, b.vt, b.sat, b.travel⟩ : SBay) = b
  rw [show theE linksD (.sl 2 n f) = b.links from this]
theorem okRB_rbR {b : SBay} {n : Nat} {f : Nat → List D} (h : RL linkC link0 n f b.links) (hl : b.links.length ≤ 5000) : okRB (rbR b (.sl 2 n f)) = true := by
  have h1 := (h.the (sz := 2) linkC_inj)
  show okLk (.sl 2 n f) = true
  unfold okLk
  rw [show okE linksD (.sl 2 n f) = true from h1.1, show theE linksD (.sl 2 n f) = b.links from h1.2, decide_eq_true (by omega)]
  rfl
abbrev tyb (d : D) : AY := (((), rbR b d, ()), (s0, nl.length, ll.length, sl.length, yl.length, (), nd, ()), (nl.length, rB nl), (ll.length, rL ll), (sl.length, rS sl), (yl.length, cnB yl), mpa, ())
theorem hoy {n : Nat} {f : Nat → List D} (hr : RL linkC link0 n f b.links) (hb : b.links.length ≤ 5000) (h1 : nl.length ≤ 900) (h2 : ll.length ≤ 900) (h3 : sl.length ≤ 900) (h4 : yl.length ≤ 900) (he : bayErrD nl.length ll.length sl.length (boolOf (assoc mpa (.string b.name))) yl b = 0) : KB.oy zB (tyb s0 nl ll sl yl mpa nd b (.sl 2 n f)) = true := by
  have e2 : eqs (tyb s0 nl ll sl yl mpa nd b (.sl 2 n f)).2 = true := by
    unfold eqs
    simp only [Nat.beq_refl, Bool.true_and, bleD, decide_eq_true h1, decide_eq_true h2, decide_eq_true h3, decide_eq_true h4]
  show (okRB (rbR b (.sl 2 n f)) && (eqs (tyb s0 nl ll sl yl mpa nd b (.sl 2 n f)).2 && (okC bayC bay0 yl.length (cnB yl) && (bayErrD nl.length ll.length sl.length (boolOf (assoc mpa (.string (rbay (rbR b (.sl 2 n f))).name))) (theC bayC bay0 12 yl.length (cnB yl)) (rbay (rbR b (.sl 2 n f))) == 0)))) = true
  rw [okRB_rbR hr hb, e2, okC_can h4, rbay_rbR hr, theC_can bayC_inj, he]
  rfl
theorem hgy {n : Nat} {f : Nat → List D} (hr : RL linkC link0 n f b.links) : KB.gy zB (tyb s0 nl ll sl yl mpa nd b (.sl 2 n f)) = appF yl.length (cnB yl) (chunk (bayC b) 12) := by
  show appF yl.length (cnB yl) (chunk (bayC (rbay (rbR b (.sl 2 n f)))) 12) = _
  rw [rbay_rbR hr]
theorem hmy {n : Nat} {f : Nat → List D} (hr : RL linkC link0 n f b.links) : KB.my zB (tyb s0 nl ll sl yl mpa nd b (.sl 2 n f)) = (.string b.name, .bool true) :: mpa := by
  show (Value.string (rbay (rbR b (.sl 2 n f))).name, Value.bool true) :: mpa = _
  rw [rbay_rbR hr]
def lRb (ln : Int) (H : Hp) : Option (T (AV × Hp)) := some (T.leaf (AV.tup [(false, [C.d (D.v (Value.int IntKind.i64 ln))]), (false, [C.d (D.v (Value.int IntKind.i64 0))])], H))
theorem G13_ok (g m : Nat) (sn : Sn) {n : Nat} {f : Nat → List D} (hr : RL linkC link0 n f b.links) (hb : b.links.length ≤ 5000) (h1 : nl.length ≤ 900) (h2 : ll.length ≤ 900) (h3 : sl.length ≤ 900) (h4 : yl.length < 16) (he : bayErrD nl.length ll.length sl.length (boolOf (assoc mpa (.string b.name))) yl b = 0)
    (hct : boolOf (assoc sn (.string tCt)) = true) (htr : boolOf (assoc sn (.string tTravel)) = true) (hvt : boolOf (assoc sn (.string tVt)) = (b.kind != 3)) :
    G13 x s0 nl ll sl yl mpa nd g (m + 1) sn (.sl 2 n f) b = lRb x.line (H33 b s0 nl.length (rB nl) ll.length (rL ll) sl.length (rS sl) yl mpa nd) := by
  have hct' : boolOf (assoc sn (Value.string (ByteArray.mk #[(99 : UInt8), (116 : UInt8)]))) = true := hct
  have htr' : boolOf (assoc sn (Value.string (ByteArray.mk #[(116 : UInt8), (114 : UInt8), (97 : UInt8), (118 : UInt8), (101 : UInt8), (108 : UInt8)]))) = true := htr
  have hvt' : boolOf (assoc sn (Value.string (ByteArray.mk #[(118 : UInt8), (116 : UInt8)]))) = (b.kind != 3) := hvt
  have h16 : ((yl.length : Int) == (16 : Int)) = false := by
    cases e : ((yl.length : Int) == (16 : Int)) with
    | false => rfl
    | true => have := eq_of_beq e; omega
  unfold G13
  rw [strdb_13, hct', htr', hvt', h16, hoy s0 nl ll sl yl mpa nd b hr hb h1 h2 h3 (by omega) he, hgy s0 nl ll sl yl mpa nd b hr, hmy s0 nl ll sl yl mpa nd b hr]
  cases (b.kind != 3) <;> rfl
end

/-! the head's facts -/
theorem asleK (x : It) (ks : ByteArray) (b : Bool) : Asle [AV.agg [C.d (D.v (Value.int IntKind.i64 (It.line x))), C.d (listD 2 wcells w0 (It.words x)), C.d (D.v (Value.bool (It.block x))), C.d (listD 4 icells i0 (It.kids x))], AV.c (C.d (D.v (Value.string ks))), AV.c (C.d (D.v (Value.bool b)))] (enF (x, ks, b)) ∧ Asle (enF (x, ks, b)) [AV.agg [C.d (D.v (Value.int IntKind.i64 (It.line x))), C.d (listD 2 wcells w0 (It.words x)), C.d (D.v (Value.bool (It.block x))), C.d (listD 4 icells i0 (It.kids x))], AV.c (C.d (D.v (Value.string ks))), AV.c (C.d (D.v (Value.bool b)))] := by
  have a1 : DEs [dI x.line, wordsD x.words, dB x.block, itemsD x.kids] (icells x) := .cons (.refl _) (.cons (.refl _) (.cons (.refl _) (.cons (itemsD_de x) .nil)))
  have a2 : DEs (icells x) [dI x.line, wordsD x.words, dB x.block, itemsD x.kids] := .cons (.refl _) (.cons (.refl _) (.cons (.refl _) (.cons (kidsD_de x) .nil)))
  exact ⟨.cons (show Ale (.agg _) (.agg _) from Csle.ofD a1) (.cons (.refl _) (.cons (.refl _) .nil)), .cons (show Ale (.agg _) (.agg _) from Csle.ofD a2) (.cons (.refl _) (.cons (.refl _) .nil))⟩
theorem ko (x : It) (ks : ByteArray) (b : Bool) (h : x.words.length ≤ 2000) : KB.okf zB [AV.agg [C.d (D.v (Value.int IntKind.i64 (It.line x))), C.d (listD 2 wcells w0 (It.words x)), C.d (D.v (Value.bool (It.block x))), C.d (listD 4 icells i0 (It.kids x))], AV.c (C.d (D.v (Value.string ks))), AV.c (C.d (D.v (Value.bool b)))] = true :=
  okG_of enF_inj (asleK x ks b).1 (asleK x ks b).2 (by unfold cF; exact decide_eq_true h)
theorem kr (x : It) (ks : ByteArray) (b : Bool) : rFm [AV.agg [C.d (D.v (Value.int IntKind.i64 (It.line x))), C.d (listD 2 wcells w0 (It.words x)), C.d (D.v (Value.bool (It.block x))), C.d (listD 4 icells i0 (It.kids x))], AV.c (C.d (D.v (Value.string ks))), AV.c (C.d (D.v (Value.bool b)))] = formR x ks b := by
  unfold rFm
  rw [theT_of enF_inj (asleK x ks b).1 (asleK x ks b).2]
theorem kf (x : It) (ks : ByteArray) (b : Bool) : KB.fo zB [AV.agg [C.d (D.v (Value.int IntKind.i64 (It.line x))), C.d (listD 2 wcells w0 (It.words x)), C.d (D.v (Value.bool (It.block x))), C.d (listD 4 icells i0 (It.kids x))], AV.c (C.d (D.v (Value.string ks))), AV.c (C.d (D.v (Value.bool b)))] = (formR x ks b).2 := by rw [← kr]; rfl
theorem kn (x : It) (ks : ByteArray) (b : Bool) : KB.fn zB [AV.agg [C.d (D.v (Value.int IntKind.i64 (It.line x))), C.d (listD 2 wcells w0 (It.words x)), C.d (D.v (Value.bool (It.block x))), C.d (listD 4 icells i0 (It.kids x))], AV.c (C.d (D.v (Value.string ks))), AV.c (C.d (D.v (Value.bool b)))] = (formR x ks b).1.length := by rw [← kr]; rfl
theorem kv (x : It) (ks : ByteArray) (b : Bool) (i : Nat) : KB.fv zB [AV.agg [C.d (D.v (Value.int IntKind.i64 (It.line x))), C.d (listD 2 wcells w0 (It.words x)), C.d (D.v (Value.bool (It.block x))), C.d (listD 4 icells i0 (It.kids x))], AV.c (C.d (D.v (Value.string ks))), AV.c (C.d (D.v (Value.bool b)))] i = (formR x ks b).1.getD i 0 := by rw [← kr]; rfl
theorem okY_it {x : It} (h : 3 < x.words.length) : okY (It.line x, wordsD (It.words x), It.block x, itemsD (It.kids x), ()) = true ∧ theIt (It.line x, wordsD (It.words x), It.block x, itemsD (It.kids x), ()) = x := by
  have a1 : DEs [dI x.line, wordsD x.words, dB x.block, itemsD x.kids] (icells x) := .cons (.refl _) (.cons (.refl _) (.cons (.refl _) (.cons (itemsD_de x) .nil)))
  have a2 : DEs (icells x) [dI x.line, wordsD x.words, dB x.block, itemsD x.kids] := .cons (.refl _) (.cons (.refl _) (.cons (.refl _) (.cons (kidsD_de x) .nil)))
  have := theIt_of (r := (It.line x, wordsD (It.words x), It.block x, itemsD (It.kids x), ())) a1 a2
  refine ⟨?_, this.2⟩
  unfold okY
  rw [this.1, this.2, decide_eq_true h]
  simp only [Bool.and_true, decide_eq_true_eq]
  exact a2
section
variable (x : It) (ll : List SLine) (sl : List SSrc)
theorem hol (h : ll.length ≤ 900) (hw : 3 < x.words.length) : KB.ol zB ((ll.length, (), ()), (ll.length, rL ll), (It.line x, wordsD (It.words x), It.block x, itemsD (It.kids x), ()), ()) = true := by
  show (okC lineC line0 ll.length (rL ll) && (Nat.beq ll.length ll.length && okY (It.line x, wordsD (It.words x), It.block x, itemsD (It.kids x), ()))) = true
  rw [okC_can h, Nat.beq_refl, (okY_it hw).1]; rfl
theorem hil (hw : 3 < x.words.length) : KB.il zB ((ll.length, (), ()), (ll.length, rL ll), (It.line x, wordsD (It.words x), It.block x, itemsD (It.kids x), ()), ()) = idxS SLine.name (tx x 3) ll 0 := by
  show idxS SLine.name (tx (theIt (It.line x, wordsD (It.words x), It.block x, itemsD (It.kids x), ())) 3) (theC lineC line0 5 ll.length (rL ll)) 0 = _
  rw [(okY_it hw).2, theC_can lineC_inj]
theorem hos (h : sl.length ≤ 900) (hw : 3 < x.words.length) : KB.os zB ((sl.length, (), ()), (sl.length, rS sl), (It.line x, wordsD (It.words x), It.block x, itemsD (It.kids x), ()), ()) = true := by
  show (okC srcC' src0 sl.length (rS sl) && (Nat.beq sl.length sl.length && okY (It.line x, wordsD (It.words x), It.block x, itemsD (It.kids x), ()))) = true
  rw [okC_can h, Nat.beq_refl, (okY_it hw).1]; rfl
theorem his (hw : 3 < x.words.length) : KB.is zB ((sl.length, (), ()), (sl.length, rS sl), (It.line x, wordsD (It.words x), It.block x, itemsD (It.kids x), ()), ()) = idxS SSrc.name (tx x 3) sl 0 := by
  show idxS SSrc.name (tx (theIt (It.line x, wordsD (It.words x), It.block x, itemsD (It.kids x), ())) 3) (theC srcC' src0 6 sl.length (rS sl)) 0 = _
  rw [(okY_it hw).2, theC_can srcC_inj]
end
end Go.Proofs.Ythmapnolgdpkbaa.de
namespace Go.Proofs.Ythmapnolgdpkbaa.de
open Go.RowKit Go.Eb Go.Proofs.Ythmapnolgdpkbaa.st
open Go.Proofs.Ythmapnolgdpkbaa.wd (numS rN c11)
set_option maxRecDepth 100000

abbrev xB (ws : List ByteArray) (ks : List It) : It := .mk 0 (plainW ws) true ks
theorem form_l (a b c d e : ByteArray) (ks : List It) (h : (numS e).2 = true) : formR (xB [a, b, c, d, e] ks) (ByteArray.mk #[119, 119, 119, 119, 110]) true = ([(numS e).1], true) := by
  have e1 : formS (xB [a, b, c, d, e] ks).words (ByteArray.mk #[119, 119, 119, 119, 110]).data.toList = ([(numS e).1], true) := by
    show (bif !(numS e).2 then (([] : List Int), false) else ([(numS e).1], true)) = _
    rw [h]; rfl
  unfold formR
  rw [e1]; rfl
theorem form_s (a b c d : ByteArray) (ks : List It) : formR (xB [a, b, c, d] ks) (ByteArray.mk #[119, 119, 119, 119]) true = ([], true) := rfl
theorem form_c (a b c d e : ByteArray) (ks : List It) (h : (numS d).2 = true) (k : (numS e).2 = true) : formR (xB [a, b, c, d, e] ks) (ByteArray.mk #[119, 119, 119, 110, 110]) true = ([(numS d).1, (numS e).1], true) := by
  have e1 : formS (xB [a, b, c, d, e] ks).words (ByteArray.mk #[119, 119, 119, 110, 110]).data.toList = ([(numS d).1, (numS e).1], true) := by
    show (bif !(numS d).2 then (([] : List Int), false) else ((numS d).1 :: (bif !(numS e).2 then (([] : List Int), false) else ([(numS e).1], true)).1, (bif !(numS e).2 then (([] : List Int), false) else ([(numS e).1], true)).2)) = _
    rw [h, k]; rfl
  unfold formR
  rw [e1]; rfl
section
variable (s0 : ByteArray) (nl : List ByteArray) (ll : List SLine) (sl : List SSrc) (yl : List SBay) (mpa : Sn) (nd : Bool) (ks : List It) (nm o : ByteArray) (off fi zr zx : Int) (g : Nat)
abbrev HD' : Hp := HD s0 nl.length (rB nl) ll.length (rL ll) sl.length (rS sl) yl.length (cnB yl) mpa nd
theorem b3' {n : Nat} (h : 3 ≤ n) : decide ((n : Int) < 3) = false := by simp; omega
theorem b1' {n : Nat} (h : 3 ≤ n) : decide ((1 : Int) < (n : Int)) = true := by simp; omega
theorem b2' {n : Nat} (h : 3 ≤ n) : decide ((2 : Int) < (n : Int)) = true := by simp; omega
theorem ev_l (hN : NumDec) (hf : nOk fi) (h2 : ll.length ≤ 900) (hi : idxS SLine.name o ll 0 = off) (h0 : 0 ≤ off) :
    callC Try.prog (oRb zB) annrdb g Try.f64 (bodyOf Try.f64) [.c (.ptr 0 0), aItK (xB [tBay', nm, tLine', o, dec fi] ks)] (HD' s0 nl ll sl yl mpa nd) =
      L6 (xB [tBay', nm, tLine', o, dec fi] ks) s0 nl ll sl yl mpa nd g g 0 (fun _ => []) [] 0 ⟨nm, 1, off, fi, 0, 0, [], true, 0, 0, 0, 0⟩ := by
  refine (evrdb zB (xB [tBay', nm, tLine', o, dec fi] ks) s0 nl.length (rB nl) ll.length (rL ll) sl.length (rS sl) yl.length (cnB yl) mpa nd g).trans ?_
  have fr := form_l tBay' nm tLine' o (dec fi) ks (hN.s hf)
  have hl : 3 < (xB [tBay', nm, tLine', o, dec fi] ks).words.length := by show 3 < 5; omega
  have w1 : Wd.text (List.getD (It.words (xB [tBay', nm, tLine', o, dec fi] ks)) (Int.toNat (1 : Int)) w0) = nm := rfl
  have w2 : Wd.text (List.getD (It.words (xB [tBay', nm, tLine', o, dec fi] ks)) (Int.toNat (2 : Int)) w0) = tLine' := rfl
  have hx : tx (xB [tBay', nm, tLine', o, dec fi] ks) 3 = o := rfl
  have eL : (ByteArray.toList tLine' == ByteArray.toList (ByteArray.mk #[(108 : UInt8), (105 : UInt8), (110 : UInt8), (101 : UInt8)])) = true := by rw [strEq]; exact sre _
  have d1 : decide ((0 : Int) ≤ 1) = true := rfl
  have d2 : decide ((0 : Int) ≤ 2) = true := rfl
  have d0 : decide ((0 : Int) ≤ 0) = true := rfl
  have f1 : decide ((0 : Int) < (([(numS (dec fi)).1] : List Int).length : Int)) = true := rfl
  have fo : decide (off < 0) = false := by simp; omega
  have fg : ([(numS (dec fi)).1] : List Int).getD (Int.toNat 0) 0 = fi := hN.f hf
  rw [b3' (show 3 ≤ (xB [tBay', nm, tLine', o, dec fi] ks).words.length by omega), b1' (show 3 ≤ (xB [tBay', nm, tLine', o, dec fi] ks).words.length by omega), b2' (show 3 ≤ (xB [tBay', nm, tLine', o, dec fi] ks).words.length by omega), w1, w2, eL, ko _ _ _ (by show 5 ≤ 2000; omega), kf, kn, kv, fr, hol _ ll h2 hl, hil _ ll hl, hx, hi, fo, d0, d1, d2, f1, fg]
  rfl
theorem ev_s (h3 : sl.length ≤ 900) (hi : idxS SSrc.name o sl 0 = off) (h0 : 0 ≤ off) :
    callC Try.prog (oRb zB) annrdb g Try.f64 (bodyOf Try.f64) [.c (.ptr 0 0), aItK (xB [tBay', nm, tSource, o] ks)] (HD' s0 nl ll sl yl mpa nd) =
      L6 (xB [tBay', nm, tSource, o] ks) s0 nl ll sl yl mpa nd g g 0 (fun _ => []) [] 0 ⟨nm, 2, off, 0, 0, 0, [], true, 0, 0, 0, 0⟩ := by
  refine (evrdb zB (xB [tBay', nm, tSource, o] ks) s0 nl.length (rB nl) ll.length (rL ll) sl.length (rS sl) yl.length (cnB yl) mpa nd g).trans ?_
  have fr := form_s tBay' nm tSource o ks
  have hl : 3 < (xB [tBay', nm, tSource, o] ks).words.length := by show 3 < 4; omega
  have w1 : Wd.text (List.getD (It.words (xB [tBay', nm, tSource, o] ks)) (Int.toNat (1 : Int)) w0) = nm := rfl
  have w2 : Wd.text (List.getD (It.words (xB [tBay', nm, tSource, o] ks)) (Int.toNat (2 : Int)) w0) = tSource := rfl
  have hx : tx (xB [tBay', nm, tSource, o] ks) 3 = o := rfl
  have eL : (ByteArray.toList tSource == ByteArray.toList (ByteArray.mk #[(108 : UInt8), (105 : UInt8), (110 : UInt8), (101 : UInt8)])) = false := by rw [strEq]; exact sne (by decide)
  have eS : (ByteArray.toList tSource == ByteArray.toList (ByteArray.mk #[(115 : UInt8), (111 : UInt8), (117 : UInt8), (114 : UInt8), (99 : UInt8), (101 : UInt8)])) = true := by rw [strEq]; exact sre _
  have d1 : decide ((0 : Int) ≤ 1) = true := rfl
  have d2 : decide ((0 : Int) ≤ 2) = true := rfl
  have fo : decide (off < 0) = false := by simp; omega
  rw [b3' (show 3 ≤ (xB [tBay', nm, tSource, o] ks).words.length by omega), b1' (show 3 ≤ (xB [tBay', nm, tSource, o] ks).words.length by omega), b2' (show 3 ≤ (xB [tBay', nm, tSource, o] ks).words.length by omega), w1, w2, eL, eS, ko _ (ByteArray.mk #[119, 119, 119, 119]) _ (by show 4 ≤ 2000; omega), kf _ (ByteArray.mk #[119, 119, 119, 119]), fr, hos _ sl h3 hl, his _ sl hl, hx, hi, fo, d1, d2]
  rfl
theorem ev_c (hN : NumDec) (hr : nOk zr) (hz : nOk zx) :
    callC Try.prog (oRb zB) annrdb g Try.f64 (bodyOf Try.f64) [.c (.ptr 0 0), aItK (xB [tBay', nm, tCoupler, dec zr, dec zx] ks)] (HD' s0 nl ll sl yl mpa nd) =
      L6 (xB [tBay', nm, tCoupler, dec zr, dec zx] ks) s0 nl ll sl yl mpa nd g g 0 (fun _ => []) [] 0 ⟨nm, 3, 0, 0, zr, zx, [], true, 0, 0, 0, 0⟩ := by
  refine (evrdb zB (xB [tBay', nm, tCoupler, dec zr, dec zx] ks) s0 nl.length (rB nl) ll.length (rL ll) sl.length (rS sl) yl.length (cnB yl) mpa nd g).trans ?_
  have fr := form_c tBay' nm tCoupler (dec zr) (dec zx) ks (hN.s hr) (hN.s hz)
  have hl : 3 < (xB [tBay', nm, tCoupler, dec zr, dec zx] ks).words.length := by show 3 < 5; omega
  have w1 : Wd.text (List.getD (It.words (xB [tBay', nm, tCoupler, dec zr, dec zx] ks)) (Int.toNat (1 : Int)) w0) = nm := rfl
  have w2 : Wd.text (List.getD (It.words (xB [tBay', nm, tCoupler, dec zr, dec zx] ks)) (Int.toNat (2 : Int)) w0) = tCoupler := rfl
  have eL : (ByteArray.toList tCoupler == ByteArray.toList (ByteArray.mk #[(108 : UInt8), (105 : UInt8), (110 : UInt8), (101 : UInt8)])) = false := by rw [strEq]; exact sne (by decide)
  have eS : (ByteArray.toList tCoupler == ByteArray.toList (ByteArray.mk #[(115 : UInt8), (111 : UInt8), (117 : UInt8), (114 : UInt8), (99 : UInt8), (101 : UInt8)])) = false := by rw [strEq]; exact sne (by decide)
  have eC : (ByteArray.toList tCoupler == ByteArray.toList (ByteArray.mk #[(99 : UInt8), (111 : UInt8), (117 : UInt8), (112 : UInt8), (108 : UInt8), (101 : UInt8), (114 : UInt8)])) = true := by rw [strEq]; exact sre _
  have d1 : decide ((0 : Int) ≤ 1) = true := rfl
  have d2 : decide ((0 : Int) ≤ 2) = true := rfl
  have d0 : decide ((0 : Int) ≤ 0) = true := rfl
  have f0 : decide ((0 : Int) < (([(numS (dec zr)).1, (numS (dec zx)).1] : List Int).length : Int)) = true := rfl
  have f1 : decide ((1 : Int) < (([(numS (dec zr)).1, (numS (dec zx)).1] : List Int).length : Int)) = true := rfl
  have fg : ([(numS (dec zr)).1, (numS (dec zx)).1] : List Int).getD (Int.toNat 0) 0 = zr := hN.f hr
  have fh : ([(numS (dec zr)).1, (numS (dec zx)).1] : List Int).getD (Int.toNat 1) 0 = zx := hN.f hz
  rw [b3' (show 3 ≤ (xB [tBay', nm, tCoupler, dec zr, dec zx] ks).words.length by omega), b1' (show 3 ≤ (xB [tBay', nm, tCoupler, dec zr, dec zx] ks).words.length by omega), b2' (show 3 ≤ (xB [tBay', nm, tCoupler, dec zr, dec zx] ks).words.length by omega), w1, w2, eL, eS, eC, ko _ (ByteArray.mk #[119, 119, 119, 110, 110]) _ (by show 5 ≤ 2000; omega), kf _ (ByteArray.mk #[119, 119, 119, 110, 110]), kn _ (ByteArray.mk #[119, 119, 119, 110, 110]), kv _ (ByteArray.mk #[119, 119, 119, 110, 110]), kv _ (ByteArray.mk #[119, 119, 119, 110, 110]), fr, d0, d1, d2, f0, f1, fg, fh]
  rfl
end
end Go.Proofs.Ythmapnolgdpkbaa.de
namespace Go.Proofs.Ythmapnolgdpkbaa.de
open Go.RowKit Go.Eb Go.Proofs.Ythmapnolgdpkbaa.st
open Go.Proofs.Ythmapnolgdpkbaa.wd (numS rN c11)
set_option maxRecDepth 100000

theorem bay_facts {nb nl ns : Nat} {dup : Bool} {bef : List SBay} {b : SBay} (h : bayErrD nb nl ns dup bef b = 0) : (b.kind = 1 ∨ b.kind = 2 ∨ b.kind = 3) ∧ rngOk b = true ∧ 0 ≤ b.off ∧ (b.kind = 3 → b.off = 0) ∧ linksErr nb b = 0 := by
  unfold bayErrD at h
  cases hn : nameOk b.name with
  | false => rw [hn] at h; exact absurd h (show ¬ (7 : Int) = 0 by decide)
  | true =>
    rw [hn] at h
    cases dup with
    | true => exact absurd h (show ¬ (8 : Int) = 0 by decide)
    | false =>
      simp only [Bool.not_true, cond_false] at h
      cases hc : cntOf nl ns b.kind with
      | none => rw [hc] at h; exact absurd h (show ¬ (10 : Int) = 0 by decide)
      | some c =>
        rw [hc] at h
        simp only [] at h
        have hk : b.kind = 1 ∨ b.kind = 2 ∨ (b.kind = 3 ∧ c = 1) := by
          unfold cntOf at hc
          cases e1 : (b.kind == 1) with
          | true => exact .inl (eq_of_beq e1)
          | false =>
            cases e2 : (b.kind == 2) with
            | true => exact .inr (.inl (eq_of_beq e2))
            | false =>
              cases e3 : (b.kind == 3) with
              | true => rw [e1, e2, e3] at hc; simp only [cond_true, cond_false, Option.some.injEq] at hc; exact .inr (.inr ⟨eq_of_beq e3, hc.symm⟩)
              | false => rw [e1, e2, e3] at hc; cases hc
        cases hw : within b.off 0 (c - 1) with
        | false => rw [hw] at h; exact absurd h (show ¬ (9 : Int) = 0 by decide)
        | true =>
          rw [hw] at h
          cases hr : rngOk b with
          | false => rw [hr] at h; exact absurd h (show ¬ (2 : Int) = 0 by decide)
          | true =>
            rw [hr] at h
            cases ha : bef.any (clash b) with
            | true => rw [ha] at h; exact absurd h (show ¬ (12 : Int) = 0 by decide)
            | false =>
              rw [ha] at h
              simp only [Bool.not_true, cond_false] at h
              unfold within at hw
              simp only [Bool.and_eq_true, decide_eq_true_eq] at hw
              refine ⟨?_, rfl, hw.1, fun k => ?_, h⟩
              · rcases hk with k | k | k
                · exact .inl k
                · exact .inr (.inl k)
                · exact .inr (.inr k.1)
              · rcases hk with k' | k' | ⟨_, k'⟩ <;> omega
theorem links_len {nb : Nat} {b : SBay} (h : linksErr nb b = 0) : (b.links.length = 1 ∨ b.links.length = 2) ∧ linkErr nb b.kind none b.links = 0 := by
  unfold linksErr at h
  cases e1 : decide (b.links.length < 1) with
  | true => rw [e1] at h; exact absurd h (show ¬ (3 : Int) = 0 by decide)
  | false =>
    cases e2 : decide (2 < b.links.length) with
    | true => rw [e1, e2] at h; exact absurd h (show ¬ (3 : Int) = 0 by decide)
    | false =>
      cases e3 : (b.kind == 3 && b.links.length != 2) with
      | true => rw [e1, e2, e3] at h; exact absurd h (show ¬ (3 : Int) = 0 by decide)
      | false =>
        rw [e1, e2, e3] at h
        have q1 := of_decide_eq_false e1
        have q2 := of_decide_eq_false e2
        exact ⟨by omega, h⟩
theorem rng_facts {b : SBay} (h : rngOk b = true) : nOk b.ct ∧ nOk b.vt ∧ nOk b.sat ∧ nOk b.travel ∧ nOk b.fin ∧ nOk b.zr ∧ nOk b.zx ∧ (b.kind = 3 → b.vt = 0) ∧ (b.kind ≠ 1 → b.fin = 0) ∧ (b.kind ≠ 3 → b.zr = 0 ∧ b.zx = 0) := by
  unfold rngOk at h
  unfold nOk
  by_cases k3 : b.kind = 3
  · have k1 : ¬ b.kind = 1 := by omega
    simp [k3, within, impOk] at h
    refine ⟨by omega, by omega, by omega, by omega, by omega, by omega, by omega, fun _ => by omega, fun _ => by omega, fun q => absurd k3 q⟩
  · by_cases k1 : b.kind = 1
    · simp [k1, within, impOk] at h
      refine ⟨by omega, by omega, by omega, by omega, by omega, by omega, by omega, fun _ => by omega, fun _ => by omega, fun q => by omega⟩
    · have kb : (b.kind == 1) = false := by simpa using k1
      simp [kb, k3, within, impOk] at h
      refine ⟨by omega, by omega, by omega, by omega, by omega, by omega, by omega, fun _ => by omega, fun _ => by omega, fun q => by omega⟩
theorem back (b b0 : SBay) (e1 : b0.name = b.name) (e2 : b0.kind = b.kind) (e3 : b0.off = b.off) (e4 : b0.fin = b.fin) (e5 : b0.zr = b.zr) (e6 : b0.zx = b.zx) (c0 : b0.closed = true) (v0 : b0.vt = 0) (a0 : b0.sat = 0) (hv : b.kind = 3 → b.vt = 0) :
    ({ b0 with ct := b.ct, vt := bif b.kind != 3 then b.vt else b0.vt, sat := bif b.sat != 0 then b.sat else b0.sat, travel := b.travel, links := b.links, closed := bif !b.closed then false else b0.closed } : SBay) = b := by
  have q1 : (bif b.kind != 3 then b.vt else b0.vt) = b.vt := by
    cases h : (b.kind != 3) with
    | true => rfl
    | false => have : b.kind = 3 := by simpa using h
               rw [cond_false, v0, hv this]
  have q2 : (bif b.sat != 0 then b.sat else b0.sat) = b.sat := by
    cases h : (b.sat != 0) with
    | true => rfl
    | false => have : b.sat = 0 := by simpa using h
               rw [cond_false, a0, this]
  have q3 : (bif !b.closed then false else b0.closed) = b.closed := by rw [c0]; cases b.closed <;> rfl
  rw [q1, q2, q3, e1, e2, e3, e4, e5, e6]
theorem bayK_len (s : SSta) (b : SBay) (h : b.links.length = 1 ∨ b.links.length = 2) : (bayK s b).length ≤ 9000 := by
  unfold bayK
  simp only [List.length_append, List.length_map]
  cases (b.kind != 3) <;> cases (b.sat != 0) <;> cases b.closed <;> simp only [cond_true, cond_false, Bool.not_true, Bool.not_false, List.length_cons, List.length_nil] <;> omega
section
variable (s : SSta) (b : SBay) (s0 : ByteArray) (yl : List SBay) (mpa : Sn) (nd : Bool)
theorem after (x : It) (b0 : SBay) (hx : x.kids = bayK s b) (h1 : s.buses.length ≤ 900) (h2 : s.lines.length ≤ 900) (h3 : s.srcs.length ≤ 900) (h4 : yl.length < 16)
    (he : bayErrD s.buses.length s.lines.length s.srcs.length (boolOf (assoc mpa (.string b.name))) yl b = 0) (hlk : ∀ l ∈ b.links, LinkOk s.buses l) (hl0 : b0.links = []) 
    (e1 : b0.name = b.name) (e2 : b0.kind = b.kind) (e3 : b0.off = b.off) (e4 : b0.fin = b.fin) (e5 : b0.zr = b.zr) (e6 : b0.zx = b.zx) (c0 : b0.closed = true) (v0 : b0.vt = 0) (a0 : b0.sat = 0) :
    L6 x s0 s.buses s.lines s.srcs yl mpa nd 9001 9001 0 (fun _ => []) [] 0 b0 = lRb x.line (H33 b s0 s.buses.length (rB s.buses) s.lines.length (rL s.lines) s.srcs.length (rS s.srcs) yl mpa nd) := by
  obtain ⟨hk, hr, _, _, hle⟩ := bay_facts he
  obtain ⟨hll, _⟩ := links_len hle
  obtain ⟨r1, r2, r3, r4, _, _, _, r8, _, _⟩ := rng_facts hr
  obtain ⟨k1, k2, k3, k4, k5⟩ := kids_ok s b numDec r1 r2 r3 r4 hlk hll b0 hl0
  have hK := bayK_len s b hll
  obtain ⟨n', f', p1, p2⟩ := lp6 x s0 s.buses s.lines s.srcs yl mpa nd h1 (by rw [hx]; exact hK) 9001 (bayK s b) 9001 0 0 (fun _ => []) [] b0 (by rw [hx]; rfl) (Nat.zero_le _) (by omega) k1 (by rw [hl0]; exact RL.nil _)
  rw [show ((0 : Nat) : Int) = 0 from rfl] at p2
  have hb : kidsR s.buses (bayK s b) b0 = b := k2.trans (back b b0 e1 e2 e3 e4 e5 e6 c0 v0 a0 r8)
  rw [hb] at p1 p2
  exact p2.trans (G13_ok x s0 s.buses s.lines s.srcs yl mpa nd b 9001 9000 _ p1 (by omega) h1 h2 h3 h4 he k3 k4 k5)
theorem crb (h1 : s.buses.length ≤ 900) (h2 : s.lines.length ≤ 900) (h3 : s.srcs.length ≤ 900) (h4 : yl.length < 16)
    (he : bayErrD s.buses.length s.lines.length s.srcs.length (boolOf (assoc mpa (.string b.name))) yl b = 0) (hlk : ∀ l ∈ b.links, LinkOk s.buses l)
    (hL : b.kind = 1 → idxS SLine.name (s.lines.getD b.off.toNat line0).name s.lines 0 = b.off) (hS : b.kind = 2 → idxS SSrc.name (s.srcs.getD b.off.toNat src0).name s.srcs 0 = b.off) :
    CX Try.prog 64 [.c (.ptr 0 0), aIt (encBay s b)] (HD' s0 s.buses s.lines s.srcs yl mpa nd) (.tup [pI 0, pI 0]) (H33 b s0 s.buses.length (rB s.buses) s.lines.length (rL s.lines) s.srcs.length (rS s.srcs) yl mpa nd) := by
  obtain ⟨hk, hr, ho, ho3, hle⟩ := bay_facts he
  obtain ⟨r1, r2, r3, r4, r5, r6, r7, r8, r9, r10⟩ := rng_facts hr
  have key : ∀ (x : It) (b0 : SBay), encBay s b = x → x.kids = bayK s b → x.line = 0 →
      callC Try.prog (oRb zB) annrdb 9001 Try.f64 (bodyOf Try.f64) [.c (.ptr 0 0), aItK x] (HD' s0 s.buses s.lines s.srcs yl mpa nd) = L6 x s0 s.buses s.lines s.srcs yl mpa nd 9001 9001 0 (fun _ => []) [] 0 b0 →
      b0.links = [] → b0.name = b.name → b0.kind = b.kind → b0.off = b.off → b0.fin = b.fin → b0.zr = b.zr → b0.zx = b.zx → b0.closed = true → b0.vt = 0 → b0.sat = 0 →
      CX Try.prog 64 [.c (.ptr 0 0), aIt (encBay s b)] (HD' s0 s.buses s.lines s.srcs yl mpa nd) (.tup [pI 0, pI 0]) (H33 b s0 s.buses.length (rB s.buses) s.lines.length (rL s.lines) s.srcs.length (rS s.srcs) yl mpa nd) := by
    intro x b0 hx hxk hxl hev hl0 e1 e2 e3 e4 e5 e6 c0 v0 a0
    have ha := after s b s0 yl mpa nd x b0 hxk h1 h2 h3 h4 he hlk hl0 e1 e2 e3 e4 e5 e6 c0 v0 a0
    rw [hxl] at ha
    rw [hx]
    have a2 : DEs (icells x) [dI x.line, wordsD x.words, dB x.block, itemsD x.kids] := .cons (.refl _) (.cons (.refl _) (.cons (.refl _) (.cons (kidsD_de x) .nil)))
    exact (cx_of sRb.ok Try.func64 brdb rfl (hev.trans ha)).ge (.cons (.refl _) (.cons (show Ale (.agg _) (.agg _) from Csle.ofD a2) .nil)) (.refl _)
  rcases hk with k | k | k
  · have hx : encBay s b = xB [tBay', b.name, tLine', (s.lines.getD b.off.toNat line0).name, dec b.fin] (bayK s b) := by
      unfold encBay bayW
      rw [k]; rfl
    obtain ⟨z1, z2⟩ := r10 (by omega)
    exact key _ ⟨b.name, 1, b.off, b.fin, 0, 0, [], true, 0, 0, 0, 0⟩ hx rfl rfl (ev_l s0 s.buses s.lines s.srcs yl mpa nd (bayK s b) b.name _ b.off b.fin 9001 numDec r5 h2 (hL k) ho) rfl rfl k.symm rfl rfl z1.symm z2.symm rfl rfl rfl
  · have hx : encBay s b = xB [tBay', b.name, tSource, (s.srcs.getD b.off.toNat src0).name] (bayK s b) := by
      unfold encBay bayW
      rw [k]; rfl
    obtain ⟨z1, z2⟩ := r10 (by omega)
    exact key _ ⟨b.name, 2, b.off, 0, 0, 0, [], true, 0, 0, 0, 0⟩ hx rfl rfl (ev_s s0 s.buses s.lines s.srcs yl mpa nd (bayK s b) b.name _ b.off 9001 h3 (hS k) ho) rfl rfl k.symm rfl (r9 (by omega)).symm z1.symm z2.symm rfl rfl rfl
  · have hx : encBay s b = xB [tBay', b.name, tCoupler, dec b.zr, dec b.zx] (bayK s b) := by
      unfold encBay bayW
      rw [k]; rfl
    exact key _ ⟨b.name, 3, 0, 0, b.zr, b.zx, [], true, 0, 0, 0, 0⟩ hx rfl rfl (ev_c s0 s.buses s.lines s.srcs yl mpa nd (bayK s b) b.name b.zr b.zx 9001 numDec r6 r7) rfl rfl k.symm (ho3 k).symm (r9 (by omega)).symm rfl rfl rfl rfl rfl
end
end Go.Proofs.Ythmapnolgdpkbaa.de
