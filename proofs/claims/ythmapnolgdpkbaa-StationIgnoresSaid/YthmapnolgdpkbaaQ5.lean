/-
  An evaluator of Go code on abstract values, proved sound, and what it computes of the functions that the statement reaches (part 5). No condition.
-/
import Derived.Test.YthmapnolgdpkbaaQ4
import Derived.Test.YthmapnolgdpkbaaProg
import Derived.KernelRfl
namespace Go.Proofs.Ythmapnolgdpkbaa.ck
open Go.RowKit Go.Eb
open Go.Proofs.Ythmapnolgdpkbaa.wd (letter digit plainR plainS)

abbrev aWd (w : Wd) : AV := .agg ((wcells w).map .d)
def decWd : List AV → Option Wd
  | [.agg [.d (.v (.string s)), .d (.v (.bool q))]] => some ⟨s, q⟩
  | _ => none
def sB : Nat := 9223372036854775807

noncomputable def o49 : Orc := Orc.cons 78 (ansP dec32 fun r => vB (letter r)) Orc.nil
set_option maxRecDepth 100000 in
theorem ev49 (w : Wd) : callC Try.prog o49 na 1 Try.f70 (bodyOf Try.f70) [aWd w] [] =
 (bif !Wd.q w then (bif !ByteArray.toList (Wd.text w) == ByteArray.toList (ByteArray.mk #[]) then (bif decide ((0 : Int) ≤ (0 : Int)) && decide ((0 : Int) < (↑(ByteArray.size
 (Wd.text w)) : Int)) then some (T.leaf (AV.c (C.d (D.v (Value.bool (letter (IntKind.wrap IntKind.i32 (↑(UInt8.toNat (List.getD (Array.toList (ByteArray.data (Wd.text w))) (Int.toNat
 (0 : Int)) (0 : UInt8))) : Int)))))), [])) else none) else some (T.leaf (AV.c (C.d (D.v (Value.bool false))), []))) else some (T.leaf (AV.c (C.d (D.v (Value.bool false))), []))) := by kernel_rfl
noncomputable def o55 : Orc := Orc.cons 76 (ansP dec8 fun r => vB (letter r)) Orc.nil
set_option maxRecDepth 100000 in
theorem ev55 (w : Wd) : callC Try.prog o55 na 1 Try.f68 (bodyOf Try.f68) [aWd w] [] =
 (bif !Wd.q w then (bif !ByteArray.toList (Wd.text w) == ByteArray.toList (ByteArray.mk #[]) then (bif decide ((0 : Int) ≤ (0 : Int)) && decide ((0 : Int) < (↑(ByteArray.size
 (Wd.text w)) : Int)) then some (T.leaf (AV.c (C.d (D.v (Value.bool (letter (↑(UInt8.toNat (List.getD (Array.toList (ByteArray.data (Wd.text w))) (Int.toNat (0 : Int)) (0 : UInt8)))
 : Int))))), [])) else none) else some (T.leaf (AV.c (C.d (D.v (Value.bool false))), []))) else some (T.leaf (AV.c (C.d (D.v (Value.bool false))), []))) := by kernel_rfl

noncomputable def ann50 := annOf [(2, ⟨[0, 5, 6], []⟩)]
noncomputable def L50 (s : ByteArray) (g m : Nat) (i : Int) := loopK Try.prog Orc.nil ann50 0 g (sub [true, false, true, false, false] (bodyOf Try.f71)) m ⟨frm [(0, vS s), (5, vI s.size), (6, vI i)] 0 Try.f71.ntmps, [], 0⟩ (kAt Try.prog Orc.nil ann50 0 g [true, false, true, false] (bodyOf Try.f71) (kEnd Try.prog Try.f71 0))
set_option maxRecDepth 100000 in
theorem ev50 (s : ByteArray) (g : Nat) : callC Try.prog Orc.nil ann50 g Try.f71 (bodyOf Try.f71) [vS s] [] =
 L50 s g g ((0 : Int)) := by kernel_rfl
set_option maxRecDepth 100000 in
theorem st50 (s : ByteArray) (g m : Nat) (i : Int) : L50 s g (m + 1) i =
 (bif decide (i < (↑(ByteArray.size s) : Int)) then (bif decide ((0 : Int) ≤ i) && decide (i < (↑(ByteArray.size s) : Int)) then (bif decide ((↑(UInt8.toNat (List.getD (Array.toList
 (ByteArray.data s)) (Int.toNat i) (0 : UInt8))) : Int) < (32 : Int)) then some (T.leaf (AV.c (C.d (D.v (Value.bool false))), [])) else (bif decide ((0 : Int) ≤ i) && decide (i <
 (↑(ByteArray.size s) : Int)) then (bif decide ((↑(UInt8.toNat (List.getD (Array.toList (ByteArray.data s)) (Int.toNat i) (0 : UInt8))) : Int) > (126 : Int)) then some (T.leaf (AV.c
 (C.d (D.v (Value.bool false))), [])) else (bif decide ((0 : Int) ≤ i) && decide (i < (↑(ByteArray.size s) : Int)) then (bif (↑(UInt8.toNat (List.getD (Array.toList (ByteArray.data
 s)) (Int.toNat i) (0 : UInt8))) : Int) == (34 : Int) then some (T.leaf (AV.c (C.d (D.v (Value.bool false))), [])) else L50 s g m (IntKind.wrap IntKind.i64 (i + (1 : Int)))) else
 none)) else none)) else none) else some (T.leaf (AV.c (C.d (D.v (Value.bool true))), []))) := by kernel_rfl

noncomputable def o37 (op : Wd → Bool) (qu : ByteArray → Bool) : Orc := Orc.cons 70 (ansP decWd fun w => vB (op w)) (Orc.cons 71 (ansC decS (fun s => decide (s.size ≤ sB)) fun s => vB (qu s)) (Orc.cons 72 (ansP decS fun s => vB (plainS s)) Orc.nil))
noncomputable def ann37 := annOf [(6, ⟨[1, 22, 23, 24], []⟩)]
noncomputable def L37 (op : Wd → Bool) (qu : ByteArray → Bool) (x : It) (g m : Nat) (i : Int) := loopK Try.prog (o37 op qu) ann37 0 g (sub [true, true, true, false, true, false, false] (bodyOf Try.f59)) m ⟨frm [(1, .c (.ptr 0 0)), (22, aW x.words), (23, vI x.words.length), (24, vI i)] 0 Try.f59.ntmps, [(0, .cells ((icells x).map .d) 45)], 1⟩ (kAt Try.prog (o37 op qu) ann37 0 g [true, true, true, false, true, false] (bodyOf Try.f59) (kEnd Try.prog Try.f59 0))
set_option maxRecDepth 100000 in
theorem ev37 (op : Wd → Bool) (qu : ByteArray → Bool) (x : It) (g : Nat) : callC Try.prog (o37 op qu) ann37 g Try.f59 (bodyOf Try.f59) [aT x] [] =
 (bif (↑(List.length (It.words x)) : Int) == (0 : Int) then some (T.leaf (AV.c (C.d (D.v (Value.int IntKind.i64 (6 : Int)))), [])) else (bif decide ((0 : Int) ≤ (0 : Int)) && decide
 ((0 : Int) < (↑(List.length (It.words x)) : Int)) then (bif !op (Wd.mk (Wd.text (List.getD (It.words x) (Int.toNat (0 : Int)) w0)) (Wd.q (List.getD (It.words x) (Int.toNat (0 :
 Int)) w0))) then some (T.leaf (AV.c (C.d (D.v (Value.int IntKind.i64 (6 : Int)))), [])) else (bif decide ((↑(List.length (It.words x)) : Int) > (40 : Int)) then some (T.leaf (AV.c
 (C.d (D.v (Value.int IntKind.i64 (3 : Int)))), [])) else L37 op qu x g g ((0 : Int)))) else none)) := by kernel_rfl
set_option maxRecDepth 100000 in
theorem st37 (op : Wd → Bool) (qu : ByteArray → Bool) (x : It) (g m : Nat) (i : Int) : L37 op qu x g (m + 1) i =
 (bif decide (i < (↑(List.length (It.words x)) : Int)) then (bif decide ((0 : Int) ≤ i) && decide (i < (↑(List.length (It.words x)) : Int)) then (bif decide ((↑(ByteArray.size
 (Wd.text (List.getD (It.words x) (Int.toNat i) w0))) : Int) > (120 : Int)) then some (T.leaf (AV.c (C.d (D.v (Value.int IntKind.i64 (4 : Int)))), [])) else (bif Wd.q (List.getD
 (It.words x) (Int.toNat i) w0) then (bif decide (ByteArray.size (Wd.text (List.getD (It.words x) (Int.toNat i) w0)) ≤ sB) then (bif !qu (Wd.text (List.getD (It.words x) (Int.toNat
 i) w0)) then some (T.leaf (AV.c (C.d (D.v (Value.int IntKind.i64 (5 : Int)))), [])) else (bif !Wd.q (List.getD (It.words x) (Int.toNat i) w0) then (bif !plainS (Wd.text (List.getD
 (It.words x) (Int.toNat i) w0)) then some (T.leaf (AV.c (C.d (D.v (Value.int IntKind.i64 (6 : Int)))), [])) else L37 op qu x g m (IntKind.wrap IntKind.i64 (i + (1 : Int)))) else L37
 op qu x g m (IntKind.wrap IntKind.i64 (i + (1 : Int))))) else none) else (bif !Wd.q (List.getD (It.words x) (Int.toNat i) w0) then (bif !plainS (Wd.text (List.getD (It.words x)
 (Int.toNat i) w0)) then some (T.leaf (AV.c (C.d (D.v (Value.int IntKind.i64 (6 : Int)))), [])) else L37 op qu x g m (IntKind.wrap IntKind.i64 (i + (1 : Int)))) else L37 op qu x g m
 (IntKind.wrap IntKind.i64 (i + (1 : Int)))))) else none) else (bif !It.block x then (bif decide ((↑(List.length (It.kids x)) : Int) > (0 : Int)) then some (T.leaf (AV.c (C.d (D.v
 (Value.int IntKind.i64 (12 : Int)))), [])) else some (T.leaf (AV.c (C.d (D.v (Value.int IntKind.i64 (0 : Int)))), []))) else some (T.leaf (AV.c (C.d (D.v (Value.int IntKind.i64 (0 :
 Int)))), [])))) := by kernel_rfl

/-- a statement as an argument -/
noncomputable def ansT (g : Int → D → Bool → D → AV) : (R : Type) → List AV → Hp → (AV → Hp → Option (T R)) → Option (T R) := fun _ args H k => match H, args with
  | [], [.agg [.d (.v (.int .i64 n)), .d w, .d (.v (.bool b)), .d ks]] => bif okW w && okI ks && okWs (theW w) && okL (theI ks) then k (g n w b ks) [] else none
  | _, _ => none
/-- the counter and the function's own variable -/
abbrev H36 (n : Int) : Hp := [(0, .cells [.d (.v (.int .i64 n))] 3), (1, .cells [.fn 58 [] [.ptr 0 0, .ptr 1 0]] 110)]
def ans36 (c : D → Bool) (e : D → Int → Int → Int) (n' : D → Int → Int → Int) : (R : Type) → List AV → Hp → (AV → Hp → Option (T R)) → Option (T R) := fun _ args H k => match H, args with
  | [(0, .cells [.d (.v (.int .i64 n))] 3), (1, .cells [.fn 58 [] [.ptr 0 0, .ptr 1 0]] 110)], [.c (.d x), .c (.d (.v (.int .i64 d))), .c (.ptr 0 0), .c (.ptr 1 0)] => bif c x then k (vI (e x d n)) (H36 (n' x d n)) else none
  | _, _ => none
noncomputable def o36 (ci : Int → D → Bool → D → Int) (c : D → Bool) (e n' : D → Int → Int → Int) : Orc := Orc.cons 59 (ansT fun n w b ks => vI (ci n w b ks)) (Orc.cons 58 (ans36 c e n') Orc.nil)
noncomputable def ann36 := annOf [(2, ⟨[1, 2, 3, 11, 12, 13], []⟩)]
noncomputable def L36 (ci : Int → D → Bool → D → Int) (c : D → Bool) (e n' : D → Int → Int → Int) (l : List It) (d : Int) (g m : Nat) (n i : Int) := loopK Try.prog (o36 ci c e n') ann36 2 g (sub [true, false, true, false, false] (bodyOf Try.f58)) m ⟨frm [(1, vI d), (2, .c (.ptr 0 0)), (3, .c (.ptr 1 0)), (11, aI l), (12, vI l.length), (13, vI i)] 0 Try.f58.ntmps, H36 n, 2⟩ (kAt Try.prog (o36 ci c e n') ann36 2 g [true, false, true, false] (bodyOf Try.f58) (kEnd Try.prog Try.f58 2))
set_option maxRecDepth 100000 in
theorem ev36 (ci : Int → D → Bool → D → Int) (c : D → Bool) (e n' : D → Int → Int → Int) (l : List It) (d : Int) (g : Nat) (n : Int) : callC Try.prog (o36 ci c e n') ann36 g Try.f58 (bodyOf Try.f58) [aI l, vI d, .c (.ptr 0 0), .c (.ptr 1 0)] (H36 n) =
 L36 ci c e n' l d g g n ((0 : Int)) := by kernel_rfl
set_option maxRecDepth 100000 in
theorem st36 (ci : Int → D → Bool → D → Int) (c : D → Bool) (e n' : D → Int → Int → Int) (l : List It) (d : Int) (g m : Nat) (n i : Int) : L36 ci c e n' l d g (m + 1) n i =
 (bif decide (i < (↑(List.length l) : Int)) then (bif decide ((0 : Int) ≤ i) && decide (i < (↑(List.length l) : Int)) then (bif decide (IntKind.wrap IntKind.i64 (n + (1 : Int)) >
 (600 : Int)) then some (T.leaf (AV.c (C.d (D.v (Value.int IntKind.i64 (3 : Int)))), [((0 : Nat), Blk.cells [C.d (D.v (Value.int IntKind.i64 (IntKind.wrap IntKind.i64 (n + (1 :
 Int)))))] ((3 : Nat))), ((1 : Nat), Blk.cells [C.fn ((58 : Nat)) [] [Rf.ptr ((0 : Nat)) ((0 : Nat)), Rf.ptr ((1 : Nat)) ((0 : Nat))]] ((110 : Nat)))])) else (bif decide (d > (4 :
 Int)) then some (T.leaf (AV.c (C.d (D.v (Value.int IntKind.i64 (17 : Int)))), [((0 : Nat), Blk.cells [C.d (D.v (Value.int IntKind.i64 (IntKind.wrap IntKind.i64 (n + (1 : Int)))))]
 ((3 : Nat))), ((1 : Nat), Blk.cells [C.fn ((58 : Nat)) [] [Rf.ptr ((0 : Nat)) ((0 : Nat)), Rf.ptr ((1 : Nat)) ((0 : Nat))]] ((110 : Nat)))])) else (bif okW (wordsD (It.words
 (List.getD l (Int.toNat i) i0))) && okI (kidsD (List.getD l (Int.toNat i) i0)) && okWs (theW (wordsD (It.words (List.getD l (Int.toNat i) i0)))) && okL (theI (kidsD (List.getD l
 (Int.toNat i) i0))) then (bif ci (It.line (List.getD l (Int.toNat i) i0)) (wordsD (It.words (List.getD l (Int.toNat i) i0))) (It.block (List.getD l (Int.toNat i) i0)) (kidsD
 (List.getD l (Int.toNat i) i0)) != (0 : Int) then some (T.leaf (AV.c (C.d (D.v (Value.int IntKind.i64 (ci (It.line (List.getD l (Int.toNat i) i0)) (wordsD (It.words (List.getD l
 (Int.toNat i) i0))) (It.block (List.getD l (Int.toNat i) i0)) (kidsD (List.getD l (Int.toNat i) i0)))))), [((0 : Nat), Blk.cells [C.d (D.v (Value.int IntKind.i64 (IntKind.wrap
 IntKind.i64 (n + (1 : Int)))))] ((3 : Nat))), ((1 : Nat), Blk.cells [C.fn ((58 : Nat)) [] [Rf.ptr ((0 : Nat)) ((0 : Nat)), Rf.ptr ((1 : Nat)) ((0 : Nat))]] ((110 : Nat)))])) else
 (bif c (kidsD (List.getD l (Int.toNat i) i0)) then (bif e (kidsD (List.getD l (Int.toNat i) i0)) (IntKind.wrap IntKind.i64 (d + (1 : Int))) (IntKind.wrap IntKind.i64 (n + (1 :
 Int))) != (0 : Int) then some (T.leaf (AV.c (C.d (D.v (Value.int IntKind.i64 (e (kidsD (List.getD l (Int.toNat i) i0)) (IntKind.wrap IntKind.i64 (d + (1 : Int))) (IntKind.wrap
 IntKind.i64 (n + (1 : Int))))))), [((0 : Nat), Blk.cells [C.d (D.v (Value.int IntKind.i64 (n' (kidsD (List.getD l (Int.toNat i) i0)) (IntKind.wrap IntKind.i64 (d + (1 : Int)))
 (IntKind.wrap IntKind.i64 (n + (1 : Int))))))] ((3 : Nat))), ((1 : Nat), Blk.cells [C.fn ((58 : Nat)) [] [Rf.ptr ((0 : Nat)) ((0 : Nat)), Rf.ptr ((1 : Nat)) ((0 : Nat))]] ((110 :
 Nat)))])) else L36 ci c e n' l d g m (n' (kidsD (List.getD l (Int.toNat i) i0)) (IntKind.wrap IntKind.i64 (d + (1 : Int))) (IntKind.wrap IntKind.i64 (n + (1 : Int)))) (IntKind.wrap
 IntKind.i64 (i + (1 : Int)))) else none)) else none))) else none) else some (T.leaf (AV.c (C.d (D.v (Value.int IntKind.i64 (0 : Int)))), [((0 : Nat), Blk.cells [C.d (D.v (Value.int
 IntKind.i64 n))] ((3 : Nat))), ((1 : Nat), Blk.cells [C.fn ((58 : Nat)) [] [Rf.ptr ((0 : Nat)) ((0 : Nat)), Rf.ptr ((1 : Nat)) ((0 : Nat))]] ((110 : Nat)))]))) := by kernel_rfl
noncomputable def o16 (c : D → Bool) (e n' : D → Int → Int → Int) : Orc := Orc.cons 58 (ans36 c e n') Orc.nil
set_option maxRecDepth 100000 in
theorem ev16 (c : D → Bool) (e n' : D → Int → Int → Int) (l : List It) : callC Try.prog (o16 c e n') na 1 Try.f42 (bodyOf Try.f42) [aI l] [] =
 (bif c (itemsD l) then some (T.leaf (AV.c (C.d (D.v (Value.int IntKind.i64 (e (itemsD l) (0 : Int) (0 : Int))))), [])) else none) := by kernel_rfl

end Go.Proofs.Ythmapnolgdpkbaa.ck
namespace Go.Proofs.Ythmapnolgdpkbaa.ck
open Go.RowKit Go.Eb
open Go.Proofs.Ythmapnolgdpkbaa.wd

theorem aT_ge {n : Int} {w ks : D} {b : Bool} (hw : okW w = true) (hk : okI ks = true) : Ale (.agg [.d (.v (.int .i64 n)), .d w, .d (.v (.bool b)), .d ks]) (aT (.mk n (theW w) b (theI ks))) :=
  Csle.cons (DE.refl _) (Csle.cons (theW_de hw) (Csle.cons (DE.refl _) (Csle.cons ((theI_de hk).trans (itemsD_de (.mk n (theW w) b (theI ks)))) Csle.nil)))
theorem drop_cons {α : Type} (l : List α) (d : α) {k : Nat} (h : k < l.length) : l.drop k = l.getD k d :: l.drop (k + 1) := drop_at' h

theorem b49 : Try.f70.body = some (bodyOf Try.f70) := by kernel_rfl
theorem b55 : Try.f68.body = some (bodyOf Try.f68) := by kernel_rfl
theorem b50 : Try.f71.body = some (bodyOf Try.f71) := by kernel_rfl
theorem b37 : Try.f59.body = some (bodyOf Try.f59) := by kernel_rfl
theorem b36 : Try.f58.body = some (bodyOf Try.f58) := by kernel_rfl
theorem b16 : Try.f42.body = some (bodyOf Try.f42) := by kernel_rfl
theorem decWd_ok (args : List AV) (w : Wd) (h : decWd args = some w) : args = [aWd w] := by
  unfold decWd at h
  split at h
  · cases h; rfl
  · simp at h

/-- may begin a statement -/
def opn (w : Wd) : Bool := !w.q && (!(w.text.toList == (ByteArray.mk #[]).toList) && letter ((bs w.text).getD 0 0).toNat)

theorem pos_of_ne {d : ByteArray} (hz : (d.toList == (ByteArray.mk #[]).toList) = false) : 0 < d.size := by
  rcases Nat.eq_zero_or_pos d.size with h0 | h0
  · exfalso
    have : d = ByteArray.mk #[] := by
      cases d with
      | mk a => congr 1; exact Array.eq_empty_of_size_eq_zero h0
    rw [this] at hz; simp at hz
  · exact h0
theorem byte_lt (c : UInt8) : (c.toNat : Int) ≤ 255 := by have := c.toNat_lt; omega

theorem c49 (w : Wd) : CX Try.prog 70 [aWd w] [] (vB (opn w)) [] := by
  have ho : OrcOk Try.prog o49 := Orc.cons_ok (Orc.nil_ok _) (ansP_ok dec32_ok c46)
  refine cx_of ho Try.func70 b49 rfl ((ev49 w).trans ?_)
  unfold opn
  cases hq : w.q with
  | true => rfl
  | false =>
    cases hz : (w.text.toList == (ByteArray.mk #[]).toList) with
    | true => rfl
    | false =>
      have hp := pos_of_ne hz
      have g1 : (decide ((0 : Int) ≤ 0) && decide ((0 : Int) < (w.text.size : Int))) = true := by simp; omega
      have hw : IntKind.wrap IntKind.i32 ((((bs w.text).getD (Int.toNat 0) 0).toNat : Nat) : Int) = (((bs w.text).getD (Int.toNat 0) 0).toNat : Int) := wrap32_id (by omega) (by have := byte_lt ((bs w.text).getD (Int.toNat 0) 0); omega)
      rw [g1]
      simp only [Bool.not_false, cond_true, Bool.true_and]
      rw [hw]
      rfl
theorem c55 (w : Wd) : CX Try.prog 68 [aWd w] [] (vB (opn w)) [] := by
  have ho : OrcOk Try.prog o55 := Orc.cons_ok (Orc.nil_ok _) (ansP_ok dec8_ok c47)
  refine cx_of ho Try.func68 b55 rfl ((ev55 w).trans ?_)
  unfold opn
  cases hq : w.q with
  | true => rfl
  | false =>
    cases hz : (w.text.toList == (ByteArray.mk #[]).toList) with
    | true => rfl
    | false =>
      have hp := pos_of_ne hz
      have g1 : (decide ((0 : Int) ≤ 0) && decide ((0 : Int) < (w.text.size : Int))) = true := by simp; omega
      rw [g1]
      rfl

/-- may be between quotes -/
def qch (c : UInt8) : Bool := !(decide ((c.toNat : Int) < 32)) && (!(decide ((c.toNat : Int) > 126)) && !((c.toNat : Int) == 34))
def quot (s : ByteArray) : Bool := (bs s).all qch

theorem lp50 (s : ByteArray) (g : Nat) (hs : s.size ≤ 9223372036854775807) : ∀ (m k : Nat), k ≤ s.size → s.size - k < m → L50 s g m k = some (.leaf (vB (((bs s).drop k).all qch), []))
  | 0, k, _, h => by omega
  | m + 1, k, hk, h => by
    rw [st50]
    by_cases hlt : k < s.size
    · have hl : k < (bs s).length := by rw [bs_len]; exact hlt
      rw [all_drop _ _ hl]
      simp only [lt1 hlt, ge0, tn, Bool.and_self, cond_true]
      rw [nx hlt hs, lp50 s g hs m (k + 1) (by omega) (by omega)]
      unfold qch
      cases decide ((((bs s).getD k 0).toNat : Int) < 32) <;> cases decide ((((bs s).getD k 0).toNat : Int) > 126) <;> cases ((((bs s).getD k 0).toNat : Int) == 34) <;> rfl
    · rw [lt0 hlt, List.drop_of_length_le (by rw [bs_len]; omega)]
      rfl
theorem c50 (s : ByteArray) (hs : s.size ≤ 9223372036854775807) : CX Try.prog 71 [vS s] [] (vB (quot s)) [] := by
  refine cx_of (Orc.nil_ok _) Try.func71 b50 rfl ((ev50 s (s.size + 1)).trans ?_)
  exact lp50 s (s.size + 1) hs (s.size + 1) 0 (by omega) (by omega)

/-- the error of a word, of words, of a statement -/
def cwd (w : Wd) : Int := bif decide ((w.text.size : Int) > 120) then 4 else bif w.q then (bif quot w.text then 0 else 5) else (bif plainS w.text then 0 else 6)
def cws : List Wd → Int
  | [] => 0
  | w :: r => bif cwd w != 0 then cwd w else cws r
def ckItem (x : It) : Int :=
  bif (x.words.length : Int) == 0 then 6 else bif !opn (x.words.getD 0 w0) then 6 else bif decide ((x.words.length : Int) > 40) then 3 else
    bif cws x.words != 0 then cws x.words else bif !x.block then (bif decide ((x.kids.length : Int) > 0) then 12 else 0) else 0
def ckEnd (x : It) (e : Int) : Int := bif e != 0 then e else bif !x.block then (bif decide ((x.kids.length : Int) > 0) then 12 else 0) else 0

theorem ok37 : OrcOk Try.prog (o37 opn quot) := Orc.cons_ok (Orc.cons_ok (Orc.cons_ok (Orc.nil_ok _) (ansP_ok decS_ok c13)) (ansC_ok decS_ok fun s h => c50 s (by unfold sB at h; simpa using h))) (ansP_ok decWd_ok c49)

theorem wsz {l : List Wd} (h : okWs l = true) {k : Nat} (hk : k < l.length) : (l.getD k w0).text.size ≤ 9223372036854775807 := by
  unfold okWs at h
  simp only [Bool.and_eq_true, List.all_eq_true, decide_eq_true_eq] at h
  refine h.2 _ ?_
  simp [List.getD, hk]

theorem lp37 (x : It) (g : Nat) (hw : okWs x.words = true) : ∀ (m k : Nat), k ≤ x.words.length → x.words.length - k < m → L37 opn quot x g m k = some (.leaf (vI (ckEnd x (cws (x.words.drop k))), []))
  | 0, k, _, h => by omega
  | m + 1, k, hk, h => by
    rw [st37]
    by_cases hlt : k < x.words.length
    · have hsz : decide ((x.words.getD k w0).text.size ≤ sB) = true := decide_eq_true (wsz hw hlt)
      simp only [lt1 hlt, ge0, tn, Bool.and_self, cond_true, hsz]
      rw [nx hlt (okWs_len hw), lp37 x g hw m (k + 1) (by omega) (by omega), drop_cons x.words w0 hlt]
      simp only [cws, cwd]
      cases decide (((x.words.getD k w0).text.size : Int) > 120) <;> cases (x.words.getD k w0).q <;> cases quot (x.words.getD k w0).text <;> cases plainS (x.words.getD k w0).text <;> rfl
    · rw [lt0 hlt, List.drop_of_length_le (by omega)]
      unfold ckEnd cws
      cases x.block <;> cases decide ((x.kids.length : Int) > 0) <;> rfl

theorem c37 (x : It) (hw : okWs x.words = true) : CX Try.prog 59 [aT x] [] (vI (ckItem x)) [] := by
  refine cx_of ok37 Try.func59 b37 rfl ((ev37 opn quot x (x.words.length + 1)).trans ?_)
  have hl := lp37 x (x.words.length + 1) hw (x.words.length + 1) 0 (by omega) (by omega)
  have hl' : L37 opn quot x (x.words.length + 1) (x.words.length + 1) 0 = _ := hl
  rw [hl']
  unfold ckItem ckEnd
  cases h0 : ((x.words.length : Int) == 0) with
  | true => rfl
  | false =>
    have hne : x.words.length ≠ 0 := fun e => by rw [e] at h0; simp at h0
    have hp : (decide ((0 : Int) ≤ 0) && decide ((0 : Int) < (x.words.length : Int))) = true := by rw [decide_eq_true (show (0 : Int) < (x.words.length : Int) by omega)]; rfl
    rw [hp]
    simp only [cond_false, cond_true, List.drop_zero]
    show (bif !opn (x.words.getD 0 w0) then _ else _) = _
    cases opn (x.words.getD 0 w0) <;> cases decide ((x.words.length : Int) > 40) <;> cases (cws x.words != 0) <;> rfl

theorem ansT_ok {f : FuncId} {ci : It → Int} (hc : ∀ x, okWs x.words = true → CX Try.prog f [aT x] [] (vI (ci x)) []) : ∀ (R : Type) args H (k : AV → Hp → Option (T R)) t, ansT (fun n w b ks => vI (ci (.mk n (theW w) b (theI ks)))) R args H k = some t → ∃ x H', k x H' = some t ∧ CX Try.prog f args H x H' := fun R args H k t h => by
  unfold ansT at h
  split at h
  · rename_i n w b ks
    cases hx : (okW w && okI ks && okWs (theW w) && okL (theI ks)) with
    | false => rw [hx] at h; cases h
    | true =>
      rw [hx] at h
      simp only [Bool.and_eq_true] at hx
      obtain ⟨⟨⟨h1, h2⟩, h3⟩, h4⟩ := hx
      exact ⟨_, _, h, (hc (.mk n (theW w) b (theI ks)) h3).ge (.cons (aT_ge h1 h2) .nil) .nil⟩
  · simp at h

/-- Check, of the program: the error, and what the counter holds -/
def chP : List It → Int → Int → Int × Int
  | [], _, n => (0, n)
  | .mk a w b k :: r, d, n =>
    bif decide (IntKind.wrap IntKind.i64 (n + 1) > 600) then (3, IntKind.wrap IntKind.i64 (n + 1)) else bif decide (d > 4) then (17, IntKind.wrap IntKind.i64 (n + 1)) else
      bif ckItem (.mk a w b k) != 0 then (ckItem (.mk a w b k), IntKind.wrap IntKind.i64 (n + 1)) else
        bif (chP k (IntKind.wrap IntKind.i64 (d + 1)) (IntKind.wrap IntKind.i64 (n + 1))).1 != 0 then chP k (IntKind.wrap IntKind.i64 (d + 1)) (IntKind.wrap IntKind.i64 (n + 1)) else
          chP r d (chP k (IntKind.wrap IntKind.i64 (d + 1)) (IntKind.wrap IntKind.i64 (n + 1))).2
theorem chP_cons (x : It) (r : List It) (d n : Int) : chP (x :: r) d n = bif decide (IntKind.wrap IntKind.i64 (n + 1) > 600) then (3, IntKind.wrap IntKind.i64 (n + 1)) else bif decide (d > 4) then (17, IntKind.wrap IntKind.i64 (n + 1)) else
      bif ckItem x != 0 then (ckItem x, IntKind.wrap IntKind.i64 (n + 1)) else
        bif (chP x.kids (IntKind.wrap IntKind.i64 (d + 1)) (IntKind.wrap IntKind.i64 (n + 1))).1 != 0 then chP x.kids (IntKind.wrap IntKind.i64 (d + 1)) (IntKind.wrap IntKind.i64 (n + 1)) else
          chP r d (chP x.kids (IntKind.wrap IntKind.i64 (d + 1)) (IntKind.wrap IntKind.i64 (n + 1))).2 := by cases x; simp only [chP, It.kids]

noncomputable def cc (N : Nat) (x : D) : Bool := okI x && okL (theI x) && decide (dep (theI x) < N)
noncomputable def ciP (n : Int) (w : D) (b : Bool) (ks : D) : Int := ckItem (.mk n (theW w) b (theI ks))
noncomputable def eP (x : D) (d n : Int) : Int := (chP (theI x) d n).1
noncomputable def nP (x : D) (d n : Int) : Int := (chP (theI x) d n).2

theorem lp36 (N : Nat) (l : List It) (d : Int) (g : Nat) (hN : dep l ≤ N) (hL : okL l = true) : ∀ (m k : Nat) (n : Int), k ≤ l.length → l.length - k < m →
    L36 ciP (cc N) eP nP l d g m n k = some (.leaf (vI (chP (l.drop k) d n).1, H36 (chP (l.drop k) d n).2))
  | 0, k, n, _, h => by omega
  | m + 1, k, n, hk, h => by
    rw [st36]
    by_cases hlt : k < l.length
    · have hd := dep_get l k hlt
      obtain ⟨ho, hw⟩ := okL_get hL hlt
      have hdd : decide (dep (l.getD k i0).kids < N) = true := decide_eq_true (by omega)
      simp only [lt1 hlt, ge0, tn, Bool.and_self, cond_true, cc, eP, nP, ciP, okW_words, theW_words, okI_kids, theI_kids, ho, hw, hdd]
      rw [nx hlt (okL_len hL), lp36 N l d g hN hL m (k + 1) _ (by omega) (by omega), drop_cons l i0 hlt, chP_cons]
      rw [← It.eta (l.getD k i0)]
      cases decide (IntKind.wrap IntKind.i64 (n + 1) > 600) with
      | true => rfl
      | false =>
        cases decide (d > 4) with
        | true => rfl
        | false =>
          cases hc : (ckItem (l.getD k i0) != 0) with
          | true => rfl
          | false =>
            cases he : ((chP (l.getD k i0).kids (IntKind.wrap IntKind.i64 (d + 1)) (IntKind.wrap IntKind.i64 (n + 1))).1 != 0) with
            | true => simp only [cond_false, cond_true]
            | false => rfl
    · rw [lt0 hlt, List.drop_of_length_le (by omega)]
      simp only [cond_false, chP]

theorem ans36_ok {N : Nat} (hc : ∀ (l : List It) (d n : Int), dep l < N → okL l = true → CX Try.prog 58 [aI l, vI d, .c (.ptr 0 0), .c (.ptr 1 0)] (H36 n) (vI (chP l d n).1) (H36 (chP l d n).2)) :
    ∀ (R : Type) args H (k : AV → Hp → Option (T R)) t, ans36 (cc N) eP nP R args H k = some t → ∃ x H', k x H' = some t ∧ CX Try.prog 58 args H x H' := fun R args H k t h => by
  unfold ans36 at h
  split at h
  · rename_i n x d
    cases hx : cc N x with
    | false => rw [hx] at h; cases h
    | true =>
      rw [hx] at h
      unfold cc at hx
      simp only [Bool.and_eq_true, decide_eq_true_eq] at hx
      exact ⟨_, _, h, (hc (theI x) d n hx.2 hx.1.2).ge (.cons (ale_d (theI_de hx.1.1)) (.refl _)) (.refl _)⟩
  · simp at h

theorem c36 : ∀ (N : Nat) (l : List It) (d n : Int), dep l < N → okL l = true → CX Try.prog 58 [aI l, vI d, .c (.ptr 0 0), .c (.ptr 1 0)] (H36 n) (vI (chP l d n).1) (H36 (chP l d n).2)
  | 0, l, d, n, h, _ => by omega
  | N + 1, l, d, n, h, hL => by
    have ho : OrcOk Try.prog (o36 ciP (cc N) eP nP) := Orc.cons_ok (Orc.cons_ok (Orc.nil_ok _) (ans36_ok (c36 N))) (ansT_ok c37)
    refine cx_of ho Try.func58 b36 rfl ((ev36 ciP (cc N) eP nP l d (l.length + 1) n).trans ?_)
    exact lp36 N l d (l.length + 1) (by omega) hL (l.length + 1) 0 n (by omega) (by omega)

def chk (l : List It) : Int := (chP l 0 0).1
theorem c16 (l : List It) (hL : okL l = true) : CX Try.prog 42 [aI l] [] (vI (chk l)) [] := by
  have ho : OrcOk Try.prog (o16 (cc (dep l + 1)) eP nP) := Orc.cons_ok (Orc.nil_ok _) (ans36_ok (c36 (dep l + 1)))
  refine cx_of ho Try.func42 b16 rfl ((ev16 (cc (dep l + 1)) eP nP l).trans ?_)
  simp only [cc, eP, okI_items, theI_items, hL, Bool.true_and]
  rw [decide_eq_true (Nat.lt_succ_self _)]
  rfl

end Go.Proofs.Ythmapnolgdpkbaa.ck
namespace Go.Proofs.Ythmapnolgdpkbaa.de
open Go.RowKit Go.Eb Go.Proofs.Ythmapnolgdpkbaa.st
open Go.Proofs.Ythmapnolgdpkbaa.wd (numS rN c11)
set_option maxRecDepth 100000

/-- the bay that a statement tells of -/
noncomputable def b0Of (ll : List SLine) (sl : List SSrc) (y : It) : SBay :=
  bif same (tx y 2) tLine' then ⟨tx y 1, 1, idxS SLine.name (tx y 3) ll 0, (numS (tx y 4)).1, 0, 0, [], true, 0, 0, 0, 0⟩
  else bif same (tx y 2) tSource then ⟨tx y 1, 2, idxS SSrc.name (tx y 3) sl 0, 0, 0, 0, [], true, 0, 0, 0, 0⟩
  else ⟨tx y 1, 3, 0, 0, (numS (tx y 3)).1, (numS (tx y 4)).1, [], true, 0, 0, 0, 0⟩
noncomputable def bayOf (nl : List ByteArray) (ll : List SLine) (sl : List SSrc) (y : It) : SBay := kidsR nl y.kids (b0Of ll sl y)
/-- what a bay must be to be read at its place -/
structure BayOk (s : SSta) (b : SBay) (yl : List SBay) (mpa : Sn) : Prop where
  h1 : s.buses.length ≤ 900
  h2 : s.lines.length ≤ 900
  h3 : s.srcs.length ≤ 900
  h4 : yl.length < 16
  he : bayErrD s.buses.length s.lines.length s.srcs.length (boolOf (assoc mpa (.string b.name))) yl b = 0
  hlk : ∀ l ∈ b.links, LinkOk s.buses l
  hL : b.kind = 1 → idxS SLine.name (s.lines.getD b.off.toNat line0).name s.lines 0 = b.off
  hS : b.kind = 2 → idxS SSrc.name (s.srcs.getD b.off.toNat src0).name s.srcs 0 = b.off
theorem bayOf_enc {s : SSta} {b : SBay} {yl : List SBay} {mpa : Sn} (h : BayOk s b yl mpa) : bayOf s.buses s.lines s.srcs (encBay s b) = b := by
  obtain ⟨hk, hr, _, ho3, hle⟩ := bay_facts h.he
  obtain ⟨hll, _⟩ := links_len hle
  obtain ⟨r1, r2, r3, r4, r5, r6, r7, r8, r9, r10⟩ := rng_facts hr
  have key : ∀ b0 : SBay, b0Of s.lines s.srcs (encBay s b) = b0 → b0.links = [] → b0.name = b.name → b0.kind = b.kind → b0.off = b.off → b0.fin = b.fin → b0.zr = b.zr → b0.zx = b.zx → b0.closed = true → b0.vt = 0 → b0.sat = 0 → bayOf s.buses s.lines s.srcs (encBay s b) = b := by
    intro b0 h0 hl0 e1 e2 e3 e4 e5 e6 c0 v0 a0
    unfold bayOf
    rw [h0]
    exact (kids_ok s b numDec r1 r2 r3 r4 h.hlk hll b0 hl0).2.1.trans (back b b0 e1 e2 e3 e4 e5 e6 c0 v0 a0 r8)
  rcases hk with k | k | k
  · have hx : encBay s b = xB [tBay', b.name, tLine', (s.lines.getD b.off.toNat line0).name, dec b.fin] (bayK s b) := by
      unfold encBay bayW
      rw [k]; rfl
    obtain ⟨z1, z2⟩ := r10 (by omega)
    refine key ⟨b.name, 1, b.off, b.fin, 0, 0, [], true, 0, 0, 0, 0⟩ ?_ rfl rfl k.symm rfl rfl z1.symm z2.symm rfl rfl rfl
    rw [hx]
    unfold b0Of
    show (bif same tLine' tLine' then (⟨b.name, 1, idxS SLine.name (s.lines.getD b.off.toNat line0).name s.lines 0, (numS (dec b.fin)).1, 0, 0, [], true, 0, 0, 0, 0⟩ : SBay) else _) = _
    rw [sre, cond_true, h.hL k, numDec.f r5]
  · have hx : encBay s b = xB [tBay', b.name, tSource, (s.srcs.getD b.off.toNat src0).name] (bayK s b) := by
      unfold encBay bayW
      rw [k]; rfl
    obtain ⟨z1, z2⟩ := r10 (by omega)
    refine key ⟨b.name, 2, b.off, 0, 0, 0, [], true, 0, 0, 0, 0⟩ ?_ rfl rfl k.symm rfl (r9 (by omega)).symm z1.symm z2.symm rfl rfl rfl
    rw [hx]
    unfold b0Of
    show (bif same tSource tLine' then _ else bif same tSource tSource then (⟨b.name, 2, idxS SSrc.name (s.srcs.getD b.off.toNat src0).name s.srcs 0, 0, 0, 0, [], true, 0, 0, 0, 0⟩ : SBay) else _) = _
    rw [sne (show tSource ≠ tLine' by decide), sre, cond_false, cond_true, h.hS k]
  · have hx : encBay s b = xB [tBay', b.name, tCoupler, dec b.zr, dec b.zx] (bayK s b) := by
      unfold encBay bayW
      rw [k]; rfl
    refine key ⟨b.name, 3, 0, 0, b.zr, b.zx, [], true, 0, 0, 0, 0⟩ ?_ rfl rfl k.symm (ho3 k).symm (r9 (by omega)).symm rfl rfl rfl rfl rfl
    rw [hx]
    unfold b0Of
    show (bif same tCoupler tLine' then _ else bif same tCoupler tSource then _ else (⟨b.name, 3, 0, 0, (numS (dec b.zr)).1, (numS (dec b.zx)).1, [], true, 0, 0, 0, 0⟩ : SBay)) = _
    rw [sne (show tCoupler ≠ tLine' by decide), sne (show tCoupler ≠ tSource by decide), cond_false, cond_false, numDec.f r6, numDec.f r7]

abbrev AQ := (Unit × RIt × Unit) × AD
noncomputable def qB (a : AQ) : List ByteArray := theC busC e0 1 a.2.2.1.1 a.2.2.1.2
noncomputable def qL (a : AQ) : List SLine := theC lineC line0 5 a.2.2.2.1.1 a.2.2.2.1.2
noncomputable def qS (a : AQ) : List SSrc := theC srcC' src0 6 a.2.2.2.2.1.1 a.2.2.2.2.1.2
noncomputable def qY (a : AQ) : List SBay := theC bayC bay0 12 a.2.2.2.2.2.1.1 a.2.2.2.2.2.1.2
noncomputable def qI (a : AQ) : It := theIt a.1.2.1
noncomputable def qX (a : AQ) : SBay := bayOf (qB a) (qL a) (qS a) (qI a)
def qP (a : AQ) : Prop := ∃ (s : SSta) (b : SBay), s.buses = qB a ∧ s.lines = qL a ∧ s.srcs = qS a ∧ qI a = encBay s b ∧ BayOk s b (qY a) a.2.2.2.2.2.2.1
noncomputable def qOk (a : AQ) : Bool := okI (ydOf a.1.2.1) && (eqs a.2 && (okE (listD 1 busC e0) (.sl 1 a.2.2.1.1 a.2.2.1.2) && (okE (listD 5 lineC line0) (.sl 5 a.2.2.2.1.1 a.2.2.2.1.2) && (okE (listD 6 srcC' src0) (.sl 6 a.2.2.2.2.1.1 a.2.2.2.2.1.2) && (okE (listD 12 bayC bay0) (.sl 12 a.2.2.2.2.2.1.1 a.2.2.2.2.2.1.2) && @decide (qP a) (Classical.propDecidable _))))))
noncomputable def zD : KD where
  okf := okG enF cF
  fn := fun x => (rFm x).1.length
  fv := fun x i => (rFm x).1.getD i 0
  fo := fun x => (rFm x).2
  nk := nameOk
  okc := okG (en1 (aD itemsD)) fun l => Go.Eb.okL l
  ck := fun x => ck.chk (theT (en1 (aD itemsD)) x)
  okq := qOk
  lq := fun _ => 0
  mq := fun a => (.string (qX a).name, .bool true) :: a.2.2.2.2.2.2.1
  gq := fun a => appF (qY a).length (cnB (qY a)) (chunk (bayC (qX a)) 12)
  c1 := fun n f => rB (theC busC e0 1 n f)
  c5 := fun n f => rL (theC lineC line0 5 n f)
  c6 := fun n f => rS (theC srcC' src0 6 n f)
end Go.Proofs.Ythmapnolgdpkbaa.de
namespace Go.Proofs.Ythmapnolgdpkbaa.de
open Go.RowKit Go.Eb Go.Proofs.Ythmapnolgdpkbaa.st
open Go.Proofs.Ythmapnolgdpkbaa.wd (numS rN c11)
set_option maxRecDepth 100000

theorem ble_can {β : Type} {c : β → List D} {d0 : β} {sz n : Nat} {t : TypeId} {f : Nat → List D} (h : okE (listD sz c d0) (.sl sz n f) = true) : n = (theC c d0 sz n f).length ∧ Ble (.row n f sz t) (.row (theC c d0 sz n f).length (fun i => c ((theC c d0 sz n f).getD i d0)) sz t) := ⟨(RL.of_ok h).1, ble_of_ok h⟩
theorem sBy : AnsS Try.prog 64 (ansD dRB zD.okq (fun a => .tup [pI (zD.lq a), pI 0]) (hq zD.mq zD.gq zD.c1 zD.c5 zD.c6)) := .d fun a h => by
  replace h : qOk a = true := h
  unfold qOk at h
  simp only [Bool.and_eq_true, decide_eq_true_eq] at h
  obtain ⟨h1, h2, h3, h4, h5, h6, s, b, e1, e2, e3, e4, hb⟩ := h
  have hbe := bayOf_enc hb
  obtain ⟨he, g1, g2, g3, g4⟩ := enc55 (((), (e0, 0, 0, 0, 0, 0, dB false, false, 0, 0, 0, 0, ()), ()), a.2) h2
  replace he : (dRB.enc a).2 = HD a.2.1.1 a.2.2.1.1 a.2.2.1.2 a.2.2.2.1.1 a.2.2.2.1.2 a.2.2.2.2.1.1 a.2.2.2.2.1.2 a.2.2.2.2.2.1.1 a.2.2.2.2.2.1.2 a.2.2.2.2.2.2.1 a.2.1.2.2.2.2.2.2.1 := he
  obtain ⟨n1, b1⟩ := ble_can (t := 9) h3
  obtain ⟨n2, b2⟩ := ble_can (t := 58) h4
  obtain ⟨n3, b3⟩ := ble_can (t := 61) h5
  obtain ⟨n4, b4⟩ := ble_can (t := 54) h6
  have hx : qX a = b := by
    unfold qX
    rw [e4, ← e1, ← e2, ← e3]
    exact hbe
  have hc := crb s b a.2.1.1 (qY a) a.2.2.2.2.2.2.1 a.2.1.2.2.2.2.2.2.1 hb.h1 hb.h2 hb.h3 hb.h4 hb.he hb.hlk hb.hL hb.hS
  have hA := arg_le h1
  rw [show theIt a.1.2.1 = encBay s b from e4] at hA
  have hm : hq zD.mq zD.gq zD.c1 zD.c5 zD.c6 a = H33 b a.2.1.1 s.buses.length (rB s.buses) s.lines.length (rL s.lines) s.srcs.length (rS s.srcs) (qY a) a.2.2.2.2.2.2.1 a.2.1.2.2.2.2.2.2.1 := by
    have m1 : zD.mq a = (.string b.name, .bool true) :: a.2.2.2.2.2.2.1 := by
      show (Value.string (qX a).name, Value.bool true) :: _ = _
      rw [hx]
    have m2 : zD.gq a = appF (qY a).length (cnB (qY a)) (chunk (bayC b) 12) := by
      show appF (qY a).length (cnB (qY a)) (chunk (bayC (qX a)) 12) = _
      rw [hx]
    have m3 : zD.c1 a.2.2.1.1 a.2.2.1.2 = rB s.buses := by rw [e1]; rfl
    have m4 : zD.c5 a.2.2.2.1.1 a.2.2.2.1.2 = rL s.lines := by rw [e2]; rfl
    have m5 : zD.c6 a.2.2.2.2.1.1 a.2.2.2.2.1.2 = rS s.srcs := by rw [e3]; rfl
    have l1 : a.2.2.1.1 = s.buses.length := by rw [e1]; exact n1
    have l2 : a.2.2.2.1.1 = s.lines.length := by rw [e2]; exact n2
    have l3 : a.2.2.2.2.1.1 = s.srcs.length := by rw [e3]; exact n3
    have l4 : a.2.2.2.2.2.1.1 = (qY a).length := n4
    unfold hq H33
    rw [m1, m2, m3, m4, m5, l1, l2, l3, l4]
  rw [hm]
  refine hc.ge (.cons (.refl _) (.cons hA .nil)) ?_
  rw [he]
  have q1 : Ble (.row a.2.2.1.1 a.2.2.1.2 1 9) (.row s.buses.length (rB s.buses) 1 9) := by rw [e1]; exact b1
  have q2 : Ble (.row a.2.2.2.1.1 a.2.2.2.1.2 5 58) (.row s.lines.length (rL s.lines) 5 58) := by rw [e2]; exact b2
  have q3 : Ble (.row a.2.2.2.2.1.1 a.2.2.2.2.1.2 6 61) (.row s.srcs.length (rS s.srcs) 6 61) := by rw [e3]; exact b3
  have l1 : a.2.2.1.1 = s.buses.length := by rw [e1]; exact n1
  have l2 : a.2.2.2.1.1 = s.lines.length := by rw [e2]; exact n2
  have l3 : a.2.2.2.2.1.1 = s.srcs.length := by rw [e3]; exact n3
  have l4 : a.2.2.2.2.2.1.1 = (qY a).length := n4
  refine .cons ?_ (.cons q1 (.cons q2 (.cons q3 (.cons b4 (.cons (.refl _) .nil)))))
  rw [l1, l2, l3, l4]
  exact .refl _
theorem sRd1 : OrcS Try.prog (oRd1 zD) := sFm (.cons (.inl sNam Try.func27 (by kernel_rfl)) (.cons (.inl sIm Try.func29 (by kernel_rfl)) (.cons (.inl sIm Try.func31 (by kernel_rfl)) sNm)))
theorem sRd2 : OrcS Try.prog (oRd2 zD) := .cons (.inl sRd1 Try.func60 (by kernel_rfl)) (.cons (.inl sRd1 Try.func61 (by kernel_rfl)) (.cons (.inl sRd1 Try.func62 (by kernel_rfl)) (.cons (.inl sRd1 Try.func63 (by kernel_rfl)) (.cons sBy .nil))))
theorem sCk : AnsS Try.prog 42 (ansG zD.okc fun x => vI (zD.ck x)) := AnsS.t' (r := fun l : List It => vI (ck.chk l)) fun l h => ck.c16 l h
theorem sDe : OrcS Try.prog (oDe zD) := .cons sCk (.cons (.inl .nil Try.func25 (by kernel_rfl)) (.cons (.inl sRd2 Try.func43 (by kernel_rfl)) .nil))
end Go.Proofs.Ythmapnolgdpkbaa.de
namespace Go.Proofs.Ythmapnolgdpkbaa.de
open Go.RowKit Go.Eb Go.Proofs.Ythmapnolgdpkbaa.st
open Go.Proofs.Ythmapnolgdpkbaa.wd (numS rN c11)
set_option maxRecDepth 100000

theorem yo (x : It) (ks : ByteArray) (b : Bool) (h : x.words.length ≤ 2000) : KD.okf zD [AV.agg (List.map C.d (icells x)), AV.c (C.d (D.v (Value.string ks))), AV.c (C.d (D.v (Value.bool b)))] = true := fmo x ks b h
theorem yf (x : It) (ks : ByteArray) (b : Bool) : KD.fo zD [AV.agg (List.map C.d (icells x)), AV.c (C.d (D.v (Value.string ks))), AV.c (C.d (D.v (Value.bool b)))] = (formR x ks b).2 := by rw [← fmr]; rfl
theorem yn (x : It) (ks : ByteArray) (b : Bool) : KD.fn zD [AV.agg (List.map C.d (icells x)), AV.c (C.d (D.v (Value.string ks))), AV.c (C.d (D.v (Value.bool b)))] = (formR x ks b).1.length := by rw [← fmr]; rfl
theorem yv (x : It) (ks : ByteArray) (b : Bool) (i : Nat) : KD.fv zD [AV.agg (List.map C.d (icells x)), AV.c (C.d (D.v (Value.string ks))), AV.c (C.d (D.v (Value.bool b)))] i = (formR x ks b).1.getD i 0 := by rw [← fmr]; rfl
theorem ynk (s : ByteArray) : KD.nk zD s = nameOk s := rfl
section
variable (l : List It) (g m : Nat) (n2 : Nat) (f2 : Nat → List D) (n3 : Nat) (f3 : Nat → List D) (n4 : Nat) (f4 : Nat → List D) (n5 : Nat) (f5 : Nat → List D) (mpa : Sn) (k : Nat) (x0 x1 : ByteArray) (nd : Bool)
theorem LD_sta (nm : ByteArray) (hk : k < l.length) (hl : l.length ≤ 9000) (hy : l.getD k i0 = say [tStation, nm]) (hn : nameOk nm = true) :
    Ldco_5 zD l g (m + 1) n2 f2 n3 f3 n4 f4 n5 f5 mpa k x0 x1 false = Ldco_5 zD l g m n2 f2 n3 f3 n4 f4 n5 f5 mpa ((k + 1 : Nat) : Int) x0 nm true := by
  rw [stdco_5]
  have c0 : decide ((0 : Int) < ((It.words (say [tStation, nm])).length : Int)) = true := rfl
  have c1 : decide ((1 : Int) < ((It.words (say [tStation, nm])).length : Int)) = true := rfl
  have d0 : decide ((0 : Int) ≤ 0) = true := rfl
  have d1 : decide ((0 : Int) ≤ 1) = true := rfl
  have w0' : Wd.text (List.getD (It.words (say [tStation, nm])) (Int.toNat (0 : Int)) w0) = tStation := rfl
  have w1' : Wd.text (List.getD (It.words (say [tStation, nm])) (Int.toNat (1 : Int)) w0) = nm := rfl
  have t1 : (ByteArray.toList tStation == ByteArray.toList (ByteArray.mk #[(115 : UInt8), (116 : UInt8), (97 : UInt8), (116 : UInt8), (105 : UInt8), (111 : UInt8), (110 : UInt8)])) = true := by rw [strEq]; exact sre _
  rw [lt1 hk, ge0, tn, nx hk (show l.length ≤ 9223372036854775807 by omega), hy, c0, c1, d0, d1, w0', w1', t1, yo _ _ _ (by show 2 ≤ 2000; omega), yf, form_ww, ynk, hn]
  rfl
theorem LD_bus (nm : ByteArray) (hk : k < l.length) (hl : l.length ≤ 9000) (hy : l.getD k i0 = say [tBus', nm]) (hn : nameOk nm = true) (h4 : n2 < 4) (hm : boolOf (assoc mpa (.string nm)) = false) :
    Ldco_5 zD l g (m + 1) n2 f2 n3 f3 n4 f4 n5 f5 mpa k x0 x1 nd = Ldco_5 zD l g m (n2 + 1) (appF n2 f2 (chunk (busC nm) 1)) n3 f3 n4 f4 n5 f5 ((.string nm, .bool true) :: mpa) ((k + 1 : Nat) : Int) x0 x1 nd := by
  rw [stdco_5]
  have c0 : decide ((0 : Int) < ((It.words (say [tBus', nm])).length : Int)) = true := rfl
  have c1 : decide ((1 : Int) < ((It.words (say [tBus', nm])).length : Int)) = true := rfl
  have d0 : decide ((0 : Int) ≤ 0) = true := rfl
  have d1 : decide ((0 : Int) ≤ 1) = true := rfl
  have w0' : Wd.text (List.getD (It.words (say [tBus', nm])) (Int.toNat (0 : Int)) w0) = tBus' := rfl
  have w1' : Wd.text (List.getD (It.words (say [tBus', nm])) (Int.toNat (1 : Int)) w0) = nm := rfl
  have t1 : (ByteArray.toList tBus' == ByteArray.toList (ByteArray.mk #[(115 : UInt8), (116 : UInt8), (97 : UInt8), (116 : UInt8), (105 : UInt8), (111 : UInt8), (110 : UInt8)])) = false := by rw [strEq]; exact sne (by decide)
  have t2 : (ByteArray.toList tBus' == ByteArray.toList (ByteArray.mk #[(98 : UInt8), (117 : UInt8), (115 : UInt8)])) = true := by rw [strEq]; exact sre _
  have hn4 : ((n2 : Int) == (4 : Int)) = false := by
    cases e : ((n2 : Int) == (4 : Int)) with
    | false => rfl
    | true => have := eq_of_beq e; omega
  have ap : (decide ((n2 + 1) * 16 ≤ 140737488355328) && decide (n2 + 1 ≤ 9223372036854775807)) = true := by rw [decide_eq_true (by omega), decide_eq_true (by omega)]; rfl
  rw [lt1 hk, ge0, tn, nx hk (show l.length ≤ 9223372036854775807 by omega), hy, c0, c1, d0, d1, w0', w1', t1, t2, yo _ _ _ (by show 2 ≤ 2000; omega), yf, form_ww, ynk, hn, hn4, hm, ap]
  rfl
theorem LD_oth (hk : k < l.length) (hl : l.length ≤ 9000) (hw : 0 < (l.getD k i0).words.length) (h1 : hd (l.getD k i0) ≠ tStation) (h2 : hd (l.getD k i0) ≠ tBus') (h3 : hd (l.getD k i0) ≠ tLine') (h4 : hd (l.getD k i0) ≠ tSource) (h5 : hd (l.getD k i0) ≠ tBay') :
    Ldco_5 zD l g (m + 1) n2 f2 n3 f3 n4 f4 n5 f5 mpa k x0 x1 nd = Ldco_5 zD l g m n2 f2 n3 f3 n4 f4 n5 f5 mpa ((k + 1 : Nat) : Int) x0 x1 nd := by
  rw [stdco_5, lt1 hk, ge0, tn, nx hk (show l.length ≤ 9223372036854775807 by omega)]
  generalize l.getD k i0 = y at *
  have c0 : decide ((0 : Int) < ((It.words y).length : Int)) = true := decide_eq_true (by omega)
  have d0 : decide ((0 : Int) ≤ 0) = true := rfl
  have w0' : Wd.text (List.getD (It.words y) (Int.toNat (0 : Int)) w0) = hd y := rfl
  have t1 : (ByteArray.toList (hd y) == ByteArray.toList (ByteArray.mk #[(115 : UInt8), (116 : UInt8), (97 : UInt8), (116 : UInt8), (105 : UInt8), (111 : UInt8), (110 : UInt8)])) = false := by rw [strEq]; exact sne h1
  have t2 : (ByteArray.toList (hd y) == ByteArray.toList (ByteArray.mk #[(98 : UInt8), (117 : UInt8), (115 : UInt8)])) = false := by rw [strEq]; exact sne h2
  have t3 : (ByteArray.toList (hd y) == ByteArray.toList (ByteArray.mk #[(108 : UInt8), (105 : UInt8), (110 : UInt8), (101 : UInt8)])) = false := by rw [strEq]; exact sne h3
  have t4 : (ByteArray.toList (hd y) == ByteArray.toList (ByteArray.mk #[(115 : UInt8), (111 : UInt8), (117 : UInt8), (114 : UInt8), (99 : UInt8), (101 : UInt8)])) = false := by rw [strEq]; exact sne h4
  have t5 : (ByteArray.toList (hd y) == ByteArray.toList (ByteArray.mk #[(98 : UInt8), (97 : UInt8), (121 : UInt8)])) = false := by rw [strEq]; exact sne h5
  rw [c0, d0, w0', t1, t2, t3, t4, t5]
  rfl
theorem LD_bay (y : It) (mx : Sn) (fx : Nat → List D) (hk : k < l.length) (hl : l.length ≤ 9000) (hy : l.getD k i0 = y) (hw : 0 < y.words.length) (h5 : hd y = tBay')
    (ho : KD.okq zD (((), (It.line y, wordsD (It.words y), It.block y, kidsD y, ()), ()), (x1, n2, n3, n4, n5, (), nd, ()), (n2, f2), (n3, f3), (n4, f4), (n5, f5), mpa, ()) = true)
    (hg : KD.gq zD (((), (It.line y, wordsD (It.words y), It.block y, kidsD y, ()), ()), (x1, n2, n3, n4, n5, (), nd, ()), (n2, f2), (n3, f3), (n4, f4), (n5, f5), mpa, ()) = fx)
    (hq' : KD.mq zD (((), (It.line y, wordsD (It.words y), It.block y, kidsD y, ()), ()), (x1, n2, n3, n4, n5, (), nd, ()), (n2, f2), (n3, f3), (n4, f4), (n5, f5), mpa, ()) = mx) :
    Ldco_5 zD l g (m + 1) n2 f2 n3 f3 n4 f4 n5 f5 mpa k x0 x1 nd = Ldco_5 zD l g m n2 (rB (theC busC e0 1 n2 f2)) n3 (rL (theC lineC line0 5 n3 f3)) n4 (rS (theC srcC' src0 6 n4 f4)) (n5 + 1) fx mx ((k + 1 : Nat) : Int) x0 x1 nd := by
  rw [stdco_5, lt1 hk, ge0, tn, nx hk (show l.length ≤ 9223372036854775807 by omega), hy]
  have c0 : decide ((0 : Int) < ((It.words y).length : Int)) = true := decide_eq_true (by omega)
  have d0 : decide ((0 : Int) ≤ 0) = true := rfl
  have w0' : Wd.text (List.getD (It.words y) (Int.toNat (0 : Int)) w0) = tBay' := h5
  have t1 : (ByteArray.toList tBay' == ByteArray.toList (ByteArray.mk #[(115 : UInt8), (116 : UInt8), (97 : UInt8), (116 : UInt8), (105 : UInt8), (111 : UInt8), (110 : UInt8)])) = false := by rw [strEq]; exact sne (by decide)
  have t2 : (ByteArray.toList tBay' == ByteArray.toList (ByteArray.mk #[(98 : UInt8), (117 : UInt8), (115 : UInt8)])) = false := by rw [strEq]; exact sne (by decide)
  have t3 : (ByteArray.toList tBay' == ByteArray.toList (ByteArray.mk #[(108 : UInt8), (105 : UInt8), (110 : UInt8), (101 : UInt8)])) = false := by rw [strEq]; exact sne (by decide)
  have t4 : (ByteArray.toList tBay' == ByteArray.toList (ByteArray.mk #[(115 : UInt8), (111 : UInt8), (117 : UInt8), (114 : UInt8), (99 : UInt8), (101 : UInt8)])) = false := by rw [strEq]; exact sne (by decide)
  have t5 : (ByteArray.toList tBay' == ByteArray.toList (ByteArray.mk #[(98 : UInt8), (97 : UInt8), (121 : UInt8)])) = true := by rw [strEq]; exact sre _
  rw [c0, d0, w0', t1, t2, t3, t4, t5, ho, hg, hq']
  rfl
end
end Go.Proofs.Ythmapnolgdpkbaa.de
namespace Go.Proofs.Ythmapnolgdpkbaa.de
open Go.RowKit Go.Eb Go.Proofs.Ythmapnolgdpkbaa.st
open Go.Proofs.Ythmapnolgdpkbaa.wd (numS rN c11)
set_option maxRecDepth 100000

theorem form_line (w n a b c d : ByteArray) (ha : (numS a).2 = true) (hb : (numS b).2 = true) (hc : (numS c).2 = true) (hd : (numS d).2 = true) : formR (say [w, n, a, b, c, d]) (ByteArray.mk #[119, 119, 110, 110, 110, 110]) false = ([(numS a).1, (numS b).1, (numS c).1, (numS d).1], true) := by
  have e1 : formS (say [w, n, a, b, c, d]).words (ByteArray.mk #[119, 119, 110, 110, 110, 110]).data.toList = ([(numS a).1, (numS b).1, (numS c).1, (numS d).1], true) := by
    have s4 : formS [⟨d, false⟩] [110] = ([(numS d).1], true) := by
      show (bif !(numS d).2 then (([] : List Int), false) else ([(numS d).1], true)) = _
      rw [hd]; rfl
    have s3 : formS [⟨c, false⟩, ⟨d, false⟩] [110, 110] = ([(numS c).1, (numS d).1], true) := by
      show (bif !(numS c).2 then (([] : List Int), false) else ((numS c).1 :: (formS [⟨d, false⟩] [110]).1, (formS [⟨d, false⟩] [110]).2)) = _
      rw [hc, s4]; rfl
    have s2 : formS [⟨b, false⟩, ⟨c, false⟩, ⟨d, false⟩] [110, 110, 110] = ([(numS b).1, (numS c).1, (numS d).1], true) := by
      show (bif !(numS b).2 then (([] : List Int), false) else ((numS b).1 :: (formS [⟨c, false⟩, ⟨d, false⟩] [110, 110]).1, (formS [⟨c, false⟩, ⟨d, false⟩] [110, 110]).2)) = _
      rw [hb, s3]; rfl
    show (bif !(numS a).2 then (([] : List Int), false) else ((numS a).1 :: (formS [⟨b, false⟩, ⟨c, false⟩, ⟨d, false⟩] [110, 110, 110]).1, (formS [⟨b, false⟩, ⟨c, false⟩, ⟨d, false⟩] [110, 110, 110]).2)) = _
    rw [ha, s2]; rfl
  unfold formR
  rw [e1]; rfl
theorem form_src (w n z a b c d : ByteArray) (hz : (numS z).2 = true) (ha : (numS a).2 = true) (hb : (numS b).2 = true) (hc : (numS c).2 = true) (hd : (numS d).2 = true) : formR (say [w, n, z, a, b, c, d]) (ByteArray.mk #[119, 119, 110, 110, 110, 110, 110]) false = ([(numS z).1, (numS a).1, (numS b).1, (numS c).1, (numS d).1], true) := by
  have e1 : formS (say [w, n, z, a, b, c, d]).words (ByteArray.mk #[119, 119, 110, 110, 110, 110, 110]).data.toList = ([(numS z).1, (numS a).1, (numS b).1, (numS c).1, (numS d).1], true) := by
    have s4 : formS [⟨d, false⟩] [110] = ([(numS d).1], true) := by
      show (bif !(numS d).2 then (([] : List Int), false) else ([(numS d).1], true)) = _
      rw [hd]; rfl
    have s3 : formS [⟨c, false⟩, ⟨d, false⟩] [110, 110] = ([(numS c).1, (numS d).1], true) := by
      show (bif !(numS c).2 then (([] : List Int), false) else ((numS c).1 :: (formS [⟨d, false⟩] [110]).1, (formS [⟨d, false⟩] [110]).2)) = _
      rw [hc, s4]; rfl
    have s2 : formS [⟨b, false⟩, ⟨c, false⟩, ⟨d, false⟩] [110, 110, 110] = ([(numS b).1, (numS c).1, (numS d).1], true) := by
      show (bif !(numS b).2 then (([] : List Int), false) else ((numS b).1 :: (formS [⟨c, false⟩, ⟨d, false⟩] [110, 110]).1, (formS [⟨c, false⟩, ⟨d, false⟩] [110, 110]).2)) = _
      rw [hb, s3]; rfl
    have s1 : formS [⟨a, false⟩, ⟨b, false⟩, ⟨c, false⟩, ⟨d, false⟩] [110, 110, 110, 110] = ([(numS a).1, (numS b).1, (numS c).1, (numS d).1], true) := by
      show (bif !(numS a).2 then (([] : List Int), false) else ((numS a).1 :: (formS [⟨b, false⟩, ⟨c, false⟩, ⟨d, false⟩] [110, 110, 110]).1, (formS [⟨b, false⟩, ⟨c, false⟩, ⟨d, false⟩] [110, 110, 110]).2)) = _
      rw [ha, s2]; rfl
    show (bif !(numS z).2 then (([] : List Int), false) else ((numS z).1 :: (formS [⟨a, false⟩, ⟨b, false⟩, ⟨c, false⟩, ⟨d, false⟩] [110, 110, 110, 110]).1, (formS [⟨a, false⟩, ⟨b, false⟩, ⟨c, false⟩, ⟨d, false⟩] [110, 110, 110, 110]).2)) = _
    rw [hz, s1]; rfl
  unfold formR
  rw [e1]; rfl
theorem imp_facts {r x : Int} (h : impOk r x = true) : 0 ≤ r ∧ r ≤ 1000 ∧ 1 ≤ x ∧ x ≤ 1000 := by
  unfold impOk within at h
  simp at h
  omega
section
variable (l : List It) (g m : Nat) (n2 : Nat) (f2 : Nat → List D) (n3 : Nat) (f3 : Nat → List D) (n4 : Nat) (f4 : Nat → List D) (n5 : Nat) (f5 : Nat → List D) (mpa : Sn) (k : Nat) (x0 x1 : ByteArray) (nd : Bool)
theorem LD_line (L : SLine) (hk : k < l.length) (hl : l.length ≤ 9000) (hy : l.getD k i0 = encLine L) (hn : nameOk L.name = true) (h6 : n3 < 6) (hm : boolOf (assoc mpa (.string L.name)) = false) (i1 : impOk L.r1 L.x1 = true) (i2 : impOk L.r0 L.x0 = true) :
    Ldco_5 zD l g (m + 1) n2 f2 n3 f3 n4 f4 n5 f5 mpa k x0 x1 nd = Ldco_5 zD l g m n2 f2 (n3 + 1) (appF n3 f3 (chunk (lineC L) 5)) n4 f4 n5 f5 ((.string L.name, .bool true) :: mpa) ((k + 1 : Nat) : Int) x0 x1 nd := by
  obtain ⟨p1, p2, p3, p4⟩ := imp_facts i1
  obtain ⟨p5, p6, p7, p8⟩ := imp_facts i2
  have q1 : nOk L.r1 := ⟨by omega, by omega⟩
  have q2 : nOk L.x1 := ⟨by omega, by omega⟩
  have q3 : nOk L.r0 := ⟨by omega, by omega⟩
  have q4 : nOk L.x0 := ⟨by omega, by omega⟩
  replace hy : l.getD k i0 = say [tLine', L.name, dec L.r1, dec L.x1, dec L.r0, dec L.x0] := hy
  rw [stdco_5]
  have fr := form_line tLine' L.name (dec L.r1) (dec L.x1) (dec L.r0) (dec L.x0) (numDec.s q1) (numDec.s q2) (numDec.s q3) (numDec.s q4)
  rw [numDec.f q1, numDec.f q2, numDec.f q3, numDec.f q4] at fr
  generalize hY : say [tLine', L.name, dec L.r1, dec L.x1, dec L.r0, dec L.x0] = Y at hy fr
  have hwl : (It.words Y).length = 6 := by rw [← hY]; rfl
  have w0' : Wd.text (List.getD (It.words Y) (Int.toNat (0 : Int)) w0) = tLine' := by rw [← hY]; rfl
  have w1' : Wd.text (List.getD (It.words Y) (Int.toNat (1 : Int)) w0) = L.name := by rw [← hY]; rfl
  have t1 : (ByteArray.toList tLine' == ByteArray.toList (ByteArray.mk #[(115 : UInt8), (116 : UInt8), (97 : UInt8), (116 : UInt8), (105 : UInt8), (111 : UInt8), (110 : UInt8)])) = false := by rw [strEq]; exact sne (by decide)
  have t2 : (ByteArray.toList tLine' == ByteArray.toList (ByteArray.mk #[(98 : UInt8), (117 : UInt8), (115 : UInt8)])) = false := by rw [strEq]; exact sne (by decide)
  have t3 : (ByteArray.toList tLine' == ByteArray.toList (ByteArray.mk #[(108 : UInt8), (105 : UInt8), (110 : UInt8), (101 : UInt8)])) = true := by rw [strEq]; exact sre _
  have hn6 : ((n3 : Int) == (6 : Int)) = false := by
    cases e : ((n3 : Int) == (6 : Int)) with
    | false => rfl
    | true => have := eq_of_beq e; omega
  have ap : (decide ((n3 + 1) * 48 ≤ 140737488355328) && decide (n3 + 1 ≤ 9223372036854775807)) = true := by rw [decide_eq_true (by omega), decide_eq_true (by omega)]; rfl
  have v0 : ([L.r1, L.x1, L.r0, L.x0] : List Int).getD (Int.toNat 0) 0 = L.r1 := rfl
  have v1 : ([L.r1, L.x1, L.r0, L.x0] : List Int).getD (Int.toNat 1) 0 = L.x1 := rfl
  have v2 : ([L.r1, L.x1, L.r0, L.x0] : List Int).getD (Int.toNat 2) 0 = L.r0 := rfl
  have v3 : ([L.r1, L.x1, L.r0, L.x0] : List Int).getD (Int.toNat 3) 0 = L.x0 := rfl
  rw [lt1 hk, ge0, tn, nx hk (show l.length ≤ 9223372036854775807 by omega), hy, hwl, w0', w1', t1, t2, t3, yo Y (ByteArray.mk #[119, 119, 110, 110, 110, 110]) _ (by omega), yf Y (ByteArray.mk #[119, 119, 110, 110, 110, 110]), yn Y (ByteArray.mk #[119, 119, 110, 110, 110, 110]), yv Y (ByteArray.mk #[119, 119, 110, 110, 110, 110]), yv Y (ByteArray.mk #[119, 119, 110, 110, 110, 110]), yv Y (ByteArray.mk #[119, 119, 110, 110, 110, 110]), yv Y (ByteArray.mk #[119, 119, 110, 110, 110, 110]), fr, v0, v1, v2, v3, ynk, hn, hn6, hm, ap,
    decide_eq_true (show L.r1 ≥ 0 from p1), decide_eq_true p2, decide_eq_true (show L.x1 ≥ 1 from p3), decide_eq_true p4, decide_eq_true (show L.r0 ≥ 0 from p5), decide_eq_true p6, decide_eq_true (show L.x0 ≥ 1 from p7), decide_eq_true p8]
  rfl
theorem LD_src (L : SSrc) (hk : k < l.length) (hl : l.length ≤ 9000) (hy : l.getD k i0 = encSrc L) (hn : nameOk L.name = true) (h6 : n4 < 4) (hm : boolOf (assoc mpa (.string L.name)) = false) (i1 : impOk L.r1 L.x1 = true) (i2 : impOk L.r0 L.x0 = true) (iz : within L.emf 1 1000000 = true) :
    Ldco_5 zD l g (m + 1) n2 f2 n3 f3 n4 f4 n5 f5 mpa k x0 x1 nd = Ldco_5 zD l g m n2 f2 n3 f3 (n4 + 1) (appF n4 f4 (chunk (srcC' L) 6)) n5 f5 ((.string L.name, .bool true) :: mpa) ((k + 1 : Nat) : Int) x0 x1 nd := by
  obtain ⟨p1, p2, p3, p4⟩ := imp_facts i1
  obtain ⟨p5, p6, p7, p8⟩ := imp_facts i2
  have ⟨z1, z2⟩ : 1 ≤ L.emf ∧ L.emf ≤ 1000000 := by unfold within at iz; simp at iz; omega
  have q0 : nOk L.emf := ⟨by omega, by omega⟩
  have q1 : nOk L.r1 := ⟨by omega, by omega⟩
  have q2 : nOk L.x1 := ⟨by omega, by omega⟩
  have q3 : nOk L.r0 := ⟨by omega, by omega⟩
  have q4 : nOk L.x0 := ⟨by omega, by omega⟩
  replace hy : l.getD k i0 = say [tSource, L.name, dec L.emf, dec L.r1, dec L.x1, dec L.r0, dec L.x0] := hy
  rw [stdco_5]
  have fr := form_src tSource L.name (dec L.emf) (dec L.r1) (dec L.x1) (dec L.r0) (dec L.x0) (numDec.s q0) (numDec.s q1) (numDec.s q2) (numDec.s q3) (numDec.s q4)
  rw [numDec.f q0, numDec.f q1, numDec.f q2, numDec.f q3, numDec.f q4] at fr
  generalize hY : say [tSource, L.name, dec L.emf, dec L.r1, dec L.x1, dec L.r0, dec L.x0] = Y at hy fr
  have hwl : (It.words Y).length = 7 := by rw [← hY]; rfl
  have w0' : Wd.text (List.getD (It.words Y) (Int.toNat (0 : Int)) w0) = tSource := by rw [← hY]; rfl
  have w1' : Wd.text (List.getD (It.words Y) (Int.toNat (1 : Int)) w0) = L.name := by rw [← hY]; rfl
  have t1 : (ByteArray.toList tSource == ByteArray.toList (ByteArray.mk #[(115 : UInt8), (116 : UInt8), (97 : UInt8), (116 : UInt8), (105 : UInt8), (111 : UInt8), (110 : UInt8)])) = false := by rw [strEq]; exact sne (by decide)
  have t2 : (ByteArray.toList tSource == ByteArray.toList (ByteArray.mk #[(98 : UInt8), (117 : UInt8), (115 : UInt8)])) = false := by rw [strEq]; exact sne (by decide)
  have t3 : (ByteArray.toList tSource == ByteArray.toList (ByteArray.mk #[(108 : UInt8), (105 : UInt8), (110 : UInt8), (101 : UInt8)])) = false := by rw [strEq]; exact sne (by decide)
  have t4 : (ByteArray.toList tSource == ByteArray.toList (ByteArray.mk #[(115 : UInt8), (111 : UInt8), (117 : UInt8), (114 : UInt8), (99 : UInt8), (101 : UInt8)])) = true := by rw [strEq]; exact sre _
  have hn6 : ((n4 : Int) == (4 : Int)) = false := by
    cases e : ((n4 : Int) == (4 : Int)) with
    | false => rfl
    | true => have := eq_of_beq e; omega
  have ap : (decide ((n4 + 1) * 56 ≤ 140737488355328) && decide (n4 + 1 ≤ 9223372036854775807)) = true := by rw [decide_eq_true (by omega), decide_eq_true (by omega)]; rfl
  have vz : ([L.emf, L.r1, L.x1, L.r0, L.x0] : List Int).getD (Int.toNat 0) 0 = L.emf := rfl
  have v0 : ([L.emf, L.r1, L.x1, L.r0, L.x0] : List Int).getD (Int.toNat 1) 0 = L.r1 := rfl
  have v1 : ([L.emf, L.r1, L.x1, L.r0, L.x0] : List Int).getD (Int.toNat 2) 0 = L.x1 := rfl
  have v2 : ([L.emf, L.r1, L.x1, L.r0, L.x0] : List Int).getD (Int.toNat 3) 0 = L.r0 := rfl
  have v3 : ([L.emf, L.r1, L.x1, L.r0, L.x0] : List Int).getD (Int.toNat 4) 0 = L.x0 := rfl
  rw [lt1 hk, ge0, tn, nx hk (show l.length ≤ 9223372036854775807 by omega), hy, hwl, w0', w1', t1, t2, t3, t4, yo Y (ByteArray.mk #[119, 119, 110, 110, 110, 110, 110]) _ (by omega), yf Y (ByteArray.mk #[119, 119, 110, 110, 110, 110, 110]), yn Y (ByteArray.mk #[119, 119, 110, 110, 110, 110, 110]), yv Y (ByteArray.mk #[119, 119, 110, 110, 110, 110, 110]), yv Y (ByteArray.mk #[119, 119, 110, 110, 110, 110, 110]), yv Y (ByteArray.mk #[119, 119, 110, 110, 110, 110, 110]), yv Y (ByteArray.mk #[119, 119, 110, 110, 110, 110, 110]), yv Y (ByteArray.mk #[119, 119, 110, 110, 110, 110, 110]), fr, vz, v0, v1, v2, v3, ynk, hn, hn6, hm, ap,
    decide_eq_true (show L.emf ≥ 1 from z1), decide_eq_true z2, decide_eq_true (show L.r1 ≥ 0 from p1), decide_eq_true p2, decide_eq_true (show L.x1 ≥ 1 from p3), decide_eq_true p4, decide_eq_true (show L.r0 ≥ 0 from p5), decide_eq_true p6, decide_eq_true (show L.x0 ≥ 1 from p7), decide_eq_true p8]
  rfl
end
end Go.Proofs.Ythmapnolgdpkbaa.de
namespace Go.Proofs.Ythmapnolgdpkbaa.de
open Go.RowKit Go.Eb Go.Proofs.Ythmapnolgdpkbaa.st
open Go.Proofs.Ythmapnolgdpkbaa.wd (numS rN c11)
set_option maxRecDepth 100000

/-- what the decoder has read -/
structure DS where
  nm : ByteArray
  nd : Bool
  nl : List ByteArray
  ll : List SLine
  sl : List SSrc
  yl : List SBay
  mpa : Sn
inductive Tg where
  | sta
  | bus (n : ByteArray)
  | line (L : SLine)
  | src (L : SSrc)
  | bay (b : SBay)
  | oth (y : It)
def Tg.enc (s : SSta) : Tg → It
  | .sta => say [tStation, s.name]
  | .bus n => encBus n
  | .line L => encLine L
  | .src L => encSrc L
  | .bay b => encBay s b
  | .oth y => y
def Tg.step (s : SSta) : Tg → DS → DS
  | .sta, d => { d with nm := s.name, nd := true }
  | .bus n, d => { d with nl := d.nl ++ [n], mpa := (.string n, .bool true) :: d.mpa }
  | .line L, d => { d with ll := d.ll ++ [L], mpa := (.string L.name, .bool true) :: d.mpa }
  | .src L, d => { d with sl := d.sl ++ [L], mpa := (.string L.name, .bool true) :: d.mpa }
  | .bay b, d => { d with yl := d.yl ++ [b], mpa := (.string b.name, .bool true) :: d.mpa }
  | .oth _, d => d
def new (d : DS) (n : ByteArray) : Prop := nameOk n = true ∧ boolOf (assoc d.mpa (.string n)) = false
def Tg.Ok (s : SSta) : Tg → DS → Prop
  | .sta, d => d.nd = false ∧ nameOk s.name = true
  | .bus n, d => new d n ∧ d.nl.length < 4
  | .line L, d => new d L.name ∧ d.ll.length < 6 ∧ impOk L.r1 L.x1 = true ∧ impOk L.r0 L.x0 = true
  | .src L, d => new d L.name ∧ d.sl.length < 4 ∧ impOk L.r1 L.x1 = true ∧ impOk L.r0 L.x0 = true ∧ within L.emf 1 1000000 = true
  | .bay b, d => d.nl = s.buses ∧ d.ll = s.lines ∧ d.sl = s.srcs ∧ BayOk s b d.yl d.mpa
  | .oth y, _ => 0 < y.words.length ∧ hd y ≠ tStation ∧ hd y ≠ tBus' ∧ hd y ≠ tLine' ∧ hd y ≠ tSource ∧ hd y ≠ tBay'
def runT (s : SSta) : List Tg → DS → DS
  | [], d => d
  | t :: r, d => runT s r (t.step s d)
def OkT (s : SSta) : List Tg → DS → Prop
  | [], _ => True
  | t :: r, d => t.Ok s d ∧ OkT s r (t.step s d)
structure RD (d : DS) (n2 : Nat) (f2 : Nat → List D) (n3 : Nat) (f3 : Nat → List D) (n4 : Nat) (f4 : Nat → List D) (n5 : Nat) (f5 : Nat → List D) : Prop where
  r2 : RL busC e0 n2 f2 d.nl
  r3 : RL lineC line0 n3 f3 d.ll
  r4 : RL srcC' src0 n4 f4 d.sl
  r5 : RL bayC bay0 n5 f5 d.yl
section
variable (s : SSta) (l : List It) (g : Nat) (x0 : ByteArray)
theorem bay_hd (b : SBay) : 0 < (encBay s b).words.length ∧ hd (encBay s b) = tBay' := by
  unfold encBay bayW hd
  cases (b.kind == 1) with
  | true => exact ⟨Nat.succ_pos _, rfl⟩
  | false =>
    cases (b.kind == 2) with
    | true => exact ⟨Nat.succ_pos _, rfl⟩
    | false => exact ⟨Nat.succ_pos _, rfl⟩
theorem LD_step (t : Tg) (d : DS) (hl : l.length ≤ 9000) (m k : Nat) {n2 : Nat} {f2 : Nat → List D} {n3 : Nat} {f3 : Nat → List D} {n4 : Nat} {f4 : Nat → List D} {n5 : Nat} {f5 : Nat → List D} (hr : RD d n2 f2 n3 f3 n4 f4 n5 f5) (hk : k < l.length) (hy : l.getD k i0 = t.enc s) (ho : t.Ok s d) :
    ∃ n2' f2' n3' f3' n4' f4' n5' f5', RD (t.step s d) n2' f2' n3' f3' n4' f4' n5' f5' ∧
      Ldco_5 zD l g (m + 1) n2 f2 n3 f3 n4 f4 n5 f5 d.mpa k x0 d.nm d.nd = Ldco_5 zD l g m n2' f2' n3' f3' n4' f4' n5' f5' (t.step s d).mpa ((k + 1 : Nat) : Int) x0 (t.step s d).nm (t.step s d).nd := by
  obtain ⟨r2, r3, r4, r5⟩ := hr
  cases t with
  | sta =>
    obtain ⟨h1, h2⟩ := ho
    refine ⟨n2, f2, n3, f3, n4, f4, n5, f5, ⟨r2, r3, r4, r5⟩, ?_⟩
    rw [h1]
    exact LD_sta l g m n2 f2 n3 f3 n4 f4 n5 f5 d.mpa k x0 d.nm s.name hk hl hy h2
  | bus n =>
    obtain ⟨⟨h1, h2⟩, h3⟩ := ho
    exact ⟨n2 + 1, _, n3, f3, n4, f4, n5, f5, ⟨r2.app' rfl, r3, r4, r5⟩, LD_bus l g m n2 f2 n3 f3 n4 f4 n5 f5 d.mpa k x0 d.nm d.nd n hk hl hy h1 (by rw [r2.len]; exact h3) h2⟩
  | line L =>
    obtain ⟨⟨h1, h2⟩, h3, h4, h5⟩ := ho
    exact ⟨n2, f2, n3 + 1, _, n4, f4, n5, f5, ⟨r2, r3.app' rfl, r4, r5⟩, LD_line l g m n2 f2 n3 f3 n4 f4 n5 f5 d.mpa k x0 d.nm d.nd L hk hl hy h1 (by rw [r3.len]; exact h3) h2 h4 h5⟩
  | src L =>
    obtain ⟨⟨h1, h2⟩, h3, h4, h5, h6⟩ := ho
    exact ⟨n2, f2, n3, f3, n4 + 1, _, n5, f5, ⟨r2, r3, r4.app' rfl, r5⟩, LD_src l g m n2 f2 n3 f3 n4 f4 n5 f5 d.mpa k x0 d.nm d.nd L hk hl hy h1 (by rw [r4.len]; exact h3) h2 h4 h5 h6⟩
  | oth y =>
    obtain ⟨h0, h1, h2, h3, h4, h5⟩ := ho
    replace hy : l.getD k i0 = y := hy
    exact ⟨n2, f2, n3, f3, n4, f4, n5, f5, ⟨r2, r3, r4, r5⟩, LD_oth l g m n2 f2 n3 f3 n4 f4 n5 f5 d.mpa k x0 d.nm d.nd hk hl (by rw [hy]; exact h0) (by rw [hy]; exact h1) (by rw [hy]; exact h2) (by rw [hy]; exact h3) (by rw [hy]; exact h4) (by rw [hy]; exact h5)⟩
  | bay b =>
    obtain ⟨h1, h2, h3, h4⟩ := ho
    replace hy : l.getD k i0 = encBay s b := hy
    have t2 := r2.the (sz := 1) busC_inj
    have t3 := r3.the (sz := 5) lineC_inj
    have t4 := r4.the (sz := 6) srcC_inj
    have t5 := r5.the (sz := 12) bayC_inj
    obtain ⟨b1, b2⟩ := bay_hd s b
    generalize hY : encBay s b = Y at hy b1 b2
    have hit := theIt_it Y
    let a : AQ := (((), (It.line Y, wordsD (It.words Y), It.block Y, kidsD Y, ()), ()), (d.nm, n2, n3, n4, n5, (), d.nd, ()), (n2, f2), (n3, f3), (n4, f4), (n5, f5), d.mpa, ())
    have eB : qB a = s.buses := by rw [← h1]; exact t2.2
    have eL : qL a = s.lines := by rw [← h2]; exact t3.2
    have eS : qS a = s.srcs := by rw [← h3]; exact t4.2
    have eY : qY a = d.yl := t5.2
    have eI : qI a = encBay s b := by rw [hY]; exact hit.2
    have eX : qX a = b := by
      unfold qX
      rw [eB, eL, eS, eI]
      exact bayOf_enc h4
    have g2 : n2 ≤ 900 := by rw [r2.len, h1]; exact h4.h1
    have g3 : n3 ≤ 900 := by rw [r3.len, h2]; exact h4.h2
    have g4 : n4 ≤ 900 := by rw [r4.len, h3]; exact h4.h3
    have g5 : n5 ≤ 900 := by rw [r5.len]; have := h4.h4; omega
    have hP : qP a := ⟨s, b, eB.symm, eL.symm, eS.symm, eI, by rw [eY]; exact h4⟩
    have hq : qOk a = true := by
      have e2 : eqs a.2 = true := by
        unfold eqs
        simp only [a, Nat.beq_refl, Bool.true_and, bleD, decide_eq_true g2, decide_eq_true g3, decide_eq_true g4, decide_eq_true g5]
      unfold qOk
      have o1 : okI (ydOf a.1.2.1) = true := hit.1
      have o2 : okE (listD 1 busC e0) (.sl 1 a.2.2.1.1 a.2.2.1.2) = true := t2.1
      have o3 : okE (listD 5 lineC line0) (.sl 5 a.2.2.2.1.1 a.2.2.2.1.2) = true := t3.1
      have o4 : okE (listD 6 srcC' src0) (.sl 6 a.2.2.2.2.1.1 a.2.2.2.2.1.2) = true := t4.1
      have o5 : okE (listD 12 bayC bay0) (.sl 12 a.2.2.2.2.2.1.1 a.2.2.2.2.2.1.2) = true := t5.1
      rw [o1, e2, o2, o3, o4, o5]
      simp only [Bool.true_and, decide_eq_true_eq]
      exact hP
    have hgq : KD.gq zD a = appF d.yl.length (cnB d.yl) (chunk (bayC b) 12) := by
      show appF (qY a).length (cnB (qY a)) (chunk (bayC (qX a)) 12) = _
      rw [eY, eX]
    have hmq : KD.mq zD a = (.string b.name, .bool true) :: d.mpa := by
      show (Value.string (qX a).name, Value.bool true) :: _ = _
      rw [eX]
    have hL := LD_bay l g m n2 f2 n3 f3 n4 f4 n5 f5 d.mpa k x0 d.nm d.nd Y _ _ hk hl hy b1 b2 hq hgq hmq
    have u2 : theC busC e0 1 n2 f2 = d.nl := t2.2
    have u3 : theC lineC line0 5 n3 f3 = d.ll := t3.2
    have u4 : theC srcC' src0 6 n4 f4 = d.sl := t4.2
    rw [u2, u3, u4] at hL
    refine ⟨_, _, _, _, _, _, _, _, ⟨?_, ?_, ?_, ?_⟩, hL⟩
    · rw [r2.len]; exact RL.data d.nl
    · rw [r3.len]; exact RL.data d.ll
    · rw [r4.len]; exact RL.data d.sl
    · rw [r5.len]; exact (RL.data (c := bayC) (d0 := bay0) d.yl).app' rfl
end
end Go.Proofs.Ythmapnolgdpkbaa.de
namespace Go.Proofs.Ythmapnolgdpkbaa.de
open Go.RowKit Go.Eb Go.Proofs.Ythmapnolgdpkbaa.st
set_option maxRecDepth 100000

def endT (x1 : ByteArray) (n2 : Nat) (f2 : Nat → List D) (n3 : Nat) (f3 : Nat → List D) (n4 : Nat) (f4 : Nat → List D) (n5 : Nat) (f5 : Nat → List D) : Option (T (AV × Hp)) :=
  some (T.leaf (AV.tup [(true, [C.d (D.v (Value.string x1)), C.row 0 1 n2, C.row 1 5 n3, C.row 2 6 n4, C.row 3 12 n5]), (false, [C.d (D.v (Value.int IntKind.i64 (0 : Int)))]), (false, [C.d (D.v (Value.int IntKind.i64 (0 : Int)))])], [(0, Blk.row n2 f2 1 9), (1, Blk.row n3 f3 5 58), (2, Blk.row n4 f4 6 61), (3, Blk.row n5 f5 12 54)]))
section
variable (s : SSta) (l : List It) (g : Nat) (x0 : ByteArray)
theorem LD_end (d : DS) (m k : Nat) (n2 : Nat) (f2 : Nat → List D) (n3 : Nat) (f3 : Nat → List D) (n4 : Nat) (f4 : Nat → List D) (n5 : Nat) (f5 : Nat → List D) (hk : ¬ k < l.length) (hnd : d.nd = true) (h0 : n2 ≠ 0) :
    Ldco_5 zD l g (m + 1) n2 f2 n3 f3 n4 f4 n5 f5 d.mpa k x0 d.nm d.nd = endT d.nm n2 f2 n3 f3 n4 f4 n5 f5 := by
  have e0 : ((n2 : Int) == (0 : Int)) = false := by
    cases e : ((n2 : Int) == (0 : Int)) with
    | false => rfl
    | true => have := eq_of_beq e; omega
  rw [stdco_5, lt0 hk, hnd, e0]
  rfl
theorem LD_run (hl : l.length ≤ 9000) : ∀ (r : List Tg) (d : DS) (m k : Nat) (n2 : Nat) (f2 : Nat → List D) (n3 : Nat) (f3 : Nat → List D) (n4 : Nat) (f4 : Nat → List D) (n5 : Nat) (f5 : Nat → List D), RD d n2 f2 n3 f3 n4 f4 n5 f5 → l.drop k = r.map (Tg.enc s) → OkT s r d → r.length < m → (runT s r d).nd = true → (runT s r d).nl ≠ [] →
    ∃ n2' f2' n3' f3' n4' f4' n5' f5', RD (runT s r d) n2' f2' n3' f3' n4' f4' n5' f5' ∧ Ldco_5 zD l g m n2 f2 n3 f3 n4 f4 n5 f5 d.mpa k x0 d.nm d.nd = endT (runT s r d).nm n2' f2' n3' f3' n4' f4' n5' f5'
  | [], d, 0, k, n2, f2, n3, f3, n4, f4, n5, f5, _, _, _, hm, _, _ => by simp at hm
  | _ :: _, d, 0, k, n2, f2, n3, f3, n4, f4, n5, f5, _, _, _, hm, _, _ => by simp at hm
  | [], d, m + 1, k, n2, f2, n3, f3, n4, f4, n5, f5, hr, hd', _, _, hnd, h0 => by
    have hk : ¬ k < l.length := by
      intro h
      have := congrArg List.length hd'
      rw [List.length_drop] at this
      simp at this
      omega
    have hn : n2 ≠ 0 := by
      rw [hr.r2.len]
      intro e
      exact h0 (List.eq_nil_of_length_eq_zero e)
    exact ⟨n2, f2, n3, f3, n4, f4, n5, f5, hr, LD_end l g x0 d m k n2 f2 n3 f3 n4 f4 n5 f5 hk hnd hn⟩
  | t :: r, d, m + 1, k, n2, f2, n3, f3, n4, f4, n5, f5, hr, hd', ho, hm, hnd, h0 => by
    have hlt : k < l.length := by
      have := congrArg List.length hd'
      rw [List.length_drop] at this
      simp at this
      omega
    have hdr := drop_at' (d := i0) hlt
    rw [hd', List.map_cons] at hdr
    obtain ⟨e1, e2⟩ := List.cons.inj hdr
    obtain ⟨o1, o2⟩ := ho
    obtain ⟨m2, p2, m3, p3, m4, p4, m5, p5, hr', hL⟩ := LD_step s l g x0 t d hl m k hr hlt e1.symm o1
    obtain ⟨a1, a2, a3, a4, a5, a6, a7, a8, hr2, hL2⟩ := LD_run hl r (t.step s d) m (k + 1) m2 p2 m3 p3 m4 p4 m5 p5 hr' e2.symm o2 (by simp at hm; omega) hnd h0
    exact ⟨a1, a2, a3, a4, a5, a6, a7, a8, hr2, hL.trans hL2⟩
end
def d0 : DS := ⟨ByteArray.mk #[], false, [], [], [], [], []⟩
theorem RD0 : RD d0 0 (fun _ => []) 0 (fun _ => []) 0 (fun _ => []) 0 (fun _ => []) := ⟨RL.nil _, RL.nil _, RL.nil _, RL.nil _⟩
theorem injL : InjT (en1 (aD itemsD)) := en1_inj (aD_inj fun _ _ h => itemsD_inj h)
theorem yc (l : List It) (h : okL l = true) : KD.okc zD [AV.c (C.d (listD 4 icells i0 l))] = true := okG_enc injL l h
theorem yk (l : List It) : KD.ck zD [AV.c (C.d (listD 4 icells i0 l))] = ck.chk l := by
  show ck.chk (theT (en1 (aD itemsD)) (en1 (aD itemsD) l)) = _
  rw [theT_enc injL]
theorem cdecode (s : SSta) (r : List Tg) (hl : r.length ≤ 9000) (hL : okL (r.map (Tg.enc s)) = true) (hc : ck.chk (r.map (Tg.enc s)) = 0) (ho : OkT s r d0) (hn : (runT s r d0).nm = s.name) (hnd : (runT s r d0).nd = true) (h2 : (runT s r d0).nl = s.buses) (h3 : (runT s r d0).ll = s.lines) (h4 : (runT s r d0).sl = s.srcs) (h5 : (runT s r d0).yl = s.bays) (hb : s.buses ≠ []) :
    CX Try.prog 18 [.c (.d (itemsD (r.map (Tg.enc s))))] [] (.tup [(true, (staC s).map .d), pI 0, pI 0]) [] := by
  obtain ⟨n2, f2, n3, f3, n4, f4, n5, f5, hr, hL2⟩ := LD_run s (r.map (Tg.enc s)) 9001 (ByteArray.mk #[]) (by rw [List.length_map]; exact hl) r d0 9001 0 0 _ 0 _ 0 _ 0 _ RD0 rfl ho (by omega) hnd (by rw [h2]; exact hb)
  have ev := evdco zD (r.map (Tg.enc s)) 9001
  rw [yc _ hL, yk, hc] at ev
  rw [show ((0 : Nat) : Int) = 0 from rfl] at hL2
  have e := Eq.trans ev hL2
  obtain ⟨r2, r3, r4, r5⟩ := hr
  rw [h2] at r2
  rw [h3] at r3
  rw [h4] at r4
  rw [h5] at r5
  rw [hn] at e
  have hcr := (cr_of sDe.ok Try.func18 bdco rfl e).data (y := .tup [(true, [.d (dS s.name), .d (.sl 1 n2 f2), .d (.sl 5 n3 f3), .d (.sl 6 n4 f4), .d (.sl 12 n5 f5)]), (false, [.d (dI 0)]), (false, [.d (dI 0)])]) rfl
  refine (CX.of_cr Try.func18 bdco hcr).le ?_ (.refl _)
  refine ⟨rfl, fun j p q h1 h2 => ?_⟩
  match j with
  | 0 => simp at h1 h2; subst h1 h2; exact ⟨rfl, Csle.ofD (a := [dS s.name, .sl 1 n2 f2, .sl 5 n3 f3, .sl 6 n4 f4, .sl 12 n5 f5]) (b := staC s) (.cons (.refl _) (.cons r2.de (.cons r3.de (.cons r4.de (.cons r5.de .nil)))))⟩
  | 1 => simp at h1 h2; subst h1 h2; exact ⟨rfl, .cons (.refl _) .nil⟩
  | 2 => simp at h1 h2; subst h1 h2; exact ⟨rfl, .cons (.refl _) .nil⟩
  | j + 3 => simp at h1
end Go.Proofs.Ythmapnolgdpkbaa.de
namespace Go.Proofs.Ythmapnolgdpkbaa.de
open Go.RowKit Go.Eb Go.Proofs.Ythmapnolgdpkbaa.st
set_option maxRecDepth 100000

section
variable (s : SSta)
theorem runT_app : ∀ (a c : List Tg) (d : DS), runT s (a ++ c) d = runT s c (runT s a d)
  | [], _, _ => rfl
  | t :: a, c, d => runT_app a c (t.step s d)
theorem OkT_app : ∀ (a c : List Tg) (d : DS), OkT s a d → OkT s c (runT s a d) → OkT s (a ++ c) d
  | [], _, _, _, h => h
  | t :: a, c, d, h, k => ⟨h.1, OkT_app a c (t.step s d) h.2 k⟩
theorem OkT_split : ∀ (a c : List Tg) (d : DS), OkT s (a ++ c) d → OkT s a d ∧ OkT s c (runT s a d)
  | [], _, _, h => ⟨trivial, h⟩
  | t :: a, c, d, h => ⟨⟨h.1, (OkT_split a c (t.step s d) h.2).1⟩, (OkT_split a c (t.step s d) h.2).2⟩
/-- what is of another kind may stand anywhere -/
theorem OkT_oth {y : It} (hy : ∀ d, (Tg.oth y).Ok s d) (a c : List Tg) (d : DS) (h : OkT s (a ++ c) d) : OkT s (a ++ .oth y :: c) d ∧ runT s (a ++ .oth y :: c) d = runT s (a ++ c) d := by
  obtain ⟨h1, h2⟩ := OkT_split s a c d h
  exact ⟨OkT_app s a _ d h1 ⟨hy _, h2⟩, by rw [runT_app, runT_app]; rfl⟩
def Tg.isSta : Tg → Bool
  | .sta => true
  | _ => false
def setN (s : SSta) (d : DS) : DS := { d with nm := s.name, nd := true }
theorem step_setN {t : Tg} (h : t.isSta = false) (d : DS) : t.step s (setN s d) = setN s (t.step s d) := by
  cases t <;> first | rfl | cases h
theorem ok_setN {t : Tg} (h : t.isSta = false) (d : DS) (k : t.Ok s d) : t.Ok s (setN s d) := by
  cases t <;> first | exact k | cases h
theorem OkT_setN : ∀ (c : List Tg) (d : DS), (∀ t ∈ c, t.isSta = false) → OkT s c d → OkT s c (setN s d) ∧ runT s c (setN s d) = setN s (runT s c d)
  | [], _, _, _ => ⟨trivial, rfl⟩
  | t :: c, d, h, k => by
    have ht := h t (by simp)
    obtain ⟨h1, h2⟩ := OkT_setN c (t.step s d) (fun t ht => h t (by simp [ht])) k.2
    refine ⟨⟨ok_setN s ht d k.1, ?_⟩, ?_⟩
    · rw [step_setN s ht]; exact h1
    · show runT s c (t.step s (setN s d)) = _
      rw [step_setN s ht]; exact h2
theorem nd_keep : ∀ (a : List Tg) (d : DS), (∀ t ∈ a, t.isSta = false) → (runT s a d).nd = d.nd
  | [], _, _ => rfl
  | t :: a, d, h => by
    have ht := h t (by simp)
    refine (nd_keep a (t.step s d) (fun t ht => h t (by simp [ht]))).trans ?_
    cases t <;> first | rfl | cases ht
/-- the station's own statement may stand anywhere -/
theorem OkT_sta (hs : nameOk s.name = true) (a c : List Tg) (d : DS) (hd : d.nd = false) (h : OkT s (a ++ c) d) (hn : ∀ t ∈ a ++ c, t.isSta = false) : OkT s (a ++ .sta :: c) d ∧ runT s (a ++ .sta :: c) d = setN s (runT s (a ++ c) d) := by
  obtain ⟨h1, h2⟩ := OkT_split s a c d h
  have hk := nd_keep s a d (fun t ht => hn t (by simp [ht]))
  obtain ⟨k1, k2⟩ := OkT_setN s c (runT s a d) (fun t ht => hn t (by simp [ht])) h2
  refine ⟨OkT_app s a _ d h1 ⟨⟨by rw [hk]; exact hd, hs⟩, k1⟩, ?_⟩
  rw [runT_app, runT_app]
  exact k2
/-- elements that are taken, one after the other -/
theorem take_run {α : Type} {nm : α → ByteArray} {F : List ByteArray → List α → α → Int} {N : List ByteArray} {tg : α → Tg} {I : DS → List α → Prop} {T : Nat}
    (ok : ∀ bef x, bef.length < T → F (N ++ bef.map nm) bef x = 0 → ∀ d, I d bef → (tg x).Ok s d ∧ I ((tg x).step s d) (bef ++ [x])) : ∀ (l bef : List α) (d : DS), bef.length + l.length ≤ T → (takeN nm F N bef l).1 = 0 → I d bef → OkT s (l.map tg) d ∧ I (runT s (l.map tg) d) (bef ++ l)
  | [], bef, d, _, _, hI => ⟨trivial, by rw [List.append_nil]; exact hI⟩
  | x :: r, bef, d, hT, h, hI => by
    simp only [takeN] at h
    cases e : (F (N ++ bef.map nm) bef x != 0) with
    | true =>
      rw [e] at h
      simp only [cond_true] at h
      rw [h] at e
      cases e
    | false =>
      rw [e] at h
      simp only [cond_false] at h
      have h0 : F (N ++ bef.map nm) bef x = 0 := by simpa using e
      obtain ⟨k1, k2⟩ := ok bef x (by simp at hT; omega) h0 d hI
      obtain ⟨k3, k4⟩ := take_run ok r (bef ++ [x]) ((tg x).step s d) (by simp at hT ⊢; omega) h k2
      refine ⟨⟨k1, k3⟩, ?_⟩
      rw [List.append_assoc] at k4
      exact k4
theorem take_at {α : Type} {nm : α → ByteArray} {F : List ByteArray → List α → α → Int} {N : List ByteArray} {x0 : α} : ∀ (l bef : List α) (k : Nat), (takeN nm F N bef l).1 = 0 → k < l.length → F (N ++ (bef ++ l.take k).map nm) (bef ++ l.take k) (l.getD k x0) = 0
  | [], _, k, _, hk => by simp at hk
  | x :: r, bef, k, h, hk => by
    simp only [takeN] at h
    cases e : (F (N ++ bef.map nm) bef x != 0) with
    | true =>
      rw [e] at h
      simp only [cond_true] at h
      rw [h] at e
      cases e
    | false =>
      rw [e] at h
      simp only [cond_false] at h
      cases k with
      | zero =>
        simp only [List.take_zero, List.append_nil, List.getD_cons_zero]
        simpa using e
      | succ k =>
        have := take_at (x0 := x0) r (bef ++ [x]) k h (by simpa using hk)
        simpa using this
end
end Go.Proofs.Ythmapnolgdpkbaa.de
namespace Go.Proofs.Ythmapnolgdpkbaa.de
open Go.RowKit Go.Eb Go.Proofs.Ythmapnolgdpkbaa.st
set_option maxRecDepth 100000

theorem nam_facts {N : List ByteArray} {n : ByteArray} (h : namErr N n = 0) : nameOk n = true ∧ inB N n = false := by
  unfold namErr at h
  cases h1 : nameOk n with
  | false => rw [h1] at h; exact absurd h (show ¬ (7 : Int) = 0 by decide)
  | true =>
    cases h2 : inB N n with
    | true => rw [h1, h2] at h; exact absurd h (show ¬ (8 : Int) = 0 by decide)
    | false => exact ⟨rfl, rfl⟩
theorem line_facts {N : List ByteArray} {x : SLine} (h : lineErr N x = 0) : nameOk x.name = true ∧ inB N x.name = false ∧ impOk x.r1 x.x1 = true ∧ impOk x.r0 x.x0 = true := by
  unfold lineErr at h
  cases h0 : (namErr N x.name != 0) with
  | true =>
    rw [h0] at h
    simp only [cond_true] at h
    rw [h] at h0; cases h0
  | false =>
    obtain ⟨n1, n2⟩ := nam_facts (show namErr N x.name = 0 by simpa using h0)
    rw [h0] at h
    cases h1 : impOk x.r1 x.x1 with
    | false => rw [h1] at h; exact absurd h (show ¬ (2 : Int) = 0 by decide)
    | true =>
      cases h2 : impOk x.r0 x.x0 with
      | false => rw [h1, h2] at h; exact absurd h (show ¬ (2 : Int) = 0 by decide)
      | true => exact ⟨n1, n2, rfl, rfl⟩
theorem src_facts {N : List ByteArray} {x : SSrc} (h : srcErr N x = 0) : nameOk x.name = true ∧ inB N x.name = false ∧ impOk x.r1 x.x1 = true ∧ impOk x.r0 x.x0 = true ∧ within x.emf 1 1000000 = true := by
  unfold srcErr at h
  cases h0 : (namErr N x.name != 0) with
  | true =>
    rw [h0] at h
    simp only [cond_true] at h
    rw [h] at h0; cases h0
  | false =>
    obtain ⟨n1, n2⟩ := nam_facts (show namErr N x.name = 0 by simpa using h0)
    rw [h0] at h
    cases h3 : within x.emf 1 1000000 with
    | false => rw [h3] at h; exact absurd h (show ¬ (2 : Int) = 0 by decide)
    | true =>
      cases h1 : impOk x.r1 x.x1 with
      | false => rw [h3, h1] at h; exact absurd h (show ¬ (2 : Int) = 0 by decide)
      | true =>
        cases h2 : impOk x.r0 x.x0 with
        | false => rw [h3, h1, h2] at h; exact absurd h (show ¬ (2 : Int) = 0 by decide)
        | true => exact ⟨n1, n2, rfl, rfl, rfl⟩
section
variable (s : SSta)
theorem run_bus (h : (tBus s.buses).1 = 0) (hl : s.buses.length ≤ 4) : OkT s (s.buses.map .bus) d0 ∧ runT s (s.buses.map .bus) d0 = { d0 with nl := s.buses, mpa := mapOf s.buses } := by
  have := take_run s (nm := id) (F := fun N _ x => namErr N x) (N := []) (tg := Tg.bus) (T := 4) (I := fun d bef => d = { d0 with nl := bef, mpa := mapOf bef }) (fun bef x hT hF d hI => by
    subst hI
    obtain ⟨n1, n2⟩ := nam_facts (show namErr bef x = 0 by simpa using hF)
    exact ⟨⟨⟨n1, (assoc_mapOf bef x).trans n2⟩, hT⟩, by unfold Tg.step; rw [mapOf_app]⟩) s.buses [] d0 (by simpa using hl) h rfl
  simpa using this
theorem run_line (N : List ByteArray) (h : (tLine N s.lines).1 = 0) (hl : s.lines.length ≤ 6) (d : DS) (hd1 : d.ll = []) (hd2 : d.mpa = mapOf N) : OkT s (s.lines.map .line) d ∧ runT s (s.lines.map .line) d = { d with ll := s.lines, mpa := mapOf (N ++ s.lines.map SLine.name) } := by
  have := take_run s (nm := SLine.name) (F := fun N _ x => lineErr N x) (N := N) (tg := Tg.line) (T := 6) (I := fun e bef => e = { d with ll := bef, mpa := mapOf (N ++ bef.map SLine.name) }) (fun bef x hT hF e hI => by
    subst hI
    obtain ⟨n1, n2, n3, n4⟩ := line_facts hF
    exact ⟨⟨⟨n1, (assoc_mapOf _ x.name).trans n2⟩, hT, n3, n4⟩, by unfold Tg.step; rw [List.map_append, ← List.append_assoc]; exact congrArg (fun q => ({ d with ll := bef ++ [x], mpa := q } : DS)) (mapOf_app _ _).symm⟩) s.lines [] d (by simpa using hl) h (by obtain ⟨a1, a2, a3, a4, a5, a6, a7⟩ := d; simp at hd1 hd2; subst hd1 hd2; simp)
  simpa using this
theorem run_src (N : List ByteArray) (h : (tSrc N s.srcs).1 = 0) (hl : s.srcs.length ≤ 4) (d : DS) (hd1 : d.sl = []) (hd2 : d.mpa = mapOf N) : OkT s (s.srcs.map .src) d ∧ runT s (s.srcs.map .src) d = { d with sl := s.srcs, mpa := mapOf (N ++ s.srcs.map SSrc.name) } := by
  have := take_run s (nm := SSrc.name) (F := fun N _ x => srcErr N x) (N := N) (tg := Tg.src) (T := 4) (I := fun e bef => e = { d with sl := bef, mpa := mapOf (N ++ bef.map SSrc.name) }) (fun bef x hT hF e hI => by
    subst hI
    obtain ⟨n1, n2, n3, n4, n5⟩ := src_facts hF
    exact ⟨⟨⟨n1, (assoc_mapOf _ x.name).trans n2⟩, hT, n3, n4, n5⟩, by unfold Tg.step; rw [List.map_append, ← List.append_assoc]; exact congrArg (fun q => ({ d with sl := bef ++ [x], mpa := q } : DS)) (mapOf_app _ _).symm⟩) s.srcs [] d (by simpa using hl) h (by obtain ⟨a1, a2, a3, a4, a5, a6, a7⟩ := d; simp at hd1 hd2; subst hd1 hd2; simp)
  simpa using this
end
end Go.Proofs.Ythmapnolgdpkbaa.de
namespace Go.Eb
open Go.RowKit

theorem inB_iff (l : List ByteArray) (s : ByteArray) : inB l s = true ↔ s ∈ l := by
  unfold inB
  rw [List.any_eq_true]
  constructor
  · rintro ⟨t, ht, h⟩
    have : s = t := by
      cases s; cases t
      simp only [beq_iff_eq] at h
      simp only [ByteArray.mk.injEq]
      exact Array.toList_inj.1 h
    rw [this]; exact ht
  · exact fun h => ⟨s, h, by simp⟩
/-! Check by names and by what else is wrong -/
def namesS (s : SSta) : List ByteArray := s.buses ++ (s.lines.map SLine.name ++ (s.srcs.map SSrc.name ++ s.bays.map SBay.name))
/-- one name replaced -/
def renS (s : SSta) (i : Nat) (n : ByteArray) : SSta :=
  if i < s.buses.length then { s with buses := s.buses.set i n }
  else if i < s.buses.length + s.lines.length then { s with lines := s.lines.set (i - s.buses.length) { s.lines.getD (i - s.buses.length) line0 with name := n } }
  else if i < s.buses.length + s.lines.length + s.srcs.length then { s with srcs := s.srcs.set (i - s.buses.length - s.lines.length) { s.srcs.getD (i - s.buses.length - s.lines.length) src0 with name := n } }
  else { s with bays := s.bays.set (i - s.buses.length - s.lines.length - s.srcs.length) { s.bays.getD (i - s.buses.length - s.lines.length - s.srcs.length) bay0 with name := n } }
end Go.Eb
namespace Go.Proofs.Ythmapnolgdpkbaa.de
open Go.RowKit Go.Eb Go.Proofs.Ythmapnolgdpkbaa.st
set_option maxRecDepth 100000

theorem mem_tk {α : Type} {d : α} : ∀ (l : List α) (i k : Nat), i < k → k < l.length → l.getD i d ∈ l.take k
  | [], i, k, _, h => by simp at h
  | x :: r, i, 0, h, _ => by omega
  | x :: r, 0, k + 1, _, _ => by simp
  | x :: r, i + 1, k + 1, h, hk => by
    rw [List.getD_cons_succ, List.take_succ_cons]
    exact List.mem_cons_of_mem _ (mem_tk r i k (by omega) (by simpa using hk))
theorem dist_of {α : Type} {nm : α → ByteArray} {d : α} {N : List ByteArray} {l : List α} {k : Nat} (hk : k < l.length) (h : inB (N ++ (l.take k).map nm) (nm (l.getD k d)) = false) : ∀ i, i < k → nm (l.getD i d) ≠ nm (l.getD k d) := by
  intro i hi e
  have : nm (l.getD k d) ∈ N ++ (l.take k).map nm := List.mem_append.2 (.inr (by rw [← e]; exact List.mem_map_of_mem (mem_tk l i k hi hk)))
  have ht := (Go.Eb.inB_iff (N ++ (l.take k).map nm) (nm (l.getD k d))).2 this
  rw [ht] at h
  cases h
theorem ix_of {α : Type} {nm : α → ByteArray} {d : α} {N : List ByteArray} {l : List α} {o : Int} (h0 : 0 ≤ o) (hk : o.toNat < l.length) (h : inB (N ++ (l.take o.toNat).map nm) (nm (l.getD o.toNat d)) = false) : idxS nm (nm (l.getD o.toNat d)) l 0 = o := by
  rw [idxS_at l o.toNat 0 hk (dist_of hk h)]
  omega
theorem bay_off {nb nl ns : Nat} {dup : Bool} {bef : List SBay} {b : SBay} (h : bayErrD nb nl ns dup bef b = 0) : (b.kind = 1 → b.off.toNat < nl) ∧ (b.kind = 2 → b.off.toNat < ns) := by
  have ho := (bay_facts h).2.2.1
  unfold bayErrD at h
  cases hn : nameOk b.name with
  | false => rw [hn] at h; exact absurd h (show ¬ (7 : Int) = 0 by decide)
  | true =>
    rw [hn] at h
    cases dup with
    | true => exact absurd h (show ¬ (8 : Int) = 0 by decide)
    | false =>
      simp only [Bool.not_true, cond_false] at h
      refine ⟨fun k => ?_, fun k => ?_⟩
      · rw [show cntOf nl ns b.kind = some (nl : Int) by unfold cntOf; rw [k]; rfl] at h
        simp only [] at h
        cases hw : within b.off 0 ((nl : Int) - 1) with
        | false => rw [hw] at h; exact absurd h (show ¬ (9 : Int) = 0 by decide)
        | true => unfold within at hw; simp only [Bool.and_eq_true, decide_eq_true_eq] at hw; omega
      · rw [show cntOf nl ns b.kind = some (ns : Int) by unfold cntOf; rw [k]; rfl] at h
        simp only [] at h
        cases hw : within b.off 0 ((ns : Int) - 1) with
        | false => rw [hw] at h; exact absurd h (show ¬ (9 : Int) = 0 by decide)
        | true => unfold within at hw; simp only [Bool.and_eq_true, decide_eq_true_eq] at hw; omega
theorem link_all {nb : Nat} {k : Int} : ∀ {p : Option Int} {ls : List SLink}, linkErr nb k p ls = 0 → ∀ l ∈ ls, 0 ≤ l.bus ∧ l.bus.toNat < nb ∧ (l.pos = 0 ∨ l.pos = 1)
  | _, [], _, l, hl => by cases hl
  | p, x :: r, h, l, hl => by
    unfold linkErr at h
    cases hw : within x.bus 0 ((nb : Int) - 1) with
    | false => rw [hw] at h; exact absurd h (show ¬ (9 : Int) = 0 by decide)
    | true =>
      rw [hw] at h
      simp only [Bool.not_true, cond_false] at h
      cases hp : (x.pos != 1 && (x.pos != 0 || k == 3)) with
      | true => rw [hp] at h; exact absurd h (show ¬ (16 : Int) = 0 by decide)
      | false =>
        rw [hp] at h
        simp only [cond_false] at h
        cases hd : (p == some x.bus) with
        | true => rw [hd] at h; exact absurd h (show ¬ (12 : Int) = 0 by decide)
        | false =>
          rw [hd] at h
          simp only [cond_false] at h
          rcases List.mem_cons.1 hl with rfl | hl
          · unfold within at hw
            simp only [Bool.and_eq_true, decide_eq_true_eq] at hw
            refine ⟨hw.1, by omega, ?_⟩
            cases q1 : (l.pos != 1) with
            | false => right; simpa using q1
            | true =>
              cases q2 : (l.pos != 0) with
              | false => left; simpa using q2
              | true => rw [q1, q2] at hp; cases hp
          · exact link_all h l hl
section
variable (s : SSta)
theorem run_bay (N : List ByteArray) (hN : N = s.buses ++ s.lines.map SLine.name ++ s.srcs.map SSrc.name) (hB : (tBus s.buses).1 = 0) (hL : (tLine s.buses s.lines).1 = 0) (hS : (tSrc (s.buses ++ s.lines.map SLine.name) s.srcs).1 = 0) (h : (tBay s.buses.length s.lines.length s.srcs.length N s.bays).1 = 0)
    (l1 : s.buses.length ≤ 4) (l2 : s.lines.length ≤ 6) (l3 : s.srcs.length ≤ 4) (l4 : s.bays.length ≤ 16) (d : DS) (hd1 : d.nl = s.buses) (hd2 : d.ll = s.lines) (hd3 : d.sl = s.srcs) (hd4 : d.yl = []) (hd5 : d.mpa = mapOf N) :
    OkT s (s.bays.map .bay) d ∧ runT s (s.bays.map .bay) d = { d with yl := s.bays, mpa := mapOf (N ++ s.bays.map SBay.name) } := by
  have := take_run s (nm := SBay.name) (F := fun N before x => bayErr s.buses.length s.lines.length s.srcs.length N before x) (N := N) (tg := Tg.bay) (T := 16) (I := fun e bef => e = { d with yl := bef, mpa := mapOf (N ++ bef.map SBay.name) }) (fun bef x hT hF e hI => by
    subst hI
    have he : bayErrD s.buses.length s.lines.length s.srcs.length (boolOf (assoc (mapOf (N ++ bef.map SBay.name)) (.string x.name))) bef x = 0 := by
      rw [assoc_mapOf]; exact hF
    obtain ⟨_, _, ho, _, hle⟩ := bay_facts he
    obtain ⟨_, hlk⟩ := links_len hle
    obtain ⟨o1, o2⟩ := bay_off he
    refine ⟨⟨hd1, hd2, hd3, ⟨by omega, by omega, by omega, hT, he, fun l hl => ?_, fun k => ?_, fun k => ?_⟩⟩, ?_⟩
    · obtain ⟨a1, a2, a3⟩ := link_all hlk l hl
      refine ⟨?_, a1, a3⟩
      have hx := take_at (x0 := e0) s.buses [] l.bus.toNat hB a2
      exact ix_of (nm := id) (N := []) a1 a2 (nam_facts hx).2
    · have hx := take_at (x0 := line0) s.lines [] x.off.toNat hL (o1 k)
      exact ix_of (nm := SLine.name) (N := s.buses) ho (o1 k) (line_facts hx).2.1
    · have hx := take_at (x0 := src0) s.srcs [] x.off.toNat hS (o2 k)
      exact ix_of (nm := SSrc.name) (N := s.buses ++ s.lines.map SLine.name) ho (o2 k) (src_facts hx).2.1
    · unfold Tg.step
      rw [List.map_append, ← List.append_assoc]
      exact congrArg (fun q => ({ d with yl := bef ++ [x], mpa := q } : DS)) (mapOf_app _ _).symm) s.bays [] d (by simpa using l4) h (by obtain ⟨a1, a2, a3, a4, a5, a6, a7⟩ := d; simp at hd4 hd5; subst hd4 hd5; simp)
  simpa using this
end
end Go.Proofs.Ythmapnolgdpkbaa.de
namespace Go.Proofs.Ythmapnolgdpkbaa.de
open Go.RowKit Go.Eb Go.Proofs.Ythmapnolgdpkbaa.st
set_option maxRecDepth 100000

theorem chk_split {s : SSta} (h : chkSta s = 0) : nameOk s.name = true ∧ cntBad s = false ∧ (tBus s.buses).1 = 0 ∧ (tLine s.buses s.lines).1 = 0 ∧ (tSrc (s.buses ++ s.lines.map SLine.name) s.srcs).1 = 0 ∧ (tBay s.buses.length s.lines.length s.srcs.length (s.buses ++ s.lines.map SLine.name ++ s.srcs.map SSrc.name) s.bays).1 = 0 := by
  unfold chkSta at h
  cases h1 : nameOk s.name with
  | false => rw [h1] at h; exact absurd h (show ¬ (7 : Int) = 0 by decide)
  | true =>
    cases h2 : cntBad s with
    | true => rw [h1, h2] at h; exact absurd h (show ¬ (3 : Int) = 0 by decide)
    | false =>
      rw [h1, h2] at h
      simp only [Bool.not_true, cond_false] at h
      have z : ∀ {x y : Int}, (bif x != 0 then x else y) = 0 → x = 0 ∧ y = 0 := by
        intro x y hx
        cases e : (x != 0) with
        | true => rw [e] at hx; simp only [cond_true] at hx; rw [hx] at e; cases e
        | false => rw [e] at hx; exact ⟨by simpa using e, hx⟩
      obtain ⟨a1, h⟩ := z h
      obtain ⟨a2, h⟩ := z h
      obtain ⟨a3, h⟩ := z h
      exact ⟨rfl, rfl, a1, a2, a3, h⟩
theorem cnt_facts {s : SSta} (h : cntBad s = false) : s.buses ≠ [] ∧ s.buses.length ≤ 4 ∧ s.lines.length ≤ 6 ∧ s.srcs.length ≤ 4 ∧ s.bays.length ≤ 16 := by
  unfold cntBad at h
  simp only [Bool.or_eq_false_iff, decide_eq_false_iff_not] at h
  obtain ⟨h1, h2, h3, h4, h5⟩ := h
  refine ⟨?_, by omega, by omega, by omega, by omega⟩
  intro e
  rw [e] at h1
  cases h1
def mainT (s : SSta) : List Tg := s.buses.map .bus ++ (s.lines.map .line ++ (s.srcs.map .src ++ s.bays.map .bay))
theorem main_ok {s : SSta} (h : chkSta s = 0) : OkT s (mainT s) d0 ∧ (runT s (mainT s) d0).nl = s.buses ∧ (runT s (mainT s) d0).ll = s.lines ∧ (runT s (mainT s) d0).sl = s.srcs ∧ (runT s (mainT s) d0).yl = s.bays := by
  obtain ⟨_, hc, h1, h2, h3, h4⟩ := chk_split h
  obtain ⟨_, l1, l2, l3, l4⟩ := cnt_facts hc
  obtain ⟨o1, r1⟩ := run_bus s h1 l1
  obtain ⟨o2, r2⟩ := run_line s s.buses h2 l2 { d0 with nl := s.buses, mpa := mapOf s.buses } rfl rfl
  obtain ⟨o3, r3⟩ := run_src s (s.buses ++ s.lines.map SLine.name) h3 l3 { d0 with nl := s.buses, ll := s.lines, mpa := mapOf (s.buses ++ s.lines.map SLine.name) } rfl rfl
  obtain ⟨o4, r4⟩ := run_bay s _ rfl h1 h2 h3 h4 l1 l2 l3 l4 { d0 with nl := s.buses, ll := s.lines, sl := s.srcs, mpa := mapOf (s.buses ++ s.lines.map SLine.name ++ s.srcs.map SSrc.name) } rfl rfl rfl rfl rfl
  have ho : OkT s (mainT s) d0 := by
    refine OkT_app s _ _ _ o1 ?_
    rw [r1]
    refine OkT_app s _ _ _ o2 ?_
    rw [r2]
    refine OkT_app s _ _ _ o3 ?_
    rw [r3]
    exact o4
  have hr : runT s (mainT s) d0 = { d0 with nl := s.buses, ll := s.lines, sl := s.srcs, yl := s.bays, mpa := mapOf (s.buses ++ s.lines.map SLine.name ++ s.srcs.map SSrc.name ++ s.bays.map SBay.name) } := by
    unfold mainT
    rw [runT_app, r1, runT_app, r2, runT_app, r3, r4]
  rw [hr]
  exact ⟨ho, rfl, rfl, rfl, rfl⟩
theorem main_sta (s : SSta) : ∀ t ∈ mainT s, t.isSta = false := by
  intro t ht
  unfold mainT at ht
  simp only [List.mem_append, List.mem_map] at ht
  rcases ht with ⟨_, _, rfl⟩ | ⟨_, _, rfl⟩ | ⟨_, _, rfl⟩ | ⟨_, _, rfl⟩ <;> rfl
end Go.Proofs.Ythmapnolgdpkbaa.de
namespace Go.Proofs.Ythmapnolgdpkbaa.de
open Go.RowKit Go.Eb Go.Proofs.Ythmapnolgdpkbaa.st
set_option maxRecDepth 100000

theorem cdec_mix {s : SSta} (h : chkSta s = 0) {y : It} (hy : ∀ d, (Tg.oth y).Ok s d) {a c p q : List Tg} (hm : a ++ c = mainT s) (hp : p ++ q = a ++ .sta :: c) (hl : (p ++ .oth y :: q).length ≤ 9000) (hL : okL ((p ++ .oth y :: q).map (Tg.enc s)) = true) (hc : ck.chk ((p ++ .oth y :: q).map (Tg.enc s)) = 0) :
    CX Try.prog 18 [.c (.d (itemsD ((p ++ .oth y :: q).map (Tg.enc s))))] [] (.tup [(true, (staC s).map .d), pI 0, pI 0]) [] := by
  obtain ⟨hn, hcb, _⟩ := chk_split h
  obtain ⟨m1, m2, m3, m4, m5⟩ := main_ok h
  obtain ⟨o1, r1⟩ := OkT_sta s hn a c d0 rfl (by rw [hm]; exact m1) (by rw [hm]; exact main_sta s)
  rw [hm] at r1
  rw [← hp] at o1 r1
  obtain ⟨o2, r2⟩ := OkT_oth s hy p q d0 o1
  have hr : runT s (p ++ .oth y :: q) d0 = setN s (runT s (mainT s) d0) := r2.trans r1
  exact cdecode s (p ++ .oth y :: q) hl hL hc o2 (by rw [hr]; rfl) (by rw [hr]; rfl) (by rw [hr]; exact m2) (by rw [hr]; exact m3) (by rw [hr]; exact m4) (by rw [hr]; exact m5) (cnt_facts hcb).1
theorem main_enc (s : SSta) : (mainT s).map (Tg.enc s) = (encSta s).tail := by
  unfold mainT encSta
  simp [Tg.enc, List.map_append, Function.comp_def, List.append_assoc]
end Go.Proofs.Ythmapnolgdpkbaa.de
namespace Go.Proofs.Ythmapnolgdpkbaa.de
open Go.RowKit Go.Eb Go.Proofs.Ythmapnolgdpkbaa.st
set_option maxRecDepth 100000

theorem numOk_of {n : Int} (h : nOk n) : numOk n := by
  have h1 := h.1
  have h2 := h.2
  refine ⟨h1, ?_⟩
  show n < 1000000000000
  omega
theorem sfit_lines {s : SSta} (h : chkSta s = 0) (k : Nat) (hk : k < s.lines.length) : LFit (s.lines.getD k line0) := by
  obtain ⟨_, _, _, h2, _, _⟩ := chk_split h
  obtain ⟨_, _, i1, i2⟩ := line_facts (take_at (x0 := line0) s.lines [] k h2 hk)
  obtain ⟨p1, p2, p3, p4⟩ := imp_facts i1
  obtain ⟨p5, p6, p7, p8⟩ := imp_facts i2
  exact ⟨numOk_of ⟨by omega, by omega⟩, numOk_of ⟨by omega, by omega⟩, numOk_of ⟨by omega, by omega⟩, numOk_of ⟨by omega, by omega⟩⟩
theorem sfit_srcs {s : SSta} (h : chkSta s = 0) (k : Nat) (hk : k < s.srcs.length) : GFit (s.srcs.getD k src0) := by
  obtain ⟨_, _, _, _, h3, _⟩ := chk_split h
  obtain ⟨_, _, i1, i2, iz⟩ := src_facts (take_at (x0 := src0) s.srcs [] k h3 hk)
  obtain ⟨p1, p2, p3, p4⟩ := imp_facts i1
  obtain ⟨p5, p6, p7, p8⟩ := imp_facts i2
  unfold within at iz
  simp only [Bool.and_eq_true, decide_eq_true_eq] at iz
  exact ⟨numOk_of ⟨by omega, by omega⟩, numOk_of ⟨by omega, by omega⟩, numOk_of ⟨by omega, by omega⟩, numOk_of ⟨by omega, by omega⟩, numOk_of ⟨by omega, by omega⟩⟩
theorem sfit_bays {s : SSta} (h : chkSta s = 0) (k : Nat) (hk : k < s.bays.length) : BFit s (s.bays.getD k bay0) := by
  obtain ⟨_, _, _, _, _, h4⟩ := chk_split h
  have he := take_at (x0 := bay0) s.bays [] k h4 hk
  generalize s.bays.getD k bay0 = b at he
  unfold bayErr at he
  obtain ⟨_, hr, ho, _, hle⟩ := bay_facts he
  obtain ⟨hll, hlk⟩ := links_len hle
  obtain ⟨o1, o2⟩ := bay_off he
  obtain ⟨r1, r2, r3, r4, r5, r6, r7, _⟩ := rng_facts hr
  refine ⟨fun q => ⟨ho, by have := o1 q; omega⟩, fun q => ⟨ho, by have := o2 q; omega⟩, numOk_of r5, numOk_of r6, numOk_of r7, numOk_of r1, numOk_of r2, numOk_of r3, numOk_of r4, fun j hj => ?_, by omega⟩
  have hm : b.links.getD j link0 ∈ b.links := by
    rw [List.getD_eq_getElem?_getD, List.getElem?_eq_getElem hj]
    exact List.getElem_mem hj
  obtain ⟨a1, a2, _⟩ := link_all hlk _ hm
  exact ⟨a1, by omega⟩
theorem sfit {s : SSta} (h : chkSta s = 0) : SFit s := by
  obtain ⟨_, hc, _⟩ := chk_split h
  obtain ⟨_, l1, l2, l3, l4⟩ := cnt_facts hc
  exact ⟨sfit_lines h, sfit_srcs h, sfit_bays h, by omega, by omega, by omega, by omega⟩
end Go.Proofs.Ythmapnolgdpkbaa.de
namespace Go.Proofs.Ythmapnolgdpkbaa.de
open Go.RowKit Go.Eb Go.Proofs.Ythmapnolgdpkbaa.st
open Go.Proofs.Ythmapnolgdpkbaa.ck (chP chP_cons ckItem)
set_option maxRecDepth 100000

theorem wr1 {n : Int} (h0 : 0 ≤ n) (h : n ≤ 5000) : IntKind.wrap IntKind.i64 (n + 1) = n + 1 := wrap_id (by omega) (by omega)
theorem chP_flat : ∀ (l : List It) (d n : Int), (∀ x ∈ l, ckItem x = 0 ∧ x.kids = []) → 0 ≤ n → n + l.length ≤ 600 → 0 ≤ d → d ≤ 4 → chP l d n = (0, n + l.length)
  | [], d, n, _, _, _, _, _ => by simp [chP]
  | x :: r, d, n, h, hn, hl, hd, hd4 => by
    obtain ⟨h1, h2⟩ := h x (by simp)
    simp only [List.length_cons] at hl ⊢
    have a1 : decide (n + 1 > 600) = false := decide_eq_false (by omega)
    have a2 : decide (d > 4) = false := decide_eq_false (by omega)
    have ih := chP_flat r d (n + 1) (fun y hy => h y (by simp [hy])) (by omega) (by omega) hd hd4
    have hk : ∀ e m : Int, chP [] e m = (0, m) := fun e m => by unfold chP; rfl
    rw [chP_cons, wr1 hn (by omega), a1, a2, h1, h2, hk]
    simp only [cond_false, bne_self_eq_false]
    rw [ih]
    congr 1
    omega
def cntL : List It → Nat
  | [] => 0
  | x :: r => 1 + x.kids.length + cntL r
theorem chP_two : ∀ (l : List It) (n : Int), (∀ x ∈ l, ckItem x = 0 ∧ ∀ y ∈ x.kids, ckItem y = 0 ∧ y.kids = []) → 0 ≤ n → n + cntL l ≤ 600 → chP l 0 n = (0, n + cntL l)
  | [], n, _, _, _ => by simp [chP, cntL]
  | x :: r, n, h, hn, hl => by
    obtain ⟨h1, h2⟩ := h x (by simp)
    simp only [cntL] at hl ⊢
    have a1 : decide (n + 1 > 600) = false := decide_eq_false (by omega)
    have a2 : decide ((0 : Int) > 4) = false := rfl
    have ih := chP_two r (n + 1 + x.kids.length) (fun y hy => h y (by simp [hy])) (by omega) (by omega)
    have hk := chP_flat x.kids 1 (n + 1) h2 (by omega) (by omega) (by omega) (by omega)
    have w0 : IntKind.wrap IntKind.i64 ((0 : Int) + 1) = 1 := by decide
    rw [chP_cons, wr1 hn (by omega), a1, a2, h1, w0, hk]
    simp only [cond_false, bne_self_eq_false]
    rw [ih]
    congr 1
    omega
theorem chk_two {l : List It} (h : ∀ x ∈ l, ckItem x = 0 ∧ ∀ y ∈ x.kids, ckItem y = 0 ∧ y.kids = []) (hl : cntL l ≤ 600) : ck.chk l = 0 := by
  unfold ck.chk
  rw [chP_two l 0 h (by omega) (by omega)]
end Go.Proofs.Ythmapnolgdpkbaa.de
namespace Go.Proofs.Ythmapnolgdpkbaa.de
open Go.RowKit Go.Eb Go.Proofs.Ythmapnolgdpkbaa.st
open Go.Proofs.Ythmapnolgdpkbaa.wd
set_option maxRecDepth 100000

theorem digs_plain {l : List UInt8} (h : digs l = true) : l.all (fun c => plainR c.toNat) = true := by
  unfold digs at h
  rw [List.all_eq_true] at h ⊢
  intro c hc
  have := h c hc
  unfold plainR
  simp [this]
theorem dec_plain (n : Int) : plainS (dec n) = true := by
  obtain ⟨f1, _, c, r, f3, _⟩ := decB_facts n.toNat
  unfold plainS dec
  rw [digs_plain f1, strEq, sne]
  · rfl
  · intro e
    rw [e] at f3
    cases f3
theorem cwd_plain {t : ByteArray} (h : plainS t = true) (hs : t.size ≤ 120) : ck.cwd ⟨t, false⟩ = 0 := by
  unfold ck.cwd
  rw [decide_eq_false (by show ¬ (t.size : Int) > 120; omega), h]
  rfl
theorem cws_all : ∀ (l : List Wd), (∀ w ∈ l, ck.cwd w = 0) → ck.cws l = 0
  | [], _ => rfl
  | w :: r, h => by
    unfold ck.cws
    rw [h w (by simp)]
    exact cws_all r fun x hx => h x (by simp [hx])
theorem item_ok {x : It} (h1 : x.words.length ≤ 40) (h2 : ck.opn (x.words.getD 0 w0) = true) (h0 : x.words ≠ []) (h3 : ∀ w ∈ x.words, ck.cwd w = 0) (h4 : x.block = true ∨ x.kids = []) : ck.ckItem x = 0 := by
  unfold ck.ckItem
  have e0 : ((x.words.length : Int) == 0) = false := by
    cases e : ((x.words.length : Int) == 0) with
    | false => rfl
    | true =>
      have := eq_of_beq e
      exact absurd (List.eq_nil_of_length_eq_zero (by omega)) h0
  rw [e0, h2, decide_eq_false (by omega), cws_all _ h3]
  rcases h4 with h | h
  · rw [h]; rfl
  · rw [h]; cases x.block <;> rfl
theorem nm_plain : ∀ (l : List UInt8) (i : Nat), nmT i l = true → l.all (fun c => plainR c.toNat) = true
  | [], _, _ => rfl
  | c :: r, i, h => by
    unfold nmT at h
    simp only [Bool.and_eq_true] at h
    rw [List.all_cons, nm_plain r (i + 1) h.2, Bool.and_true]
    have h1 := h.1
    unfold letterB otherB at h1
    unfold plainR letter digit
    simp only [Bool.or_eq_true, Bool.and_eq_true] at h1 ⊢
    rcases h1 with h1 | ⟨_, h1 | h1⟩
    · exact .inl (.inl (.inl (.inl (.inl (.inl (.inl h1))))))
    · exact .inl (.inl (.inl (.inl (.inl (.inl (.inr h1))))))
    · exact .inl (.inl (.inl (.inl (.inl (.inr h1)))))
theorem name_plain {s : ByteArray} (h : nameOk s = true) : plainS s = true ∧ s.size ≤ 120 := by
  unfold nameOk at h
  simp only [Bool.and_eq_true, Bool.not_eq_true', decide_eq_false_iff_not] at h
  obtain ⟨h0, h1, h2⟩ := h
  refine ⟨?_, by omega⟩
  unfold plainS
  rw [nm_plain _ 0 h2, strEq, sne]
  · rfl
  · intro e
    rw [e] at h0
    cases h0
end Go.Proofs.Ythmapnolgdpkbaa.de
namespace Go.Proofs.Ythmapnolgdpkbaa.de
open Go.RowKit Go.Eb Go.Proofs.Ythmapnolgdpkbaa.st
open Go.Proofs.Ythmapnolgdpkbaa.wd
set_option maxRecDepth 100000

/-- a statement that the syntax allows, its block aside -/
structure Good (x : It) : Prop where
  len : x.words.length ≤ 40
  ne : x.words ≠ []
  op : ck.opn (x.words.getD 0 w0) = true
  ws : ∀ w ∈ x.words, ck.cwd w = 0
theorem Good.item {x : It} (h : Good x) (hk : x.block = true ∨ x.kids = []) : ck.ckItem x = 0 := item_ok h.len h.op h.ne h.ws hk
theorem cwd_sz {w : Wd} (h : ck.cwd w = 0) : w.text.size ≤ 120 := by
  unfold ck.cwd at h
  cases e : decide ((w.text.size : Int) > 120) with
  | true => rw [e] at h; exact absurd h (show ¬ (4 : Int) = 0 by decide)
  | false => have := of_decide_eq_false e; omega
theorem Good.fit {x : It} (h : Good x) : decide (x.words.length ≤ 9223372036854775807) = true ∧ x.words.all (fun w => decide (w.text.size ≤ 9223372036854775807)) = true := by
  have h1 := h.len
  refine ⟨decide_eq_true (by omega), List.all_eq_true.2 fun w hw => decide_eq_true ?_⟩
  have := cwd_sz (h.ws w hw)
  omega
theorem fits_flat : ∀ (l : List It), (∀ x ∈ l, Good x ∧ x.kids = []) → fits l = true
  | [], _ => by rw [fits]
  | .mk a w b k :: r, h => by
    obtain ⟨h1, h2⟩ := h (.mk a w b k) (by simp)
    obtain ⟨f1, f2⟩ := h1.fit
    have hk : k = [] := h2
    subst hk
    have ih := fits_flat r fun x hx => h x (by simp [hx])
    unfold fits
    rw [show decide (w.length ≤ 9223372036854775807) = true from f1, show w.all (fun x => decide (x.text.size ≤ 9223372036854775807)) = true from f2, ih]
    unfold fits
    rfl
theorem fits_two : ∀ (l : List It), (∀ x ∈ l, Good x ∧ x.kids.length ≤ 600 ∧ ∀ y ∈ x.kids, Good y ∧ y.kids = []) → fits l = true
  | [], _ => by rw [fits]
  | .mk a w b k :: r, h => by
    obtain ⟨h1, h2, h3⟩ := h (.mk a w b k) (by simp)
    obtain ⟨f1, f2⟩ := h1.fit
    have h2' : k.length ≤ 600 := h2
    have ih := fits_two r fun x hx => h x (by simp [hx])
    unfold fits
    rw [show decide (w.length ≤ 9223372036854775807) = true from f1, show w.all (fun x => decide (x.text.size ≤ 9223372036854775807)) = true from f2, ih, fits_flat k h3, decide_eq_true (show k.length ≤ 9223372036854775807 by omega)]
    rfl
theorem say_good {t : ByteArray} {r : List ByteArray} (h1 : ck.opn ⟨t, false⟩ = true) (h2 : ck.cwd ⟨t, false⟩ = 0) (h3 : ∀ u ∈ r, ck.cwd ⟨u, false⟩ = 0) (h4 : r.length ≤ 39) : Good (say (t :: r)) ∧ (say (t :: r)).kids = [] := by
  refine ⟨⟨?_, ?_, h1, ?_⟩, rfl⟩
  · show ((t :: r).map fun t => (⟨t, false⟩ : Wd)).length ≤ 40
    simp; omega
  · show ((t :: r).map fun t => (⟨t, false⟩ : Wd)) ≠ []
    simp
  · intro w hw
    have hw' : w ∈ (t :: r).map fun t => (⟨t, false⟩ : Wd) := hw
    simp only [List.map_cons, List.mem_cons, List.mem_map] at hw'
    rcases hw' with rfl | ⟨u, hu, rfl⟩
    · exact h2
    · exact h3 u hu
theorem cwdN {t : ByteArray} (h : nameOk t = true) : ck.cwd ⟨t, false⟩ = 0 := cwd_plain (name_plain h).1 (name_plain h).2
theorem cwdD {n : Int} (h : nOk n) : ck.cwd ⟨dec n, false⟩ = 0 := by
  refine cwd_plain (dec_plain n) ?_
  have := decB_sz 6 n.toNat (by have := h.2; have := h.1; omega)
  unfold dec
  omega
/-- a word of the language -/
structure Tag (t : ByteArray) : Prop where
  op : ck.opn ⟨t, false⟩ = true
  cw : ck.cwd ⟨t, false⟩ = 0
theorem tag_of {t : ByteArray} (h1 : t ≠ ByteArray.mk #[]) (h2 : letter ((bs t).getD 0 0).toNat = true) (h3 : (bs t).all (fun c => plainR c.toNat) = true) (h4 : t.size ≤ 120) : Tag t := by
  have h5 : (t.toList == (ByteArray.mk #[]).toList) = false := by rw [strEq]; exact sne h1
  refine ⟨?_, cwd_plain ?_ h4⟩
  · unfold ck.opn
    rw [h5, h2]
    rfl
  · unfold plainS
    rw [h3, h5]
    rfl
theorem tgStation : Tag tStation := tag_of (by decide) (by kernel_rfl) (by kernel_rfl) (by decide)
theorem tgBus : Tag tBus' := tag_of (by decide) (by kernel_rfl) (by kernel_rfl) (by decide)
theorem tgLine : Tag tLine' := tag_of (by decide) (by kernel_rfl) (by kernel_rfl) (by decide)
theorem tgSource : Tag tSource := tag_of (by decide) (by kernel_rfl) (by kernel_rfl) (by decide)
theorem tgBay : Tag tBay' := tag_of (by decide) (by kernel_rfl) (by kernel_rfl) (by decide)
theorem tgCoupler : Tag tCoupler := tag_of (by decide) (by kernel_rfl) (by kernel_rfl) (by decide)
theorem tgCt : Tag tCt := tag_of (by decide) (by kernel_rfl) (by kernel_rfl) (by decide)
theorem tgVt : Tag tVt := tag_of (by decide) (by kernel_rfl) (by kernel_rfl) (by decide)
theorem tgSat : Tag tSat := tag_of (by decide) (by kernel_rfl) (by kernel_rfl) (by decide)
theorem tgTravel : Tag tTravel := tag_of (by decide) (by kernel_rfl) (by kernel_rfl) (by decide)
theorem tgSelect : Tag tSelect := tag_of (by decide) (by kernel_rfl) (by kernel_rfl) (by decide)
theorem tgOpen : Tag tOpen := tag_of (by decide) (by kernel_rfl) (by kernel_rfl) (by decide)
theorem tgClosed : Tag tClosed := tag_of (by decide) (by kernel_rfl) (by kernel_rfl) (by decide)
theorem tgBreaker : Tag tBreaker := tag_of (by decide) (by kernel_rfl) (by kernel_rfl) (by decide)
def tRelay : ByteArray := ⟨#[114, 101, 108, 97, 121]⟩
def tX : ByteArray := ⟨#[120]⟩
theorem tgRelay : Tag tRelay := tag_of (by decide) (by kernel_rfl) (by kernel_rfl) (by decide)
theorem tgX : Tag tX := tag_of (by decide) (by kernel_rfl) (by kernel_rfl) (by decide)
theorem Tag.say {t : ByteArray} (h : Tag t) {r : List ByteArray} (h3 : ∀ u ∈ r, ck.cwd ⟨u, false⟩ = 0) (h4 : r.length ≤ 39) : Good (say (t :: r)) ∧ (Go.Eb.say (t :: r)).kids = [] := say_good h.op h.cw h3 h4
end Go.Proofs.Ythmapnolgdpkbaa.de
namespace Go.Proofs.Ythmapnolgdpkbaa.de
open Go.RowKit Go.Eb Go.Proofs.Ythmapnolgdpkbaa.st
open Go.Proofs.Ythmapnolgdpkbaa.wd
set_option maxRecDepth 100000

theorem mem_at {α : Type} {d x : α} : ∀ {l : List α}, x ∈ l → ∃ k, k < l.length ∧ l.getD k d = x
  | [], h => by simp at h
  | y :: r, h => by
    rcases List.mem_cons.1 h with rfl | h
    · exact ⟨0, by simp, rfl⟩
    · obtain ⟨k, h1, h2⟩ := mem_at h
      exact ⟨k + 1, by simpa using h1, h2⟩
theorem wth {n a b : Int} (h : within n a b = true) : a ≤ n ∧ n ≤ b := by
  unfold within at h
  simp only [Bool.and_eq_true, decide_eq_true_eq] at h
  exact ⟨h.1, h.2⟩
theorem imp_n {r x : Int} (h : impOk r x = true) : nOk r ∧ nOk x := by
  unfold impOk at h
  simp only [Bool.and_eq_true] at h
  have a := wth h.1
  have b := wth h.2
  exact ⟨⟨by omega, by omega⟩, ⟨by omega, by omega⟩⟩
section
variable {s : SSta} (h : chkSta s = 0)
include h
theorem bus_nm (k : Nat) (hk : k < s.buses.length) : nameOk (s.buses.getD k e0) = true := by
  obtain ⟨_, _, h1, _, _, _⟩ := chk_split h
  exact (nam_facts (take_at (x0 := e0) s.buses [] k h1 hk)).1
theorem good_bus {n : ByteArray} (hn : n ∈ s.buses) : Good (encBus n) ∧ (encBus n).kids = [] := by
  obtain ⟨k, hk, rfl⟩ := mem_at (d := e0) hn
  exact tgBus.say (by simp only [List.mem_singleton]; rintro u rfl; exact cwdN (bus_nm h k hk)) (by simp)
theorem good_line {x : SLine} (hn : x ∈ s.lines) : Good (encLine x) ∧ (encLine x).kids = [] := by
  obtain ⟨k, hk, rfl⟩ := mem_at (d := line0) hn
  obtain ⟨_, _, _, h2, _, _⟩ := chk_split h
  obtain ⟨n1, _, i1, i2⟩ := line_facts (take_at (x0 := line0) s.lines [] k h2 hk)
  obtain ⟨a1, a2⟩ := imp_n i1
  obtain ⟨a3, a4⟩ := imp_n i2
  refine tgLine.say ?_ (by simp)
  simp only [List.mem_cons, List.not_mem_nil, or_false]
  rintro u (rfl | rfl | rfl | rfl | rfl)
  · exact cwdN n1
  · exact cwdD a1
  · exact cwdD a2
  · exact cwdD a3
  · exact cwdD a4
theorem good_src {x : SSrc} (hn : x ∈ s.srcs) : Good (encSrc x) ∧ (encSrc x).kids = [] := by
  obtain ⟨k, hk, rfl⟩ := mem_at (d := src0) hn
  obtain ⟨_, _, _, _, h3, _⟩ := chk_split h
  obtain ⟨n1, _, i1, i2, i3⟩ := src_facts (take_at (x0 := src0) s.srcs [] k h3 hk)
  obtain ⟨a1, a2⟩ := imp_n i1
  obtain ⟨a3, a4⟩ := imp_n i2
  have a5 : nOk (s.srcs.getD k src0).emf := by have := wth i3; exact ⟨by omega, by omega⟩
  refine tgSource.say ?_ (by simp)
  simp only [List.mem_cons, List.not_mem_nil, or_false]
  rintro u (rfl | rfl | rfl | rfl | rfl | rfl)
  · exact cwdN n1
  · exact cwdD a5
  · exact cwdD a1
  · exact cwdD a2
  · exact cwdD a3
  · exact cwdD a4
end
theorem bay_nm {nb nl ns : Nat} {dup : Bool} {bef : List SBay} {b : SBay} (h : bayErrD nb nl ns dup bef b = 0) : nameOk b.name = true := by
  unfold bayErrD at h
  cases hn : nameOk b.name with
  | false => rw [hn] at h; exact absurd h (show ¬ (7 : Int) = 0 by decide)
  | true => rfl
theorem words_good {x : It} {t : ByteArray} {r : List ByteArray} (ht : Tag t) (hx : x.words = (t :: r).map fun t => (⟨t, false⟩ : Wd)) (h3 : ∀ u ∈ r, ck.cwd ⟨u, false⟩ = 0) (h4 : r.length ≤ 39) : Good x := by
  obtain ⟨g, _⟩ := ht.say h3 h4
  have e : (say (t :: r)).words = x.words := hx.symm
  exact ⟨e ▸ g.len, e ▸ g.ne, e ▸ g.op, e ▸ g.ws⟩
theorem good_bayW {s : SSta} {b : SBay} (hn : nameOk b.name = true) (h1 : b.kind = 1 → nameOk (s.lines.getD b.off.toNat line0).name = true) (h2 : b.kind = 2 → nameOk (s.srcs.getD b.off.toNat src0).name = true) (hf : nOk b.fin) (hr : nOk b.zr) (hx : nOk b.zx) : Good (encBay s b) := by
  cases e1 : (b.kind == 1) with
  | true =>
    refine words_good (x := encBay s b) tgBay (r := [b.name, tLine', (s.lines.getD b.off.toNat line0).name, dec b.fin]) ?_ ?_ (by simp)
    · show bayW s b = _
      unfold bayW
      rw [e1]
      rfl
    · simp only [List.mem_cons, List.not_mem_nil, or_false]
      rintro u (rfl | rfl | rfl | rfl)
      · exact cwdN hn
      · exact tgLine.cw
      · exact cwdN (h1 (eq_of_beq e1))
      · exact cwdD hf
  | false =>
    cases e2 : (b.kind == 2) with
    | true =>
      refine words_good (x := encBay s b) tgBay (r := [b.name, tSource, (s.srcs.getD b.off.toNat src0).name]) ?_ ?_ (by simp)
      · show bayW s b = _
        unfold bayW
        rw [e1, e2]
        rfl
      · simp only [List.mem_cons, List.not_mem_nil, or_false]
        rintro u (rfl | rfl | rfl)
        · exact cwdN hn
        · exact tgSource.cw
        · exact cwdN (h2 (eq_of_beq e2))
    | false =>
      refine words_good (x := encBay s b) tgBay (r := [b.name, tCoupler, dec b.zr, dec b.zx]) ?_ ?_ (by simp)
      · show bayW s b = _
        unfold bayW
        rw [e1, e2]
        rfl
      · simp only [List.mem_cons, List.not_mem_nil, or_false]
        rintro u (rfl | rfl | rfl | rfl)
        · exact cwdN hn
        · exact tgCoupler.cw
        · exact cwdD hr
        · exact cwdD hx
theorem good_bayK {s : SSta} {b : SBay} (h1 : nOk b.ct) (h2 : nOk b.vt) (h3 : nOk b.sat) (h4 : nOk b.travel) (hl : ∀ l ∈ b.links, nameOk (s.buses.getD l.bus.toNat e0) = true) : ∀ y ∈ bayK s b, Good y ∧ y.kids = [] := by
  intro y hy
  unfold bayK at hy
  simp only [List.mem_append, List.mem_singleton, List.mem_map] at hy
  have one : ∀ {t : ByteArray} {n : Int}, Tag t → nOk n → Good (say [t, dec n]) ∧ (say [t, dec n]).kids = [] := fun ht hn => ht.say (by simp only [List.mem_singleton]; rintro u rfl; exact cwdD hn) (by simp)
  rcases hy with ((((rfl | hy) | hy) | rfl) | ⟨l, hl', rfl⟩) | hy
  · exact one tgCt h1
  · cases e : (b.kind != 3) with
    | true =>
      rw [e] at hy
      obtain rfl := List.mem_singleton.1 hy
      exact one tgVt h2
    | false => rw [e] at hy; cases hy
  · cases e : (b.sat != 0) with
    | true =>
      rw [e] at hy
      obtain rfl := List.mem_singleton.1 hy
      exact one tgSat h3
    | false => rw [e] at hy; cases hy
  · exact one tgTravel h4
  · refine tgSelect.say ?_ (by simp)
    simp only [List.mem_cons, List.not_mem_nil, or_false]
    rintro u (rfl | rfl)
    · exact cwdN (hl l hl')
    · cases (l.pos == 1)
      · exact tgOpen.cw
      · exact tgClosed.cw
  · cases e : (!b.closed) with
    | true =>
      rw [e] at hy
      obtain rfl := List.mem_singleton.1 hy
      exact tgBreaker.say (by simp only [List.mem_singleton]; rintro u rfl; exact tgOpen.cw) (by simp)
    | false => rw [e] at hy; cases hy
theorem bayK_len7 (s : SSta) (b : SBay) (h : b.links.length ≤ 2) : (bayK s b).length ≤ 7 := by
  unfold bayK
  cases (b.kind != 3) <;> cases (b.sat != 0) <;> cases (!b.closed) <;> simp <;> omega
theorem good_bay {s : SSta} (h : chkSta s = 0) {b : SBay} (hb : b ∈ s.bays) : Good (encBay s b) ∧ (bayK s b).length ≤ 7 ∧ ∀ y ∈ bayK s b, Good y ∧ y.kids = [] := by
  obtain ⟨k, hk, rfl⟩ := mem_at (d := bay0) hb
  obtain ⟨_, _, _, h2, h3, h4⟩ := chk_split h
  have he := take_at (x0 := bay0) s.bays [] k h4 hk
  generalize s.bays.getD k bay0 = b at he
  unfold bayErr at he
  obtain ⟨_, hr, ho, _, hle⟩ := bay_facts he
  obtain ⟨hll, hlk⟩ := links_len hle
  obtain ⟨o1, o2⟩ := bay_off he
  obtain ⟨r1, r2, r3, r4, r5, r6, r7, _⟩ := rng_facts hr
  refine ⟨good_bayW (bay_nm he) (fun q => (line_facts (take_at (x0 := line0) s.lines [] _ h2 (o1 q))).1) (fun q => (src_facts (take_at (x0 := src0) s.srcs [] _ h3 (o2 q))).1) r5 r6 r7, bayK_len7 s b (by omega), good_bayK r1 r2 r3 r4 fun l hl => ?_⟩
  obtain ⟨_, a2, _⟩ := link_all hlk l hl
  exact bus_nm h _ a2
end Go.Proofs.Ythmapnolgdpkbaa.de
namespace Go.Proofs.Ythmapnolgdpkbaa.de
open Go.RowKit Go.Eb Go.Proofs.Ythmapnolgdpkbaa.st
set_option maxRecDepth 100000

/-- a statement of another kind -/
def yO : It := .mk 0 [⟨tRelay, false⟩, ⟨tX, false⟩] true []
theorem yO_ok (s : SSta) : ∀ d, (Tg.oth yO).Ok s d := fun _ => ⟨by decide, by decide, by decide, by decide, by decide, by decide⟩
/-- a statement of two levels that the syntax allows -/
def Good2 (x : It) : Prop := Good x ∧ (x.block = true ∨ x.kids = []) ∧ x.kids.length ≤ 7 ∧ ∀ y ∈ x.kids, Good y ∧ y.kids = []
theorem Good2.flat {x : It} (h : Good x ∧ x.kids = []) : Good2 x := ⟨h.1, .inr h.2, by rw [h.2]; simp, by rw [h.2]; simp⟩
theorem cntL_le (n : Nat) : ∀ (l : List It), (∀ x ∈ l, x.kids.length ≤ n) → cntL l ≤ l.length * (n + 1)
  | [], _ => by simp [cntL]
  | x :: r, h => by
    have h1 := h x (by simp)
    have ih := cntL_le n r fun y hy => h y (by simp [hy])
    simp only [cntL, List.length_cons, Nat.add_mul]
    omega
section
variable {s : SSta} (h : chkSta s = 0)
include h
theorem good_main : ∀ t ∈ mainT s, Good2 (t.enc s) := by
  intro t ht
  unfold mainT at ht
  simp only [List.mem_append, List.mem_map] at ht
  rcases ht with ⟨x, hx, rfl⟩ | ⟨x, hx, rfl⟩ | ⟨x, hx, rfl⟩ | ⟨x, hx, rfl⟩
  · exact .flat (good_bus h hx)
  · exact .flat (good_line h hx)
  · exact .flat (good_src h hx)
  · obtain ⟨g1, g2, g3⟩ := good_bay h hx
    exact ⟨g1, .inl rfl, g2, g3⟩
theorem good_sta : Good2 (Tg.sta.enc s) := by
  obtain ⟨h1, _⟩ := chk_split h
  exact .flat (tgStation.say (by simp only [List.mem_singleton]; rintro u rfl; exact cwdN h1) (by simp))
theorem main_len : (mainT s).length ≤ 30 := by
  obtain ⟨_, hc, _⟩ := chk_split h
  obtain ⟨_, l1, l2, l3, l4⟩ := cnt_facts hc
  unfold mainT
  simp
  omega
end
theorem good_yO : Good2 yO := by
  refine ⟨words_good (x := yO) tgRelay (r := [tX]) rfl (by simp only [List.mem_singleton]; rintro u rfl; exact tgX.cw) (by simp), .inl rfl, by decide, ?_⟩
  intro y hy
  cases hy
theorem good_list {l : List It} (h : ∀ x ∈ l, Good2 x) (hl : l.length ≤ 60) : okL l = true ∧ ck.chk l = 0 := by
  refine ⟨?_, ?_⟩
  · unfold okL
    rw [decide_eq_true (by omega), fits_two l fun x hx => ⟨(h x hx).1, by have := (h x hx).2.2.1; omega, (h x hx).2.2.2⟩]
    rfl
  · refine chk_two (fun x hx => ⟨(h x hx).1.item (h x hx).2.1, fun y hy => ⟨((h x hx).2.2.2 y hy).1.item (.inr ((h x hx).2.2.2 y hy).2), ((h x hx).2.2.2 y hy).2⟩⟩) ?_
    have := cntL_le 7 l fun x hx => (h x hx).2.2.1
    omega
theorem mix_good {s : SSta} (h : chkSta s = 0) {a c p q : List Tg} (hm : a ++ c = mainT s) (hp : p ++ q = a ++ .sta :: c) : (p ++ .oth yO :: q).length ≤ 60 ∧ okL ((p ++ .oth yO :: q).map (Tg.enc s)) = true ∧ ck.chk ((p ++ .oth yO :: q).map (Tg.enc s)) = 0 := by
  have hl : (p ++ .oth yO :: q).length ≤ 60 := by
    have e1 := congrArg List.length hp
    have e2 := congrArg List.length hm
    have e3 := main_len h
    simp at e1 e2 ⊢
    omega
  refine ⟨hl, good_list ?_ (by simpa using hl)⟩
  intro x hx
  obtain ⟨t, ht, rfl⟩ := List.mem_map.1 hx
  have hs : ∀ t ∈ a ++ .sta :: c, Good2 (Tg.enc s t) := by
    intro t ht
    rcases List.mem_append.1 ht with ht | ht
    · exact good_main h t (by rw [← hm]; simp [ht])
    · rcases List.mem_cons.1 ht with rfl | ht
      · exact good_sta h
      · exact good_main h t (by rw [← hm]; simp [ht])
  rcases List.mem_append.1 ht with ht | ht
  · exact hs t (by rw [← hp]; simp [ht])
  · rcases List.mem_cons.1 ht with rfl | ht
    · exact good_yO
    · exact hs t (by rw [← hp]; simp [ht])
/-- Decode of a diagram's statements in a place of their own, with another one in between -/
theorem cdec_law {s : SSta} (h : chkSta s = 0) {a c p q : List Tg} (hm : a ++ c = mainT s) (hp : p ++ q = a ++ .sta :: c) :
    CX Try.prog 18 [.c (.d (itemsD ((p ++ .oth yO :: q).map (Tg.enc s))))] [] (.tup [(true, (staC s).map .d), pI 0, pI 0]) [] := by
  obtain ⟨h1, h2, h3⟩ := mix_good h hm hp
  exact cdec_mix h (yO_ok s) hm hp (by omega) h2 h3
end Go.Proofs.Ythmapnolgdpkbaa.de
namespace Go.Proofs.Ythmapnolgdpkbaa.st
open Go.RowKit Go.Eb

noncomputable def ann34 := annOf [(4, ⟨[0, 1, 12, 13], []⟩)]
noncomputable def L34 (l r : List ByteArray) (g m : Nat) (i : Int) := LK Try.prog Orc.nil ann34 0 g Try.f34 4 m ⟨frm [(0, .c (.d (busesD l))), (1, .c (.d (busesD r))), (12, vI l.length), (13, vI i)] 0 Try.f34.ntmps, [], 0⟩
set_option maxRecDepth 100000 in
theorem ev34 (l r : List ByteArray) (g : Nat) : callC Try.prog Orc.nil ann34 g Try.f34 (bodyOf Try.f34) [.c (.d (busesD l)), .c (.d (busesD r))] [] =
 (bif (↑(List.length l) : Int) != (↑(List.length r) : Int) then some (T.leaf (AV.c (C.d (D.v (Value.bool false))), [])) else L34 l r g g ((0 : Int))) := by kernel_rfl
set_option maxRecDepth 100000 in
theorem st34 (l r : List ByteArray) (g m : Nat) (i : Int) : L34 l r g (m + 1) i =
 (bif decide (i < (↑(List.length l) : Int)) then (bif decide ((0 : Int) ≤ i) && decide (i < (↑(List.length l) : Int)) then (bif decide ((0 : Int) ≤ i) && decide (i < (↑(List.length
 r) : Int)) then (bif !ByteArray.toList (List.getD l (Int.toNat i) e0) == ByteArray.toList (List.getD r (Int.toNat i) e0) then some (T.leaf (AV.c (C.d (D.v (Value.bool false))), []))
 else L34 l r g m (IntKind.wrap IntKind.i64 (i + (1 : Int)))) else none) else none) else some (T.leaf (AV.c (C.d (D.v (Value.bool true))), []))) := by kernel_rfl
noncomputable def L35 (l r : List SLine) (g m : Nat) (i : Int) := LK Try.prog Orc.nil ann34 0 g Try.f35 4 m ⟨frm [(0, .c (.d (linesD l))), (1, .c (.d (linesD r))), (12, vI l.length), (13, vI i)] 0 Try.f35.ntmps, [], 0⟩
set_option maxRecDepth 100000 in
theorem ev35 (l r : List SLine) (g : Nat) : callC Try.prog Orc.nil ann34 g Try.f35 (bodyOf Try.f35) [.c (.d (linesD l)), .c (.d (linesD r))] [] =
 (bif (↑(List.length l) : Int) != (↑(List.length r) : Int) then some (T.leaf (AV.c (C.d (D.v (Value.bool false))), [])) else L35 l r g g ((0 : Int))) := by kernel_rfl
set_option maxRecDepth 100000 in
theorem st35 (l r : List SLine) (g m : Nat) (i : Int) : L35 l r g (m + 1) i =
 (bif decide (i < (↑(List.length l) : Int)) then (bif decide ((0 : Int) ≤ i) && decide (i < (↑(List.length l) : Int)) then (bif decide ((0 : Int) ≤ i) && decide (i < (↑(List.length
 r) : Int)) then (bif !(ByteArray.toList (SLine.name (List.getD l (Int.toNat i) line0)) == ByteArray.toList (SLine.name (List.getD r (Int.toNat i) line0)) && (SLine.r1 (List.getD l
 (Int.toNat i) line0) == SLine.r1 (List.getD r (Int.toNat i) line0) && (SLine.x1 (List.getD l (Int.toNat i) line0) == SLine.x1 (List.getD r (Int.toNat i) line0) && true) && (SLine.r0
 (List.getD l (Int.toNat i) line0) == SLine.r0 (List.getD r (Int.toNat i) line0) && (SLine.x0 (List.getD l (Int.toNat i) line0) == SLine.x0 (List.getD r (Int.toNat i) line0) && true)
 && true))) then some (T.leaf (AV.c (C.d (D.v (Value.bool false))), [])) else L35 l r g m (IntKind.wrap IntKind.i64 (i + (1 : Int)))) else none) else none) else some (T.leaf (AV.c
 (C.d (D.v (Value.bool true))), []))) := by kernel_rfl
noncomputable def L36 (l r : List SSrc) (g m : Nat) (i : Int) := LK Try.prog Orc.nil ann34 0 g Try.f36 4 m ⟨frm [(0, .c (.d (srcsD l))), (1, .c (.d (srcsD r))), (12, vI l.length), (13, vI i)] 0 Try.f36.ntmps, [], 0⟩
set_option maxRecDepth 100000 in
theorem ev36 (l r : List SSrc) (g : Nat) : callC Try.prog Orc.nil ann34 g Try.f36 (bodyOf Try.f36) [.c (.d (srcsD l)), .c (.d (srcsD r))] [] =
 (bif (↑(List.length l) : Int) != (↑(List.length r) : Int) then some (T.leaf (AV.c (C.d (D.v (Value.bool false))), [])) else L36 l r g g ((0 : Int))) := by kernel_rfl
set_option maxRecDepth 100000 in
theorem st36 (l r : List SSrc) (g m : Nat) (i : Int) : L36 l r g (m + 1) i =
 (bif decide (i < (↑(List.length l) : Int)) then (bif decide ((0 : Int) ≤ i) && decide (i < (↑(List.length l) : Int)) then (bif decide ((0 : Int) ≤ i) && decide (i < (↑(List.length
 r) : Int)) then (bif !(ByteArray.toList (SSrc.name (List.getD l (Int.toNat i) src0)) == ByteArray.toList (SSrc.name (List.getD r (Int.toNat i) src0)) && (SSrc.emf (List.getD l
 (Int.toNat i) src0) == SSrc.emf (List.getD r (Int.toNat i) src0) && (SSrc.r1 (List.getD l (Int.toNat i) src0) == SSrc.r1 (List.getD r (Int.toNat i) src0) && (SSrc.x1 (List.getD l
 (Int.toNat i) src0) == SSrc.x1 (List.getD r (Int.toNat i) src0) && true) && (SSrc.r0 (List.getD l (Int.toNat i) src0) == SSrc.r0 (List.getD r (Int.toNat i) src0) && (SSrc.x0
 (List.getD l (Int.toNat i) src0) == SSrc.x0 (List.getD r (Int.toNat i) src0) && true) && true)))) then some (T.leaf (AV.c (C.d (D.v (Value.bool false))), [])) else L36 l r g m
 (IntKind.wrap IntKind.i64 (i + (1 : Int)))) else none) else none) else some (T.leaf (AV.c (C.d (D.v (Value.bool true))), []))) := by kernel_rfl
noncomputable def L56 (l r : List SLink) (g m : Nat) (i : Int) := LK Try.prog Orc.nil ann34 0 g Try.f56 4 m ⟨frm [(0, .c (.d (linksD l))), (1, .c (.d (linksD r))), (12, vI l.length), (13, vI i)] 0 Try.f56.ntmps, [], 0⟩
set_option maxRecDepth 100000 in
theorem ev56 (l r : List SLink) (g : Nat) : callC Try.prog Orc.nil ann34 g Try.f56 (bodyOf Try.f56) [.c (.d (linksD l)), .c (.d (linksD r))] [] =
 (bif (↑(List.length l) : Int) != (↑(List.length r) : Int) then some (T.leaf (AV.c (C.d (D.v (Value.bool false))), [])) else L56 l r g g ((0 : Int))) := by kernel_rfl
set_option maxRecDepth 100000 in
theorem st56 (l r : List SLink) (g m : Nat) (i : Int) : L56 l r g (m + 1) i =
 (bif decide (i < (↑(List.length l) : Int)) then (bif decide ((0 : Int) ≤ i) && decide (i < (↑(List.length l) : Int)) then (bif decide ((0 : Int) ≤ i) && decide (i < (↑(List.length
 r) : Int)) then (bif !(SLink.bus (List.getD l (Int.toNat i) link0) == SLink.bus (List.getD r (Int.toNat i) link0) && (SLink.pos (List.getD l (Int.toNat i) link0) == SLink.pos
 (List.getD r (Int.toNat i) link0) && true)) then some (T.leaf (AV.c (C.d (D.v (Value.bool false))), [])) else L56 l r g m (IntKind.wrap IntKind.i64 (i + (1 : Int)))) else none) else
 none) else some (T.leaf (AV.c (C.d (D.v (Value.bool true))), []))) := by kernel_rfl
end Go.Proofs.Ythmapnolgdpkbaa.st
namespace Go.Proofs.Ythmapnolgdpkbaa.st
open Go.RowKit Go.Eb

theorem b34 : Try.f34.body = some (bodyOf Try.f34) := by kernel_rfl
def eqS (a b : ByteArray) : Bool := a.toList == b.toList
theorem r34 (l r : List ByteArray) (g : Nat) (hb : l.length ≤ 9223372036854775807) (hg : l.length < g) : callC Try.prog Orc.nil ann34 g Try.f34 (bodyOf Try.f34) [.c (.d (busesD l)), .c (.d (busesD r))] [] = some (.leaf (vB (eqL eqS l r), [])) := by
  rw [ev34]
  exact eq_whole (L := L34 l r g) (eq := eqS) (d := e0) (fun m i => st34 l r g m i) hb hg
theorem c34 (l r : List ByteArray) (hb : l.length ≤ 9223372036854775807) : CX Try.prog 34 [.c (.d (busesD l)), .c (.d (busesD r))] [] (vB (eqL eqS l r)) [] := cx_of (Orc.nil_ok _) Try.func34 b34 rfl (r34 l r (l.length + 1) hb (by omega))

theorem b35 : Try.f35.body = some (bodyOf Try.f35) := by kernel_rfl
def eq35 (a b : SLine) : Bool := a.name.toList == b.name.toList && (a.r1 == b.r1 && (a.x1 == b.x1 && true) && (a.r0 == b.r0 && (a.x0 == b.x0 && true) && true))
theorem r35 (l r : List SLine) (g : Nat) (hb : l.length ≤ 9223372036854775807) (hg : l.length < g) : callC Try.prog Orc.nil ann34 g Try.f35 (bodyOf Try.f35) [.c (.d (linesD l)), .c (.d (linesD r))] [] = some (.leaf (vB (eqL eq35 l r), [])) := by
  rw [ev35]
  exact eq_whole (L := L35 l r g) (eq := eq35) (d := line0) (fun m i => st35 l r g m i) hb hg
theorem c35 (l r : List SLine) (hb : l.length ≤ 9223372036854775807) : CX Try.prog 35 [.c (.d (linesD l)), .c (.d (linesD r))] [] (vB (eqL eq35 l r)) [] := cx_of (Orc.nil_ok _) Try.func35 b35 rfl (r35 l r (l.length + 1) hb (by omega))

theorem b36 : Try.f36.body = some (bodyOf Try.f36) := by kernel_rfl
def eq36 (a b : SSrc) : Bool := a.name.toList == b.name.toList && (a.emf == b.emf && (a.r1 == b.r1 && (a.x1 == b.x1 && true) && (a.r0 == b.r0 && (a.x0 == b.x0 && true) && true)))
theorem r36 (l r : List SSrc) (g : Nat) (hb : l.length ≤ 9223372036854775807) (hg : l.length < g) : callC Try.prog Orc.nil ann34 g Try.f36 (bodyOf Try.f36) [.c (.d (srcsD l)), .c (.d (srcsD r))] [] = some (.leaf (vB (eqL eq36 l r), [])) := by
  rw [ev36]
  exact eq_whole (L := L36 l r g) (eq := eq36) (d := src0) (fun m i => st36 l r g m i) hb hg
theorem c36 (l r : List SSrc) (hb : l.length ≤ 9223372036854775807) : CX Try.prog 36 [.c (.d (srcsD l)), .c (.d (srcsD r))] [] (vB (eqL eq36 l r)) [] := cx_of (Orc.nil_ok _) Try.func36 b36 rfl (r36 l r (l.length + 1) hb (by omega))

theorem b56 : Try.f56.body = some (bodyOf Try.f56) := by kernel_rfl
def eq56 (a b : SLink) : Bool := a.bus == b.bus && (a.pos == b.pos && true)
theorem r56 (l r : List SLink) (g : Nat) (hb : l.length ≤ 9223372036854775807) (hg : l.length < g) : callC Try.prog Orc.nil ann34 g Try.f56 (bodyOf Try.f56) [.c (.d (linksD l)), .c (.d (linksD r))] [] = some (.leaf (vB (eqL eq56 l r), [])) := by
  rw [ev56]
  exact eq_whole (L := L56 l r g) (eq := eq56) (d := link0) (fun m i => st56 l r g m i) hb hg
theorem c56 (l r : List SLink) (hb : l.length ≤ 9223372036854775807) : CX Try.prog 56 [.c (.d (linksD l)), .c (.d (linksD r))] [] (vB (eqL eq56 l r)) [] := cx_of (Orc.nil_ok _) Try.func56 b56 rfl (r56 l r (l.length + 1) hb (by omega))
end Go.Proofs.Ythmapnolgdpkbaa.st
namespace Go.Proofs.Ythmapnolgdpkbaa.st
open Go.RowKit Go.Eb

noncomputable def o38 (ok sm : D → D → Bool) : Orc := Orc.cons 56 (ans2 ok fun x y => vB (sm x y)) Orc.nil
noncomputable def o37 (ok sm : D → D → Bool) : Orc := Orc.cons 38 (inl Try.prog (o38 ok sm) na 1 Try.f38) Orc.nil
noncomputable def ann37 := annOf [(4, ⟨[1, 2, 15, 16, 17], []⟩)]
noncomputable def L37 (ok sm : D → D → Bool) (l r : List SBay) (g m : Nat) (i : Int) := LK Try.prog (o37 ok sm) ann37 0 g Try.f37 4 m ⟨frm [(1, .c (.d (baysD r))), (2, .c (.d (.v (.func (.func 38) #[] #[])))), (15, .c (.d (baysD l))), (16, vI l.length), (17, vI i)] 0 Try.f37.ntmps, [], 0⟩
set_option maxRecDepth 100000 in
theorem st37 (ok sm : D → D → Bool) (l r : List SBay) (g m : Nat) (i : Int) : L37 ok sm l r g (m + 1) i =
 (bif decide (i < (↑(List.length l) : Int)) then (bif decide ((0 : Int) ≤ i) && decide (i < (↑(List.length l) : Int)) then (bif decide ((0 : Int) ≤ i) && decide (i < (↑(List.length
 r) : Int)) then (bif ByteArray.toList (SBay.name (List.getD l (Int.toNat i) bay0)) == ByteArray.toList (SBay.name (List.getD r (Int.toNat i) bay0)) then (bif SBay.kind (List.getD l
 (Int.toNat i) bay0) == SBay.kind (List.getD r (Int.toNat i) bay0) then (bif SBay.off (List.getD l (Int.toNat i) bay0) == SBay.off (List.getD r (Int.toNat i) bay0) then (bif SBay.fin
 (List.getD l (Int.toNat i) bay0) == SBay.fin (List.getD r (Int.toNat i) bay0) then (bif SBay.zr (List.getD l (Int.toNat i) bay0) == SBay.zr (List.getD r (Int.toNat i) bay0) &&
 (SBay.zx (List.getD l (Int.toNat i) bay0) == SBay.zx (List.getD r (Int.toNat i) bay0) && true) then (bif ok (linksD (SBay.links (List.getD l (Int.toNat i) bay0))) (linksD
 (SBay.links (List.getD r (Int.toNat i) bay0))) then (bif sm (linksD (SBay.links (List.getD l (Int.toNat i) bay0))) (linksD (SBay.links (List.getD r (Int.toNat i) bay0))) then (bif
 SBay.closed (List.getD l (Int.toNat i) bay0) == SBay.closed (List.getD r (Int.toNat i) bay0) then (bif SBay.ct (List.getD l (Int.toNat i) bay0) == SBay.ct (List.getD r (Int.toNat i)
 bay0) then (bif SBay.vt (List.getD l (Int.toNat i) bay0) == SBay.vt (List.getD r (Int.toNat i) bay0) then (bif SBay.sat (List.getD l (Int.toNat i) bay0) == SBay.sat (List.getD r
 (Int.toNat i) bay0) then (bif !SBay.travel (List.getD l (Int.toNat i) bay0) == SBay.travel (List.getD r (Int.toNat i) bay0) then some (T.leaf (AV.c (C.d (D.v (Value.bool false))),
 [])) else L37 ok sm l r g m (IntKind.wrap IntKind.i64 (i + (1 : Int)))) else some (T.leaf (AV.c (C.d (D.v (Value.bool false))), []))) else some (T.leaf (AV.c (C.d (D.v (Value.bool
 false))), []))) else some (T.leaf (AV.c (C.d (D.v (Value.bool false))), []))) else some (T.leaf (AV.c (C.d (D.v (Value.bool false))), []))) else some (T.leaf (AV.c (C.d (D.v
 (Value.bool false))), []))) else none) else some (T.leaf (AV.c (C.d (D.v (Value.bool false))), []))) else some (T.leaf (AV.c (C.d (D.v (Value.bool false))), []))) else some (T.leaf
 (AV.c (C.d (D.v (Value.bool false))), []))) else some (T.leaf (AV.c (C.d (D.v (Value.bool false))), []))) else some (T.leaf (AV.c (C.d (D.v (Value.bool false))), []))) else none)
 else none) else some (T.leaf (AV.c (C.d (D.v (Value.bool true))), []))) := by kernel_rfl
set_option maxRecDepth 100000 in
theorem ev37 (ok sm : D → D → Bool) (l r : List SBay) (g : Nat) : callC Try.prog (o37 ok sm) ann37 g Try.f37 (bodyOf Try.f37) [.c (.d (baysD l)), .c (.d (baysD r)), .c (.d (.v (.func (.func 38) #[] #[])))] [] =
 (bif (↑(List.length l) : Int) != (↑(List.length r) : Int) then some (T.leaf (AV.c (C.d (D.v (Value.bool false))), [])) else L37 ok sm l r g g ((0 : Int))) := by kernel_rfl
end Go.Proofs.Ythmapnolgdpkbaa.st
namespace Go.Proofs.Ythmapnolgdpkbaa.st
open Go.RowKit Go.Eb

end Go.Proofs.Ythmapnolgdpkbaa.st
namespace Go.Proofs.Ythmapnolgdpkbaa.st
open Go.RowKit Go.Eb

noncomputable def o13 (ok1 ok2 ok3 ok4 sm1 sm2 sm3 sm4 : List AV → Bool) : Orc := Orc.cons 34 (ansG ok1 fun x => vB (sm1 x)) (Orc.cons 35 (ansG ok2 fun x => vB (sm2 x)) (Orc.cons 36 (ansG ok3 fun x => vB (sm3 x)) (Orc.cons 37 (ansG ok4 fun x => vB (sm4 x)) Orc.nil)))
noncomputable def ann13 : Ann := annOf []
theorem b13 : Try.f13.body = some (bodyOf Try.f13) := by kernel_rfl
set_option maxRecDepth 100000 in
theorem ev13 (ok1 ok2 ok3 ok4 sm1 sm2 sm3 sm4 : List AV → Bool) (a b : SSta) (g : Nat) : callC Try.prog (o13 ok1 ok2 ok3 ok4 sm1 sm2 sm3 sm4) ann13 g Try.f13 (bodyOf Try.f13) [aSta a, aSta b] [] =
 (bif ByteArray.toList (SSta.name a) == ByteArray.toList (SSta.name b) then (bif ok1 [AV.c (C.d (listD ((1 : Nat)) busC e0 (SSta.buses a))), AV.c (C.d (listD ((1 : Nat)) busC e0
 (SSta.buses b)))] then (bif sm1 [AV.c (C.d (listD ((1 : Nat)) busC e0 (SSta.buses a))), AV.c (C.d (listD ((1 : Nat)) busC e0 (SSta.buses b)))] then (bif ok2 [AV.c (C.d (listD ((5 :
 Nat)) lineC line0 (SSta.lines a))), AV.c (C.d (listD ((5 : Nat)) lineC line0 (SSta.lines b)))] then (bif sm2 [AV.c (C.d (listD ((5 : Nat)) lineC line0 (SSta.lines a))), AV.c (C.d
 (listD ((5 : Nat)) lineC line0 (SSta.lines b)))] then (bif ok3 [AV.c (C.d (listD ((6 : Nat)) srcC' src0 (SSta.srcs a))), AV.c (C.d (listD ((6 : Nat)) srcC' src0 (SSta.srcs b)))]
 then (bif sm3 [AV.c (C.d (listD ((6 : Nat)) srcC' src0 (SSta.srcs a))), AV.c (C.d (listD ((6 : Nat)) srcC' src0 (SSta.srcs b)))] then (bif ok4 [AV.c (C.d (listD ((12 : Nat)) bayC
 bay0 (SSta.bays a))), AV.c (C.d (listD ((12 : Nat)) bayC bay0 (SSta.bays b))), AV.c (C.d (D.v (Value.func (Fn.func (38 : Nat)) #[] #[])))] then some (T.leaf (AV.c (C.d (D.v
 (Value.bool (sm4 [AV.c (C.d (listD ((12 : Nat)) bayC bay0 (SSta.bays a))), AV.c (C.d (listD ((12 : Nat)) bayC bay0 (SSta.bays b))), AV.c (C.d (D.v (Value.func (Fn.func (38 : Nat))
 #[] #[])))])))), [])) else none) else some (T.leaf (AV.c (C.d (D.v (Value.bool false))), []))) else none) else some (T.leaf (AV.c (C.d (D.v (Value.bool false))), []))) else none)
 else some (T.leaf (AV.c (C.d (D.v (Value.bool false))), []))) else none) else some (T.leaf (AV.c (C.d (D.v (Value.bool false))), []))) := by kernel_rfl
end Go.Proofs.Ythmapnolgdpkbaa.st
namespace Go.Proofs.Ythmapnolgdpkbaa.st
open Go.RowKit Go.Eb

abbrev nilC : C := .d (.v (.slice none 0 0))
noncomputable def oNm (nk : ByteArray → Bool) : Orc := Orc.cons 15 (ansP decS fun s => vB (nk s)) Orc.nil
noncomputable def oNam (nk : ByteArray → Bool) : Orc := Orc.cons 51 (inl Try.prog (oNm nk) na 1 Try.f51) Orc.nil
noncomputable def oWi : Orc := Orc.cons 53 (inl Try.prog Orc.nil na 1 Try.f53) Orc.nil
noncomputable def oIm (nk : ByteArray → Bool) : Orc := Orc.cons 52 (inl Try.prog oWi na 1 Try.f52) (Orc.cons 53 (inl Try.prog Orc.nil na 1 Try.f53) (oNam nk))
abbrev H2 (s0 : ByteArray) (ka : Nat) (ga : Nat → List D) (mpa : List (Value × Value)) : Hp := [(0, .cells [.d (dS s0), .row 1 1 ka, nilC, nilC, nilC, .mp 2] 85), (1, .row ka ga 1 9), (2, .map 0 mpa)]
abbrev H5 (s0 : ByteArray) (ka : Nat) (ga : Nat → List D) (kb : Nat) (gb : Nat → List D) (kc : Nat) (gc : Nat → List D) (kd : Nat) (gd : Nat → List D) (mpa : List (Value × Value)) : Hp := [(0, .cells [.d (dS s0), .row 1 1 ka, .row 2 5 kb, .row 3 6 kc, .row 4 12 kd, .mp 5] 85), (1, .row ka ga 1 9), (2, .row kb gb 5 58), (3, .row kc gc 6 61), (4, .row kd gd 12 54), (5, .map 0 mpa)]
end Go.Proofs.Ythmapnolgdpkbaa.st
namespace Go.Proofs.Ythmapnolgdpkbaa.st
open Go.RowKit Go.Eb

abbrev A5 := (ByteArray × Nat × Nat × Nat × Nat × Unit × Unit) × (Nat × (Nat → List D)) × (Nat × (Nat → List D)) × (Nat × (Nat → List D)) × (Nat × (Nat → List D)) × (List (Value × Value)) × Unit
def dH5 : Dec Hp A5 := .cons (.blk 0 (.cells 85 (.cons .str (.cons (.row 1 1) (.cons (.row 2 5) (.cons (.row 3 6) (.cons (.row 4 12) (.cons (.mp 5) .nil)))))))) (.cons (.blk 1 (.rowB 1 9)) (.cons (.blk 2 (.rowB 5 58)) (.cons (.blk 3 (.rowB 6 61)) (.cons (.blk 4 (.rowB 12 54)) (.cons (.blk 5 (.mapB 0)) .nil)))))
def dBay : Dec (List AV) (Unit × RBay × Unit) := .cons (.c (.ptr 0 0)) (.cons (.agg bayD) .nil)
def d55 : Dec (List AV × Hp) ((Unit × RBay × Unit) × A5) := .pair dBay dH5
noncomputable def o55 : Orc := oWi
noncomputable def ann55 : Ann := annOf [(5, ⟨[3, 0, 27, 28, 29], []⟩)]
noncomputable def L55_5 (x : SBay) (s0 : ByteArray) (ka : Nat) (ga : Nat → List D) (kb : Nat) (gb : Nat → List D) (kc : Nat) (gc : Nat → List D) (kd : Nat) (gd : Nat → List D) (mpa : List (Value × Value)) (g m : Nat) (i29 : Int) := LK Try.prog o55 ann55 (List.length (α := Nat × Blk) [(0, .cells [.d (dS s0), .row 1 1 ka, .row 2 5 kb, .row 3 6 kc, .row 4 12 kd, .mp 5] 85), (1, .row ka ga 1 9), (2, .row kb gb 5 58), (3, .row kc gc 6 61), (4, .row kd gd 12 54), (5, .map 0 mpa)]) g Try.f55 5 m ⟨frm [(0, AV.c (C.ptr 0 0)), (3, AV.c (C.ptr 6 0)), (27, AV.c (C.d (D.sl 2 (List.length (SBay.links x)) fun i => linkC (List.getD (SBay.links x) i link0)))), (28, AV.c (C.d (D.v (Value.int IntKind.i64 (↑(List.length (SBay.links x)) : Int))))), (29, AV.c (C.d (D.v (Value.int IntKind.i64 i29))))] 0 Try.f55.ntmps, [(0, Blk.cells [C.d (D.v (Value.string s0)), C.row 1 1 ka, C.row 2 5 kb, C.row 3 6 kc, C.row 4 12 kd, C.mp 5] 85), (1, Blk.row ka ga 1 9), (2, Blk.row kb gb 5 58), (3, Blk.row kc gc 6 61), (4, Blk.row kd gd 12 54), (5, Blk.map 0 mpa), (6, Blk.cells [C.d (D.v (Value.string (SBay.name x))), C.d (D.v (Value.int IntKind.i64 (SBay.kind x))), C.d (D.v (Value.int IntKind.i64 (SBay.off x))), C.d (D.v (Value.int IntKind.i64 (SBay.fin x))), C.d (D.v (Value.int IntKind.i64 (SBay.zr x))), C.d (D.v (Value.int IntKind.i64 (SBay.zx x))), C.d (D.sl 2 (List.length (SBay.links x)) fun i => linkC (List.getD (SBay.links x) i link0)), C.d (D.v (Value.bool (SBay.closed x))), C.d (D.v (Value.int IntKind.i64 (SBay.ct x))), C.d (D.v (Value.int IntKind.i64 (SBay.vt x))), C.d (D.v (Value.int IntKind.i64 (SBay.sat x))), C.d (D.v (Value.int IntKind.i64 (SBay.travel x)))] 54)], 7⟩
theorem b55 : Try.f55.body = some (bodyOf Try.f55) := by kernel_rfl
set_option maxRecDepth 100000 in
theorem ev55 (x : SBay) (s0 : ByteArray) (ka : Nat) (ga : Nat → List D) (kb : Nat) (gb : Nat → List D) (kc : Nat) (gc : Nat → List D) (kd : Nat) (gd : Nat → List D) (mpa : List (Value × Value)) (g : Nat) : callC Try.prog o55 ann55 g Try.f55 (bodyOf Try.f55) [.c (.ptr 0 0), aBay x] [(0, .cells [.d (dS s0), .row 1 1 ka, .row 2 5 kb, .row 3 6 kc, .row 4 12 kd, .mp 5] 85), (1, .row ka ga 1 9), (2, .row kb gb 5 58), (3, .row kc gc 6 61), (4, .row kd gd 12 54), (5, .map 0 mpa)] =
 (bif decide ((↑(List.length (SBay.links x)) : Int) < (1 : Int)) then some (T.leaf (AV.c (C.d (D.v (Value.int IntKind.i64 (3 : Int)))), [((0 : Nat), Blk.cells [C.d (D.v (Value.string
 s0)), C.row ((1 : Nat)) ((1 : Nat)) ka, C.row ((2 : Nat)) ((5 : Nat)) kb, C.row ((3 : Nat)) ((6 : Nat)) kc, C.row ((4 : Nat)) ((12 : Nat)) kd, C.mp ((5 : Nat))] ((85 : Nat))), ((1 :
 Nat), Blk.row ka ga ((1 : Nat)) ((9 : Nat))), ((2 : Nat), Blk.row kb gb ((5 : Nat)) ((58 : Nat))), ((3 : Nat), Blk.row kc gc ((6 : Nat)) ((61 : Nat))), ((4 : Nat), Blk.row kd gd
 ((12 : Nat)) ((54 : Nat))), ((5 : Nat), Blk.map ((0 : Nat)) mpa)])) else (bif decide ((↑(List.length (SBay.links x)) : Int) > (2 : Int)) then some (T.leaf (AV.c (C.d (D.v (Value.int
 IntKind.i64 (3 : Int)))), [((0 : Nat), Blk.cells [C.d (D.v (Value.string s0)), C.row ((1 : Nat)) ((1 : Nat)) ka, C.row ((2 : Nat)) ((5 : Nat)) kb, C.row ((3 : Nat)) ((6 : Nat)) kc,
 C.row ((4 : Nat)) ((12 : Nat)) kd, C.mp ((5 : Nat))] ((85 : Nat))), ((1 : Nat), Blk.row ka ga ((1 : Nat)) ((9 : Nat))), ((2 : Nat), Blk.row kb gb ((5 : Nat)) ((58 : Nat))), ((3 :
 Nat), Blk.row kc gc ((6 : Nat)) ((61 : Nat))), ((4 : Nat), Blk.row kd gd ((12 : Nat)) ((54 : Nat))), ((5 : Nat), Blk.map ((0 : Nat)) mpa)])) else (bif SBay.kind x == (3 : Int) then
 (bif (↑(List.length (SBay.links x)) : Int) != (2 : Int) then some (T.leaf (AV.c (C.d (D.v (Value.int IntKind.i64 (3 : Int)))), [((0 : Nat), Blk.cells [C.d (D.v (Value.string s0)),
 C.row ((1 : Nat)) ((1 : Nat)) ka, C.row ((2 : Nat)) ((5 : Nat)) kb, C.row ((3 : Nat)) ((6 : Nat)) kc, C.row ((4 : Nat)) ((12 : Nat)) kd, C.mp ((5 : Nat))] ((85 : Nat))), ((1 : Nat),
 Blk.row ka ga ((1 : Nat)) ((9 : Nat))), ((2 : Nat), Blk.row kb gb ((5 : Nat)) ((58 : Nat))), ((3 : Nat), Blk.row kc gc ((6 : Nat)) ((61 : Nat))), ((4 : Nat), Blk.row kd gd ((12 :
 Nat)) ((54 : Nat))), ((5 : Nat), Blk.map ((0 : Nat)) mpa)])) else L55_5 x s0 ka ga kb gb kc gc kd gd mpa g g ((0 : Int))) else L55_5 x s0 ka ga kb gb kc gc kd gd mpa g g ((0 :
 Int))))) := by kernel_rfl
set_option maxRecDepth 100000 in
theorem st55_5 (x : SBay) (s0 : ByteArray) (ka : Nat) (ga : Nat → List D) (kb : Nat) (gb : Nat → List D) (kc : Nat) (gc : Nat → List D) (kd : Nat) (gd : Nat → List D) (mpa : List (Value × Value)) (g m : Nat) (i29 : Int) : L55_5 x s0 ka ga kb gb kc gc kd gd mpa g (m + 1) i29 =
 (bif decide (i29 < (↑(List.length (SBay.links x)) : Int)) then (bif decide ((0 : Int) ≤ i29) && decide (i29 < (↑(List.length (SBay.links x)) : Int)) then (bif decide (SLink.bus
 (List.getD (SBay.links x) (Int.toNat i29) link0) ≥ (0 : Int)) then (bif !decide (SLink.bus (List.getD (SBay.links x) (Int.toNat i29) link0) ≤ IntKind.wrap IntKind.i64 ((↑ka : Int) -
 (1 : Int))) then some (T.leaf (AV.c (C.d (D.v (Value.int IntKind.i64 (9 : Int)))), [((0 : Nat), Blk.cells [C.d (D.v (Value.string s0)), C.row ((1 : Nat)) ((1 : Nat)) ka, C.row ((2 :
 Nat)) ((5 : Nat)) kb, C.row ((3 : Nat)) ((6 : Nat)) kc, C.row ((4 : Nat)) ((12 : Nat)) kd, C.mp ((5 : Nat))] ((85 : Nat))), ((1 : Nat), Blk.row ka ga ((1 : Nat)) ((9 : Nat))), ((2 :
 Nat), Blk.row kb gb ((5 : Nat)) ((58 : Nat))), ((3 : Nat), Blk.row kc gc ((6 : Nat)) ((61 : Nat))), ((4 : Nat), Blk.row kd gd ((12 : Nat)) ((54 : Nat))), ((5 : Nat), Blk.map ((0 :
 Nat)) mpa)])) else (bif SLink.pos (List.getD (SBay.links x) (Int.toNat i29) link0) != (1 : Int) then (bif SLink.pos (List.getD (SBay.links x) (Int.toNat i29) link0) != (0 : Int)
 then some (T.leaf (AV.c (C.d (D.v (Value.int IntKind.i64 (16 : Int)))), [((0 : Nat), Blk.cells [C.d (D.v (Value.string s0)), C.row ((1 : Nat)) ((1 : Nat)) ka, C.row ((2 : Nat)) ((5
 : Nat)) kb, C.row ((3 : Nat)) ((6 : Nat)) kc, C.row ((4 : Nat)) ((12 : Nat)) kd, C.mp ((5 : Nat))] ((85 : Nat))), ((1 : Nat), Blk.row ka ga ((1 : Nat)) ((9 : Nat))), ((2 : Nat),
 Blk.row kb gb ((5 : Nat)) ((58 : Nat))), ((3 : Nat), Blk.row kc gc ((6 : Nat)) ((61 : Nat))), ((4 : Nat), Blk.row kd gd ((12 : Nat)) ((54 : Nat))), ((5 : Nat), Blk.map ((0 : Nat))
 mpa)])) else (bif SBay.kind x == (3 : Int) then some (T.leaf (AV.c (C.d (D.v (Value.int IntKind.i64 (16 : Int)))), [((0 : Nat), Blk.cells [C.d (D.v (Value.string s0)), C.row ((1 :
 Nat)) ((1 : Nat)) ka, C.row ((2 : Nat)) ((5 : Nat)) kb, C.row ((3 : Nat)) ((6 : Nat)) kc, C.row ((4 : Nat)) ((12 : Nat)) kd, C.mp ((5 : Nat))] ((85 : Nat))), ((1 : Nat), Blk.row ka
 ga ((1 : Nat)) ((9 : Nat))), ((2 : Nat), Blk.row kb gb ((5 : Nat)) ((58 : Nat))), ((3 : Nat), Blk.row kc gc ((6 : Nat)) ((61 : Nat))), ((4 : Nat), Blk.row kd gd ((12 : Nat)) ((54 :
 Nat))), ((5 : Nat), Blk.map ((0 : Nat)) mpa)])) else (bif decide (i29 > (0 : Int)) then (bif decide ((0 : Int) ≤ IntKind.wrap IntKind.i64 (i29 - (1 : Int))) && decide (IntKind.wrap
 IntKind.i64 (i29 - (1 : Int)) < (↑(List.length (SBay.links x)) : Int)) then (bif SLink.bus (List.getD (SBay.links x) (Int.toNat (IntKind.wrap IntKind.i64 (i29 - (1 : Int)))) link0)
 == SLink.bus (List.getD (SBay.links x) (Int.toNat i29) link0) then some (T.leaf (AV.c (C.d (D.v (Value.int IntKind.i64 (12 : Int)))), [((0 : Nat), Blk.cells [C.d (D.v (Value.string
 s0)), C.row ((1 : Nat)) ((1 : Nat)) ka, C.row ((2 : Nat)) ((5 : Nat)) kb, C.row ((3 : Nat)) ((6 : Nat)) kc, C.row ((4 : Nat)) ((12 : Nat)) kd, C.mp ((5 : Nat))] ((85 : Nat))), ((1 :
 Nat), Blk.row ka ga ((1 : Nat)) ((9 : Nat))), ((2 : Nat), Blk.row kb gb ((5 : Nat)) ((58 : Nat))), ((3 : Nat), Blk.row kc gc ((6 : Nat)) ((61 : Nat))), ((4 : Nat), Blk.row kd gd
 ((12 : Nat)) ((54 : Nat))), ((5 : Nat), Blk.map ((0 : Nat)) mpa)])) else L55_5 x s0 ka ga kb gb kc gc kd gd mpa g m (IntKind.wrap IntKind.i64 (i29 + (1 : Int)))) else none) else
 L55_5 x s0 ka ga kb gb kc gc kd gd mpa g m (IntKind.wrap IntKind.i64 (i29 + (1 : Int)))))) else (bif decide (i29 > (0 : Int)) then (bif decide ((0 : Int) ≤ IntKind.wrap IntKind.i64
 (i29 - (1 : Int))) && decide (IntKind.wrap IntKind.i64 (i29 - (1 : Int)) < (↑(List.length (SBay.links x)) : Int)) then (bif SLink.bus (List.getD (SBay.links x) (Int.toNat
 (IntKind.wrap IntKind.i64 (i29 - (1 : Int)))) link0) == SLink.bus (List.getD (SBay.links x) (Int.toNat i29) link0) then some (T.leaf (AV.c (C.d (D.v (Value.int IntKind.i64 (12 :
 Int)))), [((0 : Nat), Blk.cells [C.d (D.v (Value.string s0)), C.row ((1 : Nat)) ((1 : Nat)) ka, C.row ((2 : Nat)) ((5 : Nat)) kb, C.row ((3 : Nat)) ((6 : Nat)) kc, C.row ((4 : Nat))
 ((12 : Nat)) kd, C.mp ((5 : Nat))] ((85 : Nat))), ((1 : Nat), Blk.row ka ga ((1 : Nat)) ((9 : Nat))), ((2 : Nat), Blk.row kb gb ((5 : Nat)) ((58 : Nat))), ((3 : Nat), Blk.row kc gc
 ((6 : Nat)) ((61 : Nat))), ((4 : Nat), Blk.row kd gd ((12 : Nat)) ((54 : Nat))), ((5 : Nat), Blk.map ((0 : Nat)) mpa)])) else L55_5 x s0 ka ga kb gb kc gc kd gd mpa g m
 (IntKind.wrap IntKind.i64 (i29 + (1 : Int)))) else none) else L55_5 x s0 ka ga kb gb kc gc kd gd mpa g m (IntKind.wrap IntKind.i64 (i29 + (1 : Int)))))) else some (T.leaf (AV.c (C.d
 (D.v (Value.int IntKind.i64 (9 : Int)))), [((0 : Nat), Blk.cells [C.d (D.v (Value.string s0)), C.row ((1 : Nat)) ((1 : Nat)) ka, C.row ((2 : Nat)) ((5 : Nat)) kb, C.row ((3 : Nat))
 ((6 : Nat)) kc, C.row ((4 : Nat)) ((12 : Nat)) kd, C.mp ((5 : Nat))] ((85 : Nat))), ((1 : Nat), Blk.row ka ga ((1 : Nat)) ((9 : Nat))), ((2 : Nat), Blk.row kb gb ((5 : Nat)) ((58 :
 Nat))), ((3 : Nat), Blk.row kc gc ((6 : Nat)) ((61 : Nat))), ((4 : Nat), Blk.row kd gd ((12 : Nat)) ((54 : Nat))), ((5 : Nat), Blk.map ((0 : Nat)) mpa)]))) else none) else some
 (T.leaf (AV.c (C.d (D.v (Value.int IntKind.i64 (0 : Int)))), [((0 : Nat), Blk.cells [C.d (D.v (Value.string s0)), C.row ((1 : Nat)) ((1 : Nat)) ka, C.row ((2 : Nat)) ((5 : Nat)) kb,
 C.row ((3 : Nat)) ((6 : Nat)) kc, C.row ((4 : Nat)) ((12 : Nat)) kd, C.mp ((5 : Nat))] ((85 : Nat))), ((1 : Nat), Blk.row ka ga ((1 : Nat)) ((9 : Nat))), ((2 : Nat), Blk.row kb gb
 ((5 : Nat)) ((58 : Nat))), ((3 : Nat), Blk.row kc gc ((6 : Nat)) ((61 : Nat))), ((4 : Nat), Blk.row kd gd ((12 : Nat)) ((54 : Nat))), ((5 : Nat), Blk.map ((0 : Nat)) mpa)]))) := by kernel_rfl
noncomputable def o54 : Orc := Orc.cons 52 (inl Try.prog oWi na 1 Try.f52) oWi
noncomputable def ann54 : Ann := annOf []
theorem b54 : Try.f54.body = some (bodyOf Try.f54) := by kernel_rfl
set_option maxRecDepth 100000 in
theorem ev54 (x : SBay) (g : Nat) : callC Try.prog o54 ann54 g Try.f54 (bodyOf Try.f54) [aBay x] [] =
 (bif SBay.kind x == (3 : Int) then (bif decide (SBay.zr x ≥ (0 : Int)) then (bif decide (SBay.zr x ≤ (1000 : Int)) then (bif decide (SBay.zx x ≥ (1 : Int)) then (bif !decide
 (SBay.zx x ≤ (1000 : Int)) then some (T.leaf (AV.c (C.d (D.v (Value.bool false))), [])) else (bif SBay.vt x != (0 : Int) then some (T.leaf (AV.c (C.d (D.v (Value.bool false))), []))
 else (bif SBay.kind x == (1 : Int) then (bif decide (SBay.fin x ≥ (0 : Int)) then (bif decide (SBay.fin x ≤ (1 : Int)) then (bif decide (SBay.ct x ≥ (1 : Int)) then (bif decide
 (SBay.ct x ≤ (100 : Int)) then (bif decide (SBay.sat x ≥ (0 : Int)) then (bif decide (SBay.sat x ≤ (16383 : Int)) then (bif decide (SBay.travel x ≥ (1 : Int)) then some (T.leaf
 (AV.c (C.d (D.v (Value.bool (decide (SBay.travel x ≤ (6 : Int)))))), [])) else some (T.leaf (AV.c (C.d (D.v (Value.bool false))), []))) else some (T.leaf (AV.c (C.d (D.v (Value.bool
 false))), []))) else some (T.leaf (AV.c (C.d (D.v (Value.bool false))), []))) else some (T.leaf (AV.c (C.d (D.v (Value.bool false))), []))) else some (T.leaf (AV.c (C.d (D.v
 (Value.bool false))), []))) else some (T.leaf (AV.c (C.d (D.v (Value.bool false))), []))) else some (T.leaf (AV.c (C.d (D.v (Value.bool false))), []))) else (bif decide (SBay.fin x
 ≥ (0 : Int)) then (bif decide (SBay.fin x ≤ (0 : Int)) then (bif decide (SBay.ct x ≥ (1 : Int)) then (bif decide (SBay.ct x ≤ (100 : Int)) then (bif decide (SBay.sat x ≥ (0 : Int))
 then (bif decide (SBay.sat x ≤ (16383 : Int)) then (bif decide (SBay.travel x ≥ (1 : Int)) then some (T.leaf (AV.c (C.d (D.v (Value.bool (decide (SBay.travel x ≤ (6 : Int)))))),
 [])) else some (T.leaf (AV.c (C.d (D.v (Value.bool false))), []))) else some (T.leaf (AV.c (C.d (D.v (Value.bool false))), []))) else some (T.leaf (AV.c (C.d (D.v (Value.bool
 false))), []))) else some (T.leaf (AV.c (C.d (D.v (Value.bool false))), []))) else some (T.leaf (AV.c (C.d (D.v (Value.bool false))), []))) else some (T.leaf (AV.c (C.d (D.v
 (Value.bool false))), []))) else some (T.leaf (AV.c (C.d (D.v (Value.bool false))), [])))))) else some (T.leaf (AV.c (C.d (D.v (Value.bool false))), []))) else some (T.leaf (AV.c
 (C.d (D.v (Value.bool false))), []))) else some (T.leaf (AV.c (C.d (D.v (Value.bool false))), []))) else (bif !(SBay.zr x == (0 : Int) && (SBay.zx x == (0 : Int) && true)) then some
 (T.leaf (AV.c (C.d (D.v (Value.bool false))), [])) else (bif decide (SBay.vt x ≥ (1 : Int)) then (bif !decide (SBay.vt x ≤ (10000 : Int)) then some (T.leaf (AV.c (C.d (D.v
 (Value.bool false))), [])) else (bif SBay.kind x == (1 : Int) then (bif decide (SBay.fin x ≥ (0 : Int)) then (bif decide (SBay.fin x ≤ (1 : Int)) then (bif decide (SBay.ct x ≥ (1 :
 Int)) then (bif decide (SBay.ct x ≤ (100 : Int)) then (bif decide (SBay.sat x ≥ (0 : Int)) then (bif decide (SBay.sat x ≤ (16383 : Int)) then (bif decide (SBay.travel x ≥ (1 : Int))
 then some (T.leaf (AV.c (C.d (D.v (Value.bool (decide (SBay.travel x ≤ (6 : Int)))))), [])) else some (T.leaf (AV.c (C.d (D.v (Value.bool false))), []))) else some (T.leaf (AV.c
 (C.d (D.v (Value.bool false))), []))) else some (T.leaf (AV.c (C.d (D.v (Value.bool false))), []))) else some (T.leaf (AV.c (C.d (D.v (Value.bool false))), []))) else some (T.leaf
 (AV.c (C.d (D.v (Value.bool false))), []))) else some (T.leaf (AV.c (C.d (D.v (Value.bool false))), []))) else some (T.leaf (AV.c (C.d (D.v (Value.bool false))), []))) else (bif
 decide (SBay.fin x ≥ (0 : Int)) then (bif decide (SBay.fin x ≤ (0 : Int)) then (bif decide (SBay.ct x ≥ (1 : Int)) then (bif decide (SBay.ct x ≤ (100 : Int)) then (bif decide
 (SBay.sat x ≥ (0 : Int)) then (bif decide (SBay.sat x ≤ (16383 : Int)) then (bif decide (SBay.travel x ≥ (1 : Int)) then some (T.leaf (AV.c (C.d (D.v (Value.bool (decide
 (SBay.travel x ≤ (6 : Int)))))), [])) else some (T.leaf (AV.c (C.d (D.v (Value.bool false))), []))) else some (T.leaf (AV.c (C.d (D.v (Value.bool false))), []))) else some (T.leaf
 (AV.c (C.d (D.v (Value.bool false))), []))) else some (T.leaf (AV.c (C.d (D.v (Value.bool false))), []))) else some (T.leaf (AV.c (C.d (D.v (Value.bool false))), []))) else some
 (T.leaf (AV.c (C.d (D.v (Value.bool false))), []))) else some (T.leaf (AV.c (C.d (D.v (Value.bool false))), []))))) else some (T.leaf (AV.c (C.d (D.v (Value.bool false))), []))))) := by kernel_rfl
def d54 : Dec (List AV × Hp) ((RBay × Unit) × Unit) := .pair (.cons (.agg bayD) .nil) .nil
noncomputable def oRa (nk : ByteArray → Bool) (okr rg : RBay → Bool) : Orc := Orc.cons 54 (ansD d54 (fun a => okr a.1.1) (fun a => vB (rg a.1.1)) fun _ => []) (oIm nk)
noncomputable def o33 (nk : ByteArray → Bool) (okr rg : RBay → Bool) (ok : (Unit × RBay × Unit) × A5 → Bool) (lk : (Unit × RBay × Unit) × A5 → Int) : Orc := Orc.cons 55 (ansD d55 ok (fun a => vI (lk a)) (fun a => (d55.enc a).2)) (oRa nk okr rg)
noncomputable def ann33 : Ann := annOf [(18, ⟨[3, 50, 0, 51, 52], []⟩)]
noncomputable def L33_18 (nk : ByteArray → Bool) (okr rg : RBay → Bool) (ok : (Unit × RBay × Unit) × A5 → Bool) (lk : (Unit × RBay × Unit) × A5 → Int) (x : SBay) (s0 : ByteArray) (ka : Nat) (ga : Nat → List D) (kb : Nat) (gb : Nat → List D) (kc : Nat) (gc : Nat → List D) (bs : List SBay) (mpa : List (Value × Value)) (g m : Nat) (i52 : Int) := LK Try.prog (o33 nk okr rg ok lk) ann33 (List.length (α := Nat × Blk) [(0, .cells [.d (dS s0), .row 1 1 ka, .row 2 5 kb, .row 3 6 kc, .row 4 12 bs.length, .mp 5] 85), (1, .row ka ga 1 9), (2, .row kb gb 5 58), (3, .row kc gc 6 61), (4, .row bs.length (fun i => bayC (bs.getD i bay0)) 12 54), (5, .map 0 mpa)]) g Try.f33 18 m ⟨frm [(0, AV.c (C.ptr 0 0)), (3, AV.c (C.ptr 6 0)), (50, AV.c (C.row 4 12 (List.length bs))), (51, AV.c (C.d (D.v (Value.int IntKind.i64 (↑(List.length bs) : Int))))), (52, AV.c (C.d (D.v (Value.int IntKind.i64 i52))))] 0 Try.f33.ntmps, [(0, Blk.cells [C.d (D.v (Value.string s0)), C.row 1 1 ka, C.row 2 5 kb, C.row 3 6 kc, C.row 4 12 (List.length bs), C.mp 5] 85), (1, Blk.row ka ga 1 9), (2, Blk.row kb gb 5 58), (3, Blk.row kc gc 6 61), (4, Blk.row (List.length bs) (fun i => bayC (List.getD bs i bay0)) 12 54), (5, Blk.map 0 mpa), (6, Blk.cells [C.d (D.v (Value.string (SBay.name x))), C.d (D.v (Value.int IntKind.i64 (SBay.kind x))), C.d (D.v (Value.int IntKind.i64 (SBay.off x))), C.d (D.v (Value.int IntKind.i64 (SBay.fin x))), C.d (D.v (Value.int IntKind.i64 (SBay.zr x))), C.d (D.v (Value.int IntKind.i64 (SBay.zx x))), C.d (D.sl 2 (List.length (SBay.links x)) fun i => linkC (List.getD (SBay.links x) i link0)), C.d (D.v (Value.bool (SBay.closed x))), C.d (D.v (Value.int IntKind.i64 (SBay.ct x))), C.d (D.v (Value.int IntKind.i64 (SBay.vt x))), C.d (D.v (Value.int IntKind.i64 (SBay.sat x))), C.d (D.v (Value.int IntKind.i64 (SBay.travel x)))] 54)], 7⟩
theorem b33 : Try.f33.body = some (bodyOf Try.f33) := by kernel_rfl
set_option maxRecDepth 100000 in
theorem ev33 (nk : ByteArray → Bool) (okr rg : RBay → Bool) (ok : (Unit × RBay × Unit) × A5 → Bool) (lk : (Unit × RBay × Unit) × A5 → Int) (x : SBay) (s0 : ByteArray) (ka : Nat) (ga : Nat → List D) (kb : Nat) (gb : Nat → List D) (kc : Nat) (gc : Nat → List D) (bs : List SBay) (mpa : List (Value × Value)) (g : Nat) : callC Try.prog (o33 nk okr rg ok lk) ann33 g Try.f33 (bodyOf Try.f33) [.c (.ptr 0 0), aBay x] [(0, .cells [.d (dS s0), .row 1 1 ka, .row 2 5 kb, .row 3 6 kc, .row 4 12 bs.length, .mp 5] 85), (1, .row ka ga 1 9), (2, .row kb gb 5 58), (3, .row kc gc 6 61), (4, .row bs.length (fun i => bayC (bs.getD i bay0)) 12 54), (5, .map 0 mpa)] =
 (bif !nk (SBay.name x) then some (T.leaf (AV.c (C.d (D.v (Value.int IntKind.i64 (7 : Int)))), [((0 : Nat), Blk.cells [C.d (D.v (Value.string s0)), C.row ((1 : Nat)) ((1 : Nat)) ka,
 C.row ((2 : Nat)) ((5 : Nat)) kb, C.row ((3 : Nat)) ((6 : Nat)) kc, C.row ((4 : Nat)) ((12 : Nat)) (List.length bs), C.mp ((5 : Nat))] ((85 : Nat))), ((1 : Nat), Blk.row ka ga ((1 :
 Nat)) ((9 : Nat))), ((2 : Nat), Blk.row kb gb ((5 : Nat)) ((58 : Nat))), ((3 : Nat), Blk.row kc gc ((6 : Nat)) ((61 : Nat))), ((4 : Nat), Blk.row (List.length bs) (fun i => bayC
 (List.getD bs i bay0)) ((12 : Nat)) ((54 : Nat))), ((5 : Nat), Blk.map ((0 : Nat)) mpa)])) else (bif boolOf (assoc mpa (Value.string (SBay.name x))) then some (T.leaf (AV.c (C.d
 (D.v (Value.int IntKind.i64 (8 : Int)))), [((0 : Nat), Blk.cells [C.d (D.v (Value.string s0)), C.row ((1 : Nat)) ((1 : Nat)) ka, C.row ((2 : Nat)) ((5 : Nat)) kb, C.row ((3 : Nat))
 ((6 : Nat)) kc, C.row ((4 : Nat)) ((12 : Nat)) (List.length bs), C.mp ((5 : Nat))] ((85 : Nat))), ((1 : Nat), Blk.row ka ga ((1 : Nat)) ((9 : Nat))), ((2 : Nat), Blk.row kb gb ((5 :
 Nat)) ((58 : Nat))), ((3 : Nat), Blk.row kc gc ((6 : Nat)) ((61 : Nat))), ((4 : Nat), Blk.row (List.length bs) (fun i => bayC (List.getD bs i bay0)) ((12 : Nat)) ((54 : Nat))), ((5
 : Nat), Blk.map ((0 : Nat)) mpa)])) else (bif SBay.kind x == (1 : Int) then (bif decide (SBay.off x ≥ (0 : Int)) then (bif !decide (SBay.off x ≤ IntKind.wrap IntKind.i64 ((↑kb :
 Int) - (1 : Int))) then some (T.leaf (AV.c (C.d (D.v (Value.int IntKind.i64 (9 : Int)))), [((0 : Nat), Blk.cells [C.d (D.v (Value.string s0)), C.row ((1 : Nat)) ((1 : Nat)) ka,
 C.row ((2 : Nat)) ((5 : Nat)) kb, C.row ((3 : Nat)) ((6 : Nat)) kc, C.row ((4 : Nat)) ((12 : Nat)) (List.length bs), C.mp ((5 : Nat))] ((85 : Nat))), ((1 : Nat), Blk.row ka ga ((1 :
 Nat)) ((9 : Nat))), ((2 : Nat), Blk.row kb gb ((5 : Nat)) ((58 : Nat))), ((3 : Nat), Blk.row kc gc ((6 : Nat)) ((61 : Nat))), ((4 : Nat), Blk.row (List.length bs) (fun i => bayC
 (List.getD bs i bay0)) ((12 : Nat)) ((54 : Nat))), ((5 : Nat), Blk.map ((0 : Nat)) mpa)])) else (bif okr (SBay.name x, SBay.kind x, SBay.off x, SBay.fin x, SBay.zr x, SBay.zx x,
 linksD (SBay.links x), SBay.closed x, SBay.ct x, SBay.vt x, SBay.sat x, SBay.travel x, ()) then (bif !rg (SBay.name x, SBay.kind x, SBay.off x, SBay.fin x, SBay.zr x, SBay.zx x,
 linksD (SBay.links x), SBay.closed x, SBay.ct x, SBay.vt x, SBay.sat x, SBay.travel x, ()) then some (T.leaf (AV.c (C.d (D.v (Value.int IntKind.i64 (2 : Int)))), [((0 : Nat),
 Blk.cells [C.d (D.v (Value.string s0)), C.row ((1 : Nat)) ((1 : Nat)) ka, C.row ((2 : Nat)) ((5 : Nat)) kb, C.row ((3 : Nat)) ((6 : Nat)) kc, C.row ((4 : Nat)) ((12 : Nat))
 (List.length bs), C.mp ((5 : Nat))] ((85 : Nat))), ((1 : Nat), Blk.row ka ga ((1 : Nat)) ((9 : Nat))), ((2 : Nat), Blk.row kb gb ((5 : Nat)) ((58 : Nat))), ((3 : Nat), Blk.row kc gc
 ((6 : Nat)) ((61 : Nat))), ((4 : Nat), Blk.row (List.length bs) (fun i => bayC (List.getD bs i bay0)) ((12 : Nat)) ((54 : Nat))), ((5 : Nat), Blk.map ((0 : Nat)) mpa)])) else L33_18
 nk okr rg ok lk x s0 ka ga kb gb kc gc bs mpa g g ((0 : Int))) else none)) else some (T.leaf (AV.c (C.d (D.v (Value.int IntKind.i64 (9 : Int)))), [((0 : Nat), Blk.cells [C.d (D.v
 (Value.string s0)), C.row ((1 : Nat)) ((1 : Nat)) ka, C.row ((2 : Nat)) ((5 : Nat)) kb, C.row ((3 : Nat)) ((6 : Nat)) kc, C.row ((4 : Nat)) ((12 : Nat)) (List.length bs), C.mp ((5 :
 Nat))] ((85 : Nat))), ((1 : Nat), Blk.row ka ga ((1 : Nat)) ((9 : Nat))), ((2 : Nat), Blk.row kb gb ((5 : Nat)) ((58 : Nat))), ((3 : Nat), Blk.row kc gc ((6 : Nat)) ((61 : Nat))),
 ((4 : Nat), Blk.row (List.length bs) (fun i => bayC (List.getD bs i bay0)) ((12 : Nat)) ((54 : Nat))), ((5 : Nat), Blk.map ((0 : Nat)) mpa)]))) else (bif SBay.kind x == (2 : Int)
 then (bif decide (SBay.off x ≥ (0 : Int)) then (bif !decide (SBay.off x ≤ IntKind.wrap IntKind.i64 ((↑kc : Int) - (1 : Int))) then some (T.leaf (AV.c (C.d (D.v (Value.int
 IntKind.i64 (9 : Int)))), [((0 : Nat), Blk.cells [C.d (D.v (Value.string s0)), C.row ((1 : Nat)) ((1 : Nat)) ka, C.row ((2 : Nat)) ((5 : Nat)) kb, C.row ((3 : Nat)) ((6 : Nat)) kc,
 C.row ((4 : Nat)) ((12 : Nat)) (List.length bs), C.mp ((5 : Nat))] ((85 : Nat))), ((1 : Nat), Blk.row ka ga ((1 : Nat)) ((9 : Nat))), ((2 : Nat), Blk.row kb gb ((5 : Nat)) ((58 :
 Nat))), ((3 : Nat), Blk.row kc gc ((6 : Nat)) ((61 : Nat))), ((4 : Nat), Blk.row (List.length bs) (fun i => bayC (List.getD bs i bay0)) ((12 : Nat)) ((54 : Nat))), ((5 : Nat),
 Blk.map ((0 : Nat)) mpa)])) else (bif okr (SBay.name x, SBay.kind x, SBay.off x, SBay.fin x, SBay.zr x, SBay.zx x, linksD (SBay.links x), SBay.closed x, SBay.ct x, SBay.vt x,
 SBay.sat x, SBay.travel x, ()) then (bif !rg (SBay.name x, SBay.kind x, SBay.off x, SBay.fin x, SBay.zr x, SBay.zx x, linksD (SBay.links x), SBay.closed x, SBay.ct x, SBay.vt x,
 SBay.sat x, SBay.travel x, ()) then some (T.leaf (AV.c (C.d (D.v (Value.int IntKind.i64 (2 : Int)))), [((0 : Nat), Blk.cells [C.d (D.v (Value.string s0)), C.row ((1 : Nat)) ((1 :
 Nat)) ka, C.row ((2 : Nat)) ((5 : Nat)) kb, C.row ((3 : Nat)) ((6 : Nat)) kc, C.row ((4 : Nat)) ((12 : Nat)) (List.length bs), C.mp ((5 : Nat))] ((85 : Nat))), ((1 : Nat), Blk.row
 ka ga ((1 : Nat)) ((9 : Nat))), ((2 : Nat), Blk.row kb gb ((5 : Nat)) ((58 : Nat))), ((3 : Nat), Blk.row kc gc ((6 : Nat)) ((61 : Nat))), ((4 : Nat), Blk.row (List.length bs) (fun i
 => bayC (List.getD bs i bay0)) ((12 : Nat)) ((54 : Nat))), ((5 : Nat), Blk.map ((0 : Nat)) mpa)])) else L33_18 nk okr rg ok lk x s0 ka ga kb gb kc gc bs mpa g g ((0 : Int))) else
 none)) else some (T.leaf (AV.c (C.d (D.v (Value.int IntKind.i64 (9 : Int)))), [((0 : Nat), Blk.cells [C.d (D.v (Value.string s0)), C.row ((1 : Nat)) ((1 : Nat)) ka, C.row ((2 :
 Nat)) ((5 : Nat)) kb, C.row ((3 : Nat)) ((6 : Nat)) kc, C.row ((4 : Nat)) ((12 : Nat)) (List.length bs), C.mp ((5 : Nat))] ((85 : Nat))), ((1 : Nat), Blk.row ka ga ((1 : Nat)) ((9 :
 Nat))), ((2 : Nat), Blk.row kb gb ((5 : Nat)) ((58 : Nat))), ((3 : Nat), Blk.row kc gc ((6 : Nat)) ((61 : Nat))), ((4 : Nat), Blk.row (List.length bs) (fun i => bayC (List.getD bs i
 bay0)) ((12 : Nat)) ((54 : Nat))), ((5 : Nat), Blk.map ((0 : Nat)) mpa)]))) else (bif SBay.kind x == (3 : Int) then (bif decide (SBay.off x ≥ (0 : Int)) then (bif !decide (SBay.off
 x ≤ IntKind.wrap IntKind.i64 ((1 : Int) - (1 : Int))) then some (T.leaf (AV.c (C.d (D.v (Value.int IntKind.i64 (9 : Int)))), [((0 : Nat), Blk.cells [C.d (D.v (Value.string s0)),
 C.row ((1 : Nat)) ((1 : Nat)) ka, C.row ((2 : Nat)) ((5 : Nat)) kb, C.row ((3 : Nat)) ((6 : Nat)) kc, C.row ((4 : Nat)) ((12 : Nat)) (List.length bs), C.mp ((5 : Nat))] ((85 :
 Nat))), ((1 : Nat), Blk.row ka ga ((1 : Nat)) ((9 : Nat))), ((2 : Nat), Blk.row kb gb ((5 : Nat)) ((58 : Nat))), ((3 : Nat), Blk.row kc gc ((6 : Nat)) ((61 : Nat))), ((4 : Nat),
 Blk.row (List.length bs) (fun i => bayC (List.getD bs i bay0)) ((12 : Nat)) ((54 : Nat))), ((5 : Nat), Blk.map ((0 : Nat)) mpa)])) else (bif okr (SBay.name x, SBay.kind x, SBay.off
 x, SBay.fin x, SBay.zr x, SBay.zx x, linksD (SBay.links x), SBay.closed x, SBay.ct x, SBay.vt x, SBay.sat x, SBay.travel x, ()) then (bif !rg (SBay.name x, SBay.kind x, SBay.off x,
 SBay.fin x, SBay.zr x, SBay.zx x, linksD (SBay.links x), SBay.closed x, SBay.ct x, SBay.vt x, SBay.sat x, SBay.travel x, ()) then some (T.leaf (AV.c (C.d (D.v (Value.int IntKind.i64
 (2 : Int)))), [((0 : Nat), Blk.cells [C.d (D.v (Value.string s0)), C.row ((1 : Nat)) ((1 : Nat)) ka, C.row ((2 : Nat)) ((5 : Nat)) kb, C.row ((3 : Nat)) ((6 : Nat)) kc, C.row ((4 :
 Nat)) ((12 : Nat)) (List.length bs), C.mp ((5 : Nat))] ((85 : Nat))), ((1 : Nat), Blk.row ka ga ((1 : Nat)) ((9 : Nat))), ((2 : Nat), Blk.row kb gb ((5 : Nat)) ((58 : Nat))), ((3 :
 Nat), Blk.row kc gc ((6 : Nat)) ((61 : Nat))), ((4 : Nat), Blk.row (List.length bs) (fun i => bayC (List.getD bs i bay0)) ((12 : Nat)) ((54 : Nat))), ((5 : Nat), Blk.map ((0 : Nat))
 mpa)])) else L33_18 nk okr rg ok lk x s0 ka ga kb gb kc gc bs mpa g g ((0 : Int))) else none)) else some (T.leaf (AV.c (C.d (D.v (Value.int IntKind.i64 (9 : Int)))), [((0 : Nat),
 Blk.cells [C.d (D.v (Value.string s0)), C.row ((1 : Nat)) ((1 : Nat)) ka, C.row ((2 : Nat)) ((5 : Nat)) kb, C.row ((3 : Nat)) ((6 : Nat)) kc, C.row ((4 : Nat)) ((12 : Nat))
 (List.length bs), C.mp ((5 : Nat))] ((85 : Nat))), ((1 : Nat), Blk.row ka ga ((1 : Nat)) ((9 : Nat))), ((2 : Nat), Blk.row kb gb ((5 : Nat)) ((58 : Nat))), ((3 : Nat), Blk.row kc gc
 ((6 : Nat)) ((61 : Nat))), ((4 : Nat), Blk.row (List.length bs) (fun i => bayC (List.getD bs i bay0)) ((12 : Nat)) ((54 : Nat))), ((5 : Nat), Blk.map ((0 : Nat)) mpa)]))) else some
 (T.leaf (AV.c (C.d (D.v (Value.int IntKind.i64 (10 : Int)))), [((0 : Nat), Blk.cells [C.d (D.v (Value.string s0)), C.row ((1 : Nat)) ((1 : Nat)) ka, C.row ((2 : Nat)) ((5 : Nat))
 kb, C.row ((3 : Nat)) ((6 : Nat)) kc, C.row ((4 : Nat)) ((12 : Nat)) (List.length bs), C.mp ((5 : Nat))] ((85 : Nat))), ((1 : Nat), Blk.row ka ga ((1 : Nat)) ((9 : Nat))), ((2 :
 Nat), Blk.row kb gb ((5 : Nat)) ((58 : Nat))), ((3 : Nat), Blk.row kc gc ((6 : Nat)) ((61 : Nat))), ((4 : Nat), Blk.row (List.length bs) (fun i => bayC (List.getD bs i bay0)) ((12 :
 Nat)) ((54 : Nat))), ((5 : Nat), Blk.map ((0 : Nat)) mpa)]))))))) := by kernel_rfl
set_option maxRecDepth 100000 in
theorem st33_18 (nk : ByteArray → Bool) (okr rg : RBay → Bool) (ok : (Unit × RBay × Unit) × A5 → Bool) (lk : (Unit × RBay × Unit) × A5 → Int) (x : SBay) (s0 : ByteArray) (ka : Nat) (ga : Nat → List D) (kb : Nat) (gb : Nat → List D) (kc : Nat) (gc : Nat → List D) (bs : List SBay) (mpa : List (Value × Value)) (g m : Nat) (i52 : Int) : L33_18 nk okr rg ok lk x s0 ka ga kb gb kc gc bs mpa g (m + 1) i52 =
 (bif decide (i52 < (↑(List.length bs) : Int)) then (bif decide ((0 : Int) ≤ i52) && decide (i52 < (↑(List.length bs) : Int)) then (bif SBay.kind x != (3 : Int) then (bif SBay.kind x
 == SBay.kind (List.getD bs (Int.toNat i52) bay0) then (bif SBay.off x == SBay.off (List.getD bs (Int.toNat i52) bay0) then (bif SBay.fin x == SBay.fin (List.getD bs (Int.toNat i52)
 bay0) then some (T.leaf (AV.c (C.d (D.v (Value.int IntKind.i64 (12 : Int)))), [((0 : Nat), Blk.cells [C.d (D.v (Value.string s0)), C.row ((1 : Nat)) ((1 : Nat)) ka, C.row ((2 :
 Nat)) ((5 : Nat)) kb, C.row ((3 : Nat)) ((6 : Nat)) kc, C.row ((4 : Nat)) ((12 : Nat)) (List.length bs), C.mp ((5 : Nat))] ((85 : Nat))), ((1 : Nat), Blk.row ka ga ((1 : Nat)) ((9 :
 Nat))), ((2 : Nat), Blk.row kb gb ((5 : Nat)) ((58 : Nat))), ((3 : Nat), Blk.row kc gc ((6 : Nat)) ((61 : Nat))), ((4 : Nat), Blk.row (List.length bs) (fun i => bayC (List.getD bs i
 bay0)) ((12 : Nat)) ((54 : Nat))), ((5 : Nat), Blk.map ((0 : Nat)) mpa)])) else L33_18 nk okr rg ok lk x s0 ka ga kb gb kc gc bs mpa g m (IntKind.wrap IntKind.i64 (i52 + (1 :
 Int)))) else L33_18 nk okr rg ok lk x s0 ka ga kb gb kc gc bs mpa g m (IntKind.wrap IntKind.i64 (i52 + (1 : Int)))) else L33_18 nk okr rg ok lk x s0 ka ga kb gb kc gc bs mpa g m
 (IntKind.wrap IntKind.i64 (i52 + (1 : Int)))) else L33_18 nk okr rg ok lk x s0 ka ga kb gb kc gc bs mpa g m (IntKind.wrap IntKind.i64 (i52 + (1 : Int)))) else none) else (bif ok
 (((), (SBay.name x, SBay.kind x, SBay.off x, SBay.fin x, SBay.zr x, SBay.zx x, D.sl (2 : Nat) (List.length (SBay.links x)) fun i => linkC (List.getD (SBay.links x) i link0),
 SBay.closed x, SBay.ct x, SBay.vt x, SBay.sat x, SBay.travel x, ()), ()), (s0, ka, kb, kc, List.length bs, (), ()), (ka, ga), (kb, gb), (kc, gc), (List.length bs, fun i => bayC
 (List.getD bs i bay0)), mpa, ()) then (bif lk (((), (SBay.name x, SBay.kind x, SBay.off x, SBay.fin x, SBay.zr x, SBay.zx x, D.sl (2 : Nat) (List.length (SBay.links x)) fun i =>
 linkC (List.getD (SBay.links x) i link0), SBay.closed x, SBay.ct x, SBay.vt x, SBay.sat x, SBay.travel x, ()), ()), (s0, ka, kb, kc, List.length bs, (), ()), (ka, ga), (kb, gb),
 (kc, gc), (List.length bs, fun i => bayC (List.getD bs i bay0)), mpa, ()) != (0 : Int) then some (T.leaf (AV.c (C.d (D.v (Value.int IntKind.i64 (lk (((), (SBay.name x, SBay.kind x,
 SBay.off x, SBay.fin x, SBay.zr x, SBay.zx x, D.sl (2 : Nat) (List.length (SBay.links x)) fun i => linkC (List.getD (SBay.links x) i link0), SBay.closed x, SBay.ct x, SBay.vt x,
 SBay.sat x, SBay.travel x, ()), ()), (s0, ka, kb, kc, List.length bs, (), ()), (ka, ga), (kb, gb), (kc, gc), (List.length bs, fun i => bayC (List.getD bs i bay0)), mpa, ()))))),
 [((0 : Nat), Blk.cells [C.d (D.v (Value.string s0)), C.row ((1 : Nat)) ((1 : Nat)) ka, C.row ((2 : Nat)) ((5 : Nat)) kb, C.row ((3 : Nat)) ((6 : Nat)) kc, C.row ((4 : Nat)) ((12 :
 Nat)) (List.length bs), C.mp ((5 : Nat))] ((85 : Nat))), ((1 : Nat), Blk.row ka ga ((1 : Nat)) ((9 : Nat))), ((2 : Nat), Blk.row kb gb ((5 : Nat)) ((58 : Nat))), ((3 : Nat), Blk.row
 kc gc ((6 : Nat)) ((61 : Nat))), ((4 : Nat), Blk.row (List.length bs) (fun i => bayC (List.getD bs i bay0)) ((12 : Nat)) ((54 : Nat))), ((5 : Nat), Blk.map ((0 : Nat)) (Prod.fst
 (Prod.snd (Prod.snd (Prod.snd (Prod.snd (Prod.snd (Prod.snd (((), (SBay.name x, SBay.kind x, SBay.off x, SBay.fin x, SBay.zr x, SBay.zx x, D.sl (2 : Nat) (List.length (SBay.links
 x)) fun i => linkC (List.getD (SBay.links x) i link0), SBay.closed x, SBay.ct x, SBay.vt x, SBay.sat x, SBay.travel x, ()), ()), (s0, ka, kb, kc, List.length bs, (), ()), (ka, ga),
 (kb, gb), (kc, gc), (List.length bs, fun i => bayC (List.getD bs i bay0)), mpa, ())))))))))])) else (bif decide ((List.length bs + (1 : Nat)) * (120 : Nat) ≤ (140737488355328 :
 Nat)) && decide (List.length bs + (1 : Nat) ≤ (9223372036854775807 : Nat)) then some (T.leaf (AV.c (C.d (D.v (Value.int IntKind.i64 (0 : Int)))), [((0 : Nat), Blk.cells [C.d (D.v
 (Value.string s0)), C.row ((1 : Nat)) ((1 : Nat)) ka, C.row ((2 : Nat)) ((5 : Nat)) kb, C.row ((3 : Nat)) ((6 : Nat)) kc, C.row ((6 : Nat)) ((12 : Nat)) (List.length bs + (1 :
 Nat)), C.mp ((5 : Nat))] ((85 : Nat))), ((1 : Nat), Blk.row ka ga ((1 : Nat)) ((9 : Nat))), ((2 : Nat), Blk.row kb gb ((5 : Nat)) ((58 : Nat))), ((3 : Nat), Blk.row kc gc ((6 :
 Nat)) ((61 : Nat))), ((4 : Nat), Blk.dead), ((5 : Nat), Blk.map ((0 : Nat)) ((Value.string (SBay.name x), Value.bool true) :: Prod.fst (Prod.snd (Prod.snd (Prod.snd (Prod.snd
 (Prod.snd (Prod.snd (((), (SBay.name x, SBay.kind x, SBay.off x, SBay.fin x, SBay.zr x, SBay.zx x, D.sl (2 : Nat) (List.length (SBay.links x)) fun i => linkC (List.getD (SBay.links
 x) i link0), SBay.closed x, SBay.ct x, SBay.vt x, SBay.sat x, SBay.travel x, ()), ()), (s0, ka, kb, kc, List.length bs, (), ()), (ka, ga), (kb, gb), (kc, gc), (List.length bs, fun i
 => bayC (List.getD bs i bay0)), mpa, ()))))))))), ((6 : Nat), Blk.row (List.length bs + (1 : Nat)) (appF (List.length bs) (fun i => bayC (List.getD bs i bay0)) (chunk [D.v
 (Value.string (SBay.name x)), D.v (Value.int IntKind.i64 (SBay.kind x)), D.v (Value.int IntKind.i64 (SBay.off x)), D.v (Value.int IntKind.i64 (SBay.fin x)), D.v (Value.int
 IntKind.i64 (SBay.zr x)), D.v (Value.int IntKind.i64 (SBay.zx x)), D.sl (2 : Nat) (List.length (SBay.links x)) fun i => linkC (List.getD (SBay.links x) i link0), D.v (Value.bool
 (SBay.closed x)), D.v (Value.int IntKind.i64 (SBay.ct x)), D.v (Value.int IntKind.i64 (SBay.vt x)), D.v (Value.int IntKind.i64 (SBay.sat x)), D.v (Value.int IntKind.i64 (SBay.travel
 x))] ((11 : Nat) + (1 : Nat)))) ((12 : Nat)) ((54 : Nat)))])) else none)) else none)) := by kernel_rfl
end Go.Proofs.Ythmapnolgdpkbaa.st
namespace Go.Proofs.Ythmapnolgdpkbaa.st
open Go.RowKit Go.Eb

theorem appOk {k b : Nat} (h : k + 1 ≤ 1000) (hb : b ≤ 1000) : (decide ((k + 1) * b ≤ 140737488355328) && decide (k + 1 ≤ 9223372036854775807)) = true := by
  have h1 : (k + 1) * b ≤ 1000 * 1000 := Nat.mul_le_mul h hb
  rw [decide_eq_true (by omega), decide_eq_true (by omega)]; rfl

theorem sNm : OrcS Try.prog (oNm nameOk) := .cons (.p decS_ok c15) .nil
theorem sNam : OrcS Try.prog (oNam nameOk) := .cons (.inl sNm Try.func51 (by kernel_rfl)) .nil
theorem sWi : OrcS Try.prog oWi := .cons (.inl .nil Try.func53 (by kernel_rfl)) .nil
theorem sIm : OrcS Try.prog (oIm nameOk) := .cons (.inl sWi Try.func52 (by kernel_rfl)) (.cons (.inl .nil Try.func53 (by kernel_rfl)) sNam)
end Go.Proofs.Ythmapnolgdpkbaa.st
namespace Go.Proofs.Ythmapnolgdpkbaa.st
open Go.RowKit Go.Eb

abbrev lI (e : Int) (H : Hp) : Option (T (AV × Hp)) := some (.leaf (vI e, H))
theorem w1 {k : Nat} (h : k ≤ 9223372036854775807) : IntKind.wrap IntKind.i64 ((k : Int) - 1) = (k : Int) - 1 := wrap_id (by omega) (by omega)
theorem len_lt1 (n : Nat) : decide ((n : Int) < 1) = decide (n < 1) := by rw [decide_eq_decide]; omega
theorem len_gt2 (n : Nat) : decide ((n : Int) > 2) = decide (2 < n) := by rw [decide_eq_decide]; omega
theorem len_ne2 (n : Nat) : ((n : Int) != 2) = (n != 2) := by
  rw [Bool.eq_iff_iff]; simp only [bne_iff_ne]; omega
theorem gt0 (k : Nat) : decide ((k : Int) > 0) = decide (0 < k) := by rw [decide_eq_decide]; omega

section
variable (x : SBay) (s0 : ByteArray) (ka : Nat) (ga : Nat → List D) (kb : Nat) (gb : Nat → List D) (kc : Nat) (gc : Nat → List D) (kd : Nat) (gd : Nat → List D) (mpa : List (Value × Value))
def prevB (l : List SLink) : Nat → Option Int
  | 0 => none
  | k + 1 => some (l.getD k link0).bus
theorem lp55 (hka : ka ≤ 9223372036854775807) (hl : x.links.length ≤ 9223372036854775807) (g : Nat) : ∀ (m k : Nat), k ≤ x.links.length → x.links.length - k < m →
    L55_5 x s0 ka ga kb gb kc gc kd gd mpa g m k = lI (linkErr ka x.kind (prevB x.links k) (x.links.drop k)) (H5 s0 ka ga kb gb kc gc kd gd mpa)
  | 0, k, _, h => by omega
  | m + 1, k, hk, h => by
    rw [st55_5]
    by_cases hlt : k < x.links.length
    · have ih := lp55 hka hl g m (k + 1) (by omega) (by omega)
      rw [drop_at' (d := link0) hlt]
      simp only [lt1 hlt, ge0, tn, Bool.and_self, cond_true, nx hlt (by omega), ih, w1 hka, linkErr, within]
      cases k with
      | zero =>
        simp only [prevB, List.getD_cons_zero]
        generalize decide ((x.links.getD 0 link0).bus ≥ 0) = b1
        generalize decide ((x.links.getD 0 link0).bus ≤ (ka : Int) - 1) = b2
        generalize ((x.links.getD 0 link0).pos != 1) = b3
        generalize ((x.links.getD 0 link0).pos != 0) = b4
        generalize (x.kind == 3) = b5
        cases b1 <;> cases b2 <;> cases b3 <;> cases b4 <;> cases b5 <;> rfl
      | succ k =>
        have e1 : IntKind.wrap IntKind.i64 (((k + 1 : Nat) : Int) - 1) = (k : Int) := by rw [wrap_id (by omega) (by omega)]; omega
        have e2 : decide (((k + 1 : Nat) : Int) > 0) = true := by rw [gt0]; simp
        have e3 : decide ((k : Int) < (x.links.length : Int)) = true := lt1 (by omega)
        have e4 : (some (x.links.getD k link0).bus == some (x.links.getD (k + 1) link0).bus) = ((x.links.getD k link0).bus == (x.links.getD (k + 1) link0).bus) := rfl
        simp only [prevB, e1, e2, e3, e4, ge0, tn, Bool.and_self, cond_true]
        generalize decide ((x.links.getD (k + 1) link0).bus ≥ 0) = b1
        generalize decide ((x.links.getD (k + 1) link0).bus ≤ (ka : Int) - 1) = b2
        generalize ((x.links.getD (k + 1) link0).pos != 1) = b3
        generalize ((x.links.getD (k + 1) link0).pos != 0) = b4
        generalize (x.kind == 3) = b5
        generalize ((x.links.getD k link0).bus == (x.links.getD (k + 1) link0).bus) = b6
        cases b1 <;> cases b2 <;> cases b3 <;> cases b4 <;> cases b5 <;> cases b6 <;> rfl
    · rw [lt0 hlt, List.drop_of_length_le (by omega)]
      rfl
theorem c55 (hka : ka ≤ 9223372036854775807) (hl : x.links.length ≤ 9223372036854775807) : CX Try.prog 55 [.c (.ptr 0 0), aBay x] (H5 s0 ka ga kb gb kc gc kd gd mpa) (vI (linksErr ka x)) (H5 s0 ka ga kb gb kc gc kd gd mpa) := by
  obtain ⟨g, hg⟩ : ∃ g, x.links.length < g := ⟨x.links.length + 1, by omega⟩
  refine cx_of (sWi.ok) Try.func55 b55 rfl ((ev55 x s0 ka ga kb gb kc gc kd gd mpa g).trans ?_)
  have := lp55 x s0 ka ga kb gb kc gc kd gd mpa hka hl g g 0 (by omega) (by omega)
  have e0 : L55_5 x s0 ka ga kb gb kc gc kd gd mpa g g 0 = lI (linkErr ka x.kind none x.links) (H5 s0 ka ga kb gb kc gc kd gd mpa) := this
  rw [e0, len_lt1, len_gt2, len_ne2]
  unfold linksErr
  generalize decide (x.links.length < 1) = b1
  generalize decide (2 < x.links.length) = b2
  generalize (x.kind == 3) = b3
  generalize (x.links.length != 2) = b4
  cases b1 <;> cases b2 <;> cases b3 <;> cases b4 <;> rfl
end

theorem s54 : OrcS Try.prog o54 := .cons (.inl sWi Try.func52 (by kernel_rfl)) sWi
theorem c54 (x : SBay) : CX Try.prog 54 [aBay x] [] (vB (rngOk x)) [] := by
  refine cx_of s54.ok Try.func54 b54 rfl ((ev54 x 1).trans ?_)
  simp only [fNot, bAnd, neN, Bool.and_true]
  unfold rngOk impOk within
  cases (x.kind == 3) with
  | true =>
    simp only [cond_true]
    cases (x.kind == 1) <;> simp only [cond_true, cond_false, Bool.and_assoc, bAnd]
  | false =>
    simp only [cond_false]
    cases (x.kind == 1) <;> simp only [cond_true, cond_false, Bool.and_assoc, bAnd]

/-- headers and blocks agree, sizes fit -/
def eqs (a : A5) : Bool := Nat.beq a.1.2.1 a.2.1.1 && (Nat.beq a.1.2.2.1 a.2.2.1.1 && (Nat.beq a.1.2.2.2.1 a.2.2.2.1.1 && (Nat.beq a.1.2.2.2.2.1 a.2.2.2.2.1.1 && (Nat.ble a.1.2.1 900 && (Nat.ble a.1.2.2.1 900 && (Nat.ble a.1.2.2.2.1 900 && Nat.ble a.1.2.2.2.2.1 900))))))
theorem enc55 (a : (Unit × RBay × Unit) × A5) (h : eqs a.2 = true) : (d55.enc a).2 = H5 a.2.1.1 a.2.2.1.1 a.2.2.1.2 a.2.2.2.1.1 a.2.2.2.1.2 a.2.2.2.2.1.1 a.2.2.2.2.1.2 a.2.2.2.2.2.1.1 a.2.2.2.2.2.1.2 a.2.2.2.2.2.2.1 ∧ (a.2.2.1.1 ≤ 900 ∧ a.2.2.2.1.1 ≤ 900 ∧ a.2.2.2.2.1.1 ≤ 900 ∧ a.2.2.2.2.2.1.1 ≤ 900) := by
  unfold eqs at h
  simp only [Bool.and_eq_true] at h
  obtain ⟨h1, h2, h3, h4, h5, h6, h7, h8⟩ := h
  have e1 := Nat.eq_of_beq_eq_true h1
  have e2 := Nat.eq_of_beq_eq_true h2
  have e3 := Nat.eq_of_beq_eq_true h3
  have e4 := Nat.eq_of_beq_eq_true h4
  have g5 := Nat.le_of_ble_eq_true h5
  have g6 := Nat.le_of_ble_eq_true h6
  have g7 := Nat.le_of_ble_eq_true h7
  have g8 := Nat.le_of_ble_eq_true h8
  refine ⟨?_, by omega, by omega, by omega, by omega⟩
  show [(0, Blk.cells [.d (dS a.2.1.1), .row 1 1 a.2.1.2.1, .row 2 5 a.2.1.2.2.1, .row 3 6 a.2.1.2.2.2.1, .row 4 12 a.2.1.2.2.2.2.1, .mp 5] 85), (1, .row a.2.2.1.1 a.2.2.1.2 1 9), (2, .row a.2.2.2.1.1 a.2.2.2.1.2 5 58), (3, .row a.2.2.2.2.1.1 a.2.2.2.2.1.2 6 61), (4, .row a.2.2.2.2.2.1.1 a.2.2.2.2.2.1.2 12 54), (5, .map 0 a.2.2.2.2.2.2.1)] = _
  rw [e1, e2, e3, e4]

noncomputable def ok33 (a : (Unit × RBay × Unit) × A5) : Bool := okRB a.1.2.1 && eqs a.2
noncomputable def lk33 (a : (Unit × RBay × Unit) × A5) : Int := linksErr a.2.2.1.1 (rbay a.1.2.1)
theorem okRB_len {x : RBay} (h : okRB x = true) : (rbay x).links.length ≤ 9223372036854775807 := by
  unfold okRB okLk at h
  simp only [Bool.and_eq_true, decide_eq_true_eq] at h
  exact h.2
theorem s33 : OrcS Try.prog (o33 nameOk okRB (fun a => rngOk (rbay a)) ok33 lk33) := by
  refine .cons (.d fun a ha => ?_) (.cons (.d fun a ha => ?_) sIm)
  · unfold ok33 at ha
    simp only [Bool.and_eq_true] at ha
    obtain ⟨e, h1, _⟩ := enc55 a ha.2
    rw [e]
    exact (c55 (rbay a.1.2.1) _ _ _ _ _ _ _ _ _ _ (by omega) (okRB_len ha.1)).ge (.cons (.refl _) (.cons (bay_le _ ha.1) .nil)) (.refl _)
  · exact (c54 (rbay a.1.1)).ge (.cons (bay_le _ ha) .nil) (.refl _)

section
variable (x : SBay) (s0 : ByteArray) (ka : Nat) (ga : Nat → List D) (kb : Nat) (gb : Nat → List D) (kc : Nat) (gc : Nat → List D) (bs : List SBay) (mpa : List (Value × Value))
abbrev cnB (bs : List SBay) : Nat → List D := fun i => bayC (bs.getD i bay0)
def H33 : Hp := [(0, .cells [.d (dS s0), .row 1 1 ka, .row 2 5 kb, .row 3 6 kc, .row 6 12 (bs.length + 1), .mp 5] 85), (1, .row ka ga 1 9), (2, .row kb gb 5 58), (3, .row kc gc 6 61), (4, .dead), (5, .map 0 ((.string x.name, .bool true) :: mpa)), (6, .row (bs.length + 1) (appF bs.length (cnB bs) (chunk (bayC x) 12)) 12 54)]
def aft33 : Option (T (AV × Hp)) := bif linksErr ka x != 0 then lI (linksErr ka x) (H5 s0 ka ga kb gb kc gc bs.length (cnB bs) mpa) else lI 0 (H33 x s0 ka ga kb gb kc gc bs mpa)
theorem lp33 (hka : ka ≤ 900) (hkb : kb ≤ 900) (hkc : kc ≤ 900) (hbs : bs.length ≤ 900) (hl : x.links.length ≤ 9223372036854775807) (g : Nat) : ∀ (m k : Nat), k ≤ bs.length → bs.length - k < m →
    L33_18 nameOk okRB (fun a => rngOk (rbay a)) ok33 lk33 x s0 ka ga kb gb kc gc bs mpa g m k = bif (bs.drop k).any (clash x) then lI 12 (H5 s0 ka ga kb gb kc gc bs.length (cnB bs) mpa) else aft33 x s0 ka ga kb gb kc gc bs mpa
  | 0, k, _, h => by omega
  | m + 1, k, hk, h => by
    rw [st33_18]
    by_cases hlt : k < bs.length
    · have ih := lp33 hka hkb hkc hbs hl g m (k + 1) (by omega) (by omega)
      rw [drop_at' (d := bay0) hlt]
      simp only [lt1 hlt, ge0, tn, Bool.and_self, cond_true, nx hlt (by omega), ih, List.any_cons, clash]
      generalize (x.kind != 3) = b1
      generalize (x.kind == (bs.getD k bay0).kind) = b2
      generalize (x.off == (bs.getD k bay0).off) = b3
      generalize (x.fin == (bs.getD k bay0).fin) = b4
      cases b1 <;> cases b2 <;> cases b3 <;> cases b4 <;> rfl
    · rw [lt0 hlt, List.drop_of_length_le (by omega)]
      have hok : ok33 (((), bayR x, ()), (s0, ka, kb, kc, bs.length, (), ()), (ka, ga), (kb, gb), (kc, gc), (bs.length, cnB bs), mpa, ()) = true := by
        unfold ok33
        have e1 : okRB (bayR x) = true := okLk_links hl
        have e2 : eqs ((s0, ka, kb, kc, bs.length, (), ()), (ka, ga), (kb, gb), (kc, gc), (bs.length, cnB bs), mpa, ()) = true := by
          unfold eqs
          simp only [Nat.beq_refl, Bool.true_and, bleD, decide_eq_true hka, decide_eq_true hkb, decide_eq_true hkc, decide_eq_true hbs]
        simp only [e1, e2, Bool.and_self]
      have hlk : lk33 (((), bayR x, ()), (s0, ka, kb, kc, bs.length, (), ()), (ka, ga), (kb, gb), (kc, gc), (bs.length, cnB bs), mpa, ()) = linksErr ka x := by
        unfold lk33
        simp only [rbay_bayR]
      simp only [cond_false, List.any_nil]
      show (bif ok33 (((), bayR x, ()), (s0, ka, kb, kc, bs.length, (), ()), (ka, ga), (kb, gb), (kc, gc), (bs.length, cnB bs), mpa, ()) then (bif lk33 (((), bayR x, ()), (s0, ka, kb, kc, bs.length, (), ()), (ka, ga), (kb, gb), (kc, gc), (bs.length, cnB bs), mpa, ()) != 0 then
        lI (lk33 (((), bayR x, ()), (s0, ka, kb, kc, bs.length, (), ()), (ka, ga), (kb, gb), (kc, gc), (bs.length, cnB bs), mpa, ())) (H5 s0 ka ga kb gb kc gc bs.length (cnB bs) mpa) else
        (bif decide ((bs.length + 1) * 120 ≤ 140737488355328) && decide (bs.length + 1 ≤ 9223372036854775807) then lI 0 (H33 x s0 ka ga kb gb kc gc bs mpa) else none)) else none) = _
      rw [hok, hlk, appOk (k := bs.length) (b := 120) (by omega) (by omega)]
      unfold aft33
      cases (linksErr ka x != 0) <;> rfl

def r33 : Option (T (AV × Hp)) := bif bayErrD ka kb kc (boolOf (assoc mpa (.string x.name))) bs x != 0 then lI (bayErrD ka kb kc (boolOf (assoc mpa (.string x.name))) bs x) (H5 s0 ka ga kb gb kc gc bs.length (cnB bs) mpa) else lI 0 (H33 x s0 ka ga kb gb kc gc bs mpa)
theorem e33 (hka : ka ≤ 900) (hkb : kb ≤ 900) (hkc : kc ≤ 900) (hbs : bs.length ≤ 900) (hl : x.links.length ≤ 9223372036854775807) (g : Nat) (hg : bs.length < g) :
    callC Try.prog (o33 nameOk okRB (fun a => rngOk (rbay a)) ok33 lk33) ann33 g Try.f33 (bodyOf Try.f33) [.c (.ptr 0 0), aBay x] (H5 s0 ka ga kb gb kc gc bs.length (cnB bs) mpa) = r33 x s0 ka ga kb gb kc gc bs mpa := by
  refine (ev33 nameOk okRB (fun a => rngOk (rbay a)) ok33 lk33 x s0 ka ga kb gb kc gc bs mpa g).trans ?_
  have hL := lp33 x s0 ka ga kb gb kc gc bs mpa hka hkb hkc hbs hl g g 0 (by omega) (by omega)
  have hL0 : L33_18 nameOk okRB (fun a => rngOk (rbay a)) ok33 lk33 x s0 ka ga kb gb kc gc bs mpa g g 0 = bif bs.any (clash x) then lI 12 (H5 s0 ka ga kb gb kc gc bs.length (cnB bs) mpa) else aft33 x s0 ka ga kb gb kc gc bs mpa := hL
  have e1 : okRB (bayR x) = true := okLk_links hl
  have e2 : rngOk (rbay (bayR x)) = rngOk x := by rw [rbay_bayR]
  have e1' : okRB (x.name, x.kind, x.off, x.fin, x.zr, x.zx, linksD x.links, x.closed, x.ct, x.vt, x.sat, x.travel, ()) = true := e1
  have e2' : rngOk (rbay (x.name, x.kind, x.off, x.fin, x.zr, x.zx, linksD x.links, x.closed, x.ct, x.vt, x.sat, x.travel, ())) = rngOk x := e2
  have w0 : IntKind.wrap IntKind.i64 ((1 : Int) - 1) = (1 : Int) - 1 := by decide
  rw [hL0]
  simp only [e1', e2', w1 (show kb ≤ 9223372036854775807 by omega), w1 (show kc ≤ 9223372036854775807 by omega), w0, cond_true]
  unfold r33 bayErrD cntOf within aft33
  cases nameOk x.name with
  | false => rfl
  | true =>
    cases boolOf (assoc mpa (Value.string x.name)) with
    | true => rfl
    | false =>
      cases (x.kind == 1) with
      | true =>
        simp only [cond_true, cond_false, Bool.not_true]
        generalize decide (x.off ≥ 0) = b1
        generalize decide (x.off ≤ (kb : Int) - 1) = b2
        cases b1 <;> cases b2 <;> first | rfl | (cases rngOk x <;> first | rfl | (cases bs.any (clash x) <;> rfl))
      | false =>
        cases (x.kind == 2) with
        | true =>
          simp only [cond_true, cond_false, Bool.not_true]
          generalize decide (x.off ≥ 0) = b1
          generalize decide (x.off ≤ (kc : Int) - 1) = b2
          cases b1 <;> cases b2 <;> first | rfl | (cases rngOk x <;> first | rfl | (cases bs.any (clash x) <;> rfl))
        | false =>
          cases (x.kind == 3) with
          | true =>
            simp only [cond_true, cond_false, Bool.not_true]
            generalize decide (x.off ≥ 0) = b1
            generalize decide (x.off ≤ (1 : Int) - 1) = b2
            cases b1 <;> cases b2 <;> first | rfl | (cases rngOk x <;> first | rfl | (cases bs.any (clash x) <;> rfl))
          | false => rfl
end
end Go.Proofs.Ythmapnolgdpkbaa.st
namespace Go.Proofs.Ythmapnolgdpkbaa.st
open Go.RowKit Go.Eb

end Go.Proofs.Ythmapnolgdpkbaa.st
namespace Go.Proofs.Ythmapnolgdpkbaa.st
open Go.RowKit Go.Eb

abbrev AL := D × Unit × Unit
abbrev RW1 := Nat × (Nat → List D)
abbrev A28 := AL × (ByteArray × Nat × Unit × Unit × Unit × Unit × Unit) × RW1 × List (Value × Value) × Unit
abbrev A30 := AL × (ByteArray × Nat × Nat × Unit × Unit × Unit × Unit) × RW1 × RW1 × List (Value × Value) × Unit
abbrev A32 := AL × (ByteArray × Nat × Nat × Nat × Unit × Unit × Unit) × RW1 × RW1 × RW1 × List (Value × Value) × Unit
end Go.Proofs.Ythmapnolgdpkbaa.st
namespace Go.Proofs.Ythmapnolgdpkbaa.st
open Go.RowKit Go.Eb

noncomputable abbrev u2 (a : A28) := tLine (theM a.2.2.2.1) (theE linesD a.1.1)
noncomputable abbrev u3 (a : A30) := tSrc (theM a.2.2.2.2.1) (theE srcsD a.1.1)
noncomputable abbrev u4 (a : A32) := tBay a.2.2.1.1 a.2.2.2.1.1 a.2.2.2.2.1.1 (theM a.2.2.2.2.2.1) (theE baysD a.1.1)
theorem len_gt (n k : Nat) : decide ((n : Int) > (k : Int)) = decide (k < n) := by rw [decide_eq_decide]; omega

end Go.Proofs.Ythmapnolgdpkbaa.st
namespace Go.Proofs.Ythmapnolgdpkbaa.st
open Go.RowKit Go.Eb

theorem same_line (x y : SLine) : eq35 x y = same x y := by
  cases x; cases y
  unfold eq35
  simp only [strEq, intEq, Bool.and_true]
  rw [Bool.eq_iff_iff]
  simp only [Bool.and_eq_true, same_iff, SLine.mk.injEq]
  exact ⟨fun ⟨a, ⟨b, c⟩, d, e⟩ => ⟨a, b, c, d, e⟩, fun ⟨a, b, c, d, e⟩ => ⟨a, ⟨b, c⟩, d, e⟩⟩
theorem same_src (x y : SSrc) : eq36 x y = same x y := by
  cases x; cases y
  unfold eq36
  simp only [strEq, intEq, Bool.and_true]
  rw [Bool.eq_iff_iff]
  simp only [Bool.and_eq_true, same_iff, SSrc.mk.injEq]
  exact ⟨fun ⟨a, f, ⟨b, c⟩, d, e⟩ => ⟨a, f, b, c, d, e⟩, fun ⟨a, f, b, c, d, e⟩ => ⟨a, f, ⟨b, c⟩, d, e⟩⟩
theorem same_link (x y : SLink) : eq56 x y = same x y := by
  cases x; cases y
  unfold eq56
  simp only [intEq, Bool.and_true]
  rw [Bool.eq_iff_iff]
  simp only [Bool.and_eq_true, same_iff, SLink.mk.injEq]
theorem same_str (x y : ByteArray) : eqS x y = same x y := strEq x y
theorem same_bay (x y : SBay) : same x y = (x.name.toList == y.name.toList && (x.kind == y.kind && (x.off == y.off && (x.fin == y.fin && ((x.zr == y.zr && (x.zx == y.zx && true)) && (same x.links y.links && (x.closed == y.closed && (x.ct == y.ct && (x.vt == y.vt && (x.sat == y.sat && x.travel == y.travel)))))))))) := by
  cases x; cases y
  simp only [strEq, intEq, boolEq, Bool.and_true]
  rw [Bool.eq_iff_iff]
  simp only [Bool.and_eq_true, same_iff, SBay.mk.injEq]
  exact ⟨fun ⟨a, b, c, d, e, f, g, h, i, j, k, l⟩ => ⟨a, b, c, d, ⟨e, f⟩, g, h, i, j, k, l⟩, fun ⟨a, b, c, d, ⟨e, f⟩, g, h, i, j, k, l⟩ => ⟨a, b, c, d, e, f, g, h, i, j, k, l⟩⟩
theorem same_sta (x y : SSta) : same x y = (x.name.toList == y.name.toList && (same x.buses y.buses && (same x.lines y.lines && (same x.srcs y.srcs && same x.bays y.bays)))) := by
  cases x; cases y
  simp only [strEq]
  rw [Bool.eq_iff_iff]
  simp only [Bool.and_eq_true, same_iff, SSta.mk.injEq]

/-! bays -/
noncomputable def okLL (x y : D) : Bool := okLk x && okLk y
noncomputable def smLL (x y : D) : Bool := same (theE linksD x) (theE linksD y)
theorem okLL_links {x y : SBay} (hx : x.links.length ≤ 9223372036854775807) (hy : y.links.length ≤ 9223372036854775807) : okLL (linksD x.links) (linksD y.links) = true := by
  unfold okLL; rw [okLk_links hx, okLk_links hy]; rfl
theorem smLL_links (x y : SBay) : smLL (linksD x.links) (linksD y.links) = same x.links y.links := by
  unfold smLL; rw [(the_list linkC_inj x.links).2, (the_list linkC_inj y.links).2]
theorem s38 : OrcS Try.prog (o38 okLL smLL) := by
  refine .cons ⟨ans2_ok fun x y h => ?_, ?_⟩ .nil
  · unfold okLL okLk at h
    simp only [Bool.and_eq_true, decide_eq_true_eq] at h
    have := c56 (theE linksD x) (theE linksD y) h.1.2
    rw [eqL_same same_link] at this
    exact this.ge (asle2 (theE_de h.1.1) (theE_de h.2.1)) (.refl _)
  · intro args H
    unfold ans2
    split
    · exact .bif _ (.one _ _ fun R k => rfl) (.no fun R k => rfl)
    · exact .no fun R k => rfl
theorem b37 : Try.f37.body = some (bodyOf Try.f37) := by kernel_rfl
theorem s37 : OrcS Try.prog (o37 okLL smLL) := .cons (.inl s38 Try.func38 (by kernel_rfl)) .nil
theorem r37 (l r : List SBay) (g : Nat) (hl : lksOk l = true) (hr : lksOk r = true) (hb : l.length ≤ 9223372036854775807) (hg : l.length < g) :
    callC Try.prog (o37 okLL smLL) ann37 g Try.f37 (bodyOf Try.f37) [.c (.d (baysD l)), .c (.d (baysD r)), .c (.d (.v (.func (.func 38) #[] #[])))] [] = some (.leaf (vB (same l r), [])) := by
  rw [ev37, ← eqL_same (eq := same) (fun _ _ => rfl) l r]
  refine eq_whole (L := L37 okLL smLL l r g) (eq := same) (d := bay0) (fun m i => ?_) hb hg
  rw [st37]
  simp only [okLL_links (lks_getD hl i.toNat) (lks_getD hr i.toNat), smLL_links, cond_true, fNot, fAnd, ← same_bay]
theorem c37 (l r : List SBay) (hl : lksOk l = true) (hr : lksOk r = true) (hb : l.length ≤ 9223372036854775807) :
    CX Try.prog 37 [.c (.d (baysD l)), .c (.d (baysD r)), .c (.d (.v (.func (.func 38) #[] #[])))] [] (vB (same l r)) [] := by
  obtain ⟨g, hg⟩ : ∃ g, l.length < g := ⟨l.length + 1, by omega⟩
  exact cx_of s37.ok Try.func37 b37 rfl (r37 l r g hl hr hb hg)

/-! Same of the program -/
abbrev eBus := aD busesD
abbrev eLin := aD linesD
abbrev eSrc := aD srcsD
abbrev eBay := aD baysD
def eFn (f : FuncId) : Unit → AV := fun _ => .c (.d (.v (.func (.func f) #[] #[])))
theorem eFn_inj (f : FuncId) : InjA (eFn f) := fun _ _ _ => rfl
def c2 {α : Type} (a : List α × List α) : Bool := lenOk a.1 && lenOk a.2
noncomputable def c2b (a : List SBay × List SBay × Unit) : Bool := lenOk a.1 && (lksOk a.1 && lksOk a.2.1)
theorem s13 : OrcS Try.prog (o13 (okG (en2 eBus eBus) c2) (okG (en2 eLin eLin) c2) (okG (en2 eSrc eSrc) c2) (okG (en3 eBay eBay (eFn 38)) c2b) (fun x => same (theT (en2 eBus eBus) x).1 (theT (en2 eBus eBus) x).2) (fun x => same (theT (en2 eLin eLin) x).1 (theT (en2 eLin eLin) x).2)
    (fun x => same (theT (en2 eSrc eSrc) x).1 (theT (en2 eSrc eSrc) x).2) (fun x => same (theT (en3 eBay eBay (eFn 38)) x).1 (theT (en3 eBay eBay (eFn 38)) x).2.1)) := by
  refine .cons (.t' (r := fun (a : List ByteArray × List ByteArray) => vB (same a.1 a.2)) fun a h => ?_) (.cons (.t' (r := fun (a : List SLine × List SLine) => vB (same a.1 a.2)) fun a h => ?_) (.cons (.t' (r := fun (a : List SSrc × List SSrc) => vB (same a.1 a.2)) fun a h => ?_) (.cons (.t' (r := fun (a : List SBay × List SBay × Unit) => vB (same a.1 a.2.1)) fun a h => ?_) .nil)))
  · unfold c2 lenOk at h; simp only [Bool.and_eq_true, decide_eq_true_eq] at h
    have := c34 a.1 a.2 h.1
    rw [eqL_same same_str] at this; exact this
  · unfold c2 lenOk at h; simp only [Bool.and_eq_true, decide_eq_true_eq] at h
    have := c35 a.1 a.2 h.1
    rw [eqL_same same_line] at this; exact this
  · unfold c2 lenOk at h; simp only [Bool.and_eq_true, decide_eq_true_eq] at h
    have := c36 a.1 a.2 h.1
    rw [eqL_same same_src] at this; exact this
  · unfold c2b lenOk at h; simp only [Bool.and_eq_true, decide_eq_true_eq] at h
    exact c37 a.1 a.2.1 h.2.1 h.2.2 h.1
theorem c13 (a b : SSta) (ha : okSta a = true) (hb : okSta b = true) : CX Try.prog 13 [aSta a, aSta b] [] (vB (same a b)) [] := by
  refine cx_of s13.ok Try.func13 b13 rfl ((ev13 _ _ _ _ _ _ _ _ a b 1).trans ?_)
  obtain ⟨a1, a2, a3, a4, a5⟩ := okSta_len ha
  obtain ⟨b1, b2, b3, b4, b5⟩ := okSta_len hb
  have i1 := en2_inj (aD_inj (listD_inj (sz := 1) (d0 := e0) busC_inj)) (aD_inj (listD_inj (sz := 1) (d0 := e0) busC_inj))
  have i2 := en2_inj (aD_inj (listD_inj (sz := 5) (d0 := line0) lineC_inj)) (aD_inj (listD_inj (sz := 5) (d0 := line0) lineC_inj))
  have i3 := en2_inj (aD_inj (listD_inj (sz := 6) (d0 := src0) srcC_inj)) (aD_inj (listD_inj (sz := 6) (d0 := src0) srcC_inj))
  have i4 := en3_inj (aD_inj (listD_inj (sz := 12) (d0 := bay0) bayC_inj)) (aD_inj (listD_inj (sz := 12) (d0 := bay0) bayC_inj)) (eFn_inj 38)
  have k1 := okG_enc i1 (c := c2) (a.buses, b.buses) (by unfold c2 lenOk; simp only [a1, b1, decide_true, Bool.and_self])
  have k2 := okG_enc i2 (c := c2) (a.lines, b.lines) (by unfold c2 lenOk; simp only [a2, b2, decide_true, Bool.and_self])
  have k3 := okG_enc i3 (c := c2) (a.srcs, b.srcs) (by unfold c2 lenOk; simp only [a3, b3, decide_true, Bool.and_self])
  have k4 := okG_enc i4 (c := c2b) (a.bays, b.bays, ()) (by unfold c2b lenOk; simp only [a4, a5, b5, decide_true, Bool.and_self])
  have t1 := theT_enc i1 (a.buses, b.buses)
  have t2 := theT_enc i2 (a.lines, b.lines)
  have t3 := theT_enc i3 (a.srcs, b.srcs)
  have t4 := theT_enc i4 (a.bays, b.bays, ())
  simp only [en2, en3, aD, eFn] at k1 k2 k3 k4 t1 t2 t3 t4
  simp only [en2, en3, aD, eFn, k1, k2, k3, k4, t1, t2, t3, t4, cond_true]
  rw [same_sta]
  simp only [bAnd]
end Go.Proofs.Ythmapnolgdpkbaa.st
namespace Go.Proofs.Ythmapnolgdpkbaa.st
open Go.RowKit Go.Eb

section
variable (a b : SSta) (g : Nat)
end
end Go.Proofs.Ythmapnolgdpkbaa.st
namespace Go.Proofs.Ythmapnolgdpkbaa.st
open Go.RowKit Go.Eb

/-! Large -/
def large (s : SSta) : Bool := decide (8 < s.buses.length) || (decide (10 < s.lines.length) || (decide (8 < s.srcs.length) || (decide (20 < s.bays.length) || s.bays.any fun b => decide (6 < b.links.length))))
theorem b7 : Try.f7.body = some (bodyOf Try.f7) := by kernel_rfl
theorem gtD (n k : Nat) : decide ((n : Int) > (k : Int)) = decide (k < n) := by
  by_cases h : k < n
  · rw [decide_eq_true h, decide_eq_true (by omega)]
  · rw [decide_eq_false h, decide_eq_false (by omega)]
theorem lp7 (s : SSta) (g : Nat) (hb : s.bays.length ≤ 9223372036854775807) : ∀ (m k : Nat), k ≤ s.bays.length → s.bays.length - k < m → L7 s g m k = lB ((s.bays.drop k).any fun b => decide (6 < b.links.length))
  | 0, k, _, h => by omega
  | m + 1, k, hk, h => by
    rw [st7]
    by_cases hlt : k < s.bays.length
    · have ih := lp7 s g hb m (k + 1) (by omega) (by omega)
      rw [drop_at' (d := bay0) hlt]
      have e6 : decide (((s.bays.getD k bay0).links.length : Int) > (6 : Int)) = decide (6 < (s.bays.getD k bay0).links.length) := gtD _ 6
      simp only [lt1 hlt, ge0, tn, tt, cond_true, nx hlt hb, ih, List.any_cons, e6]
      cases decide (6 < (s.bays.getD k bay0).links.length) <;> rfl
    · rw [lt0 hlt, List.drop_of_length_le (by omega)]
      rfl
theorem c7 (s : SSta) (hs : okSta s = true) : CX Try.prog 7 [aSta s] [] (vB (large s)) [] := by
  obtain ⟨a1, a2, a3, a4, a5⟩ := okSta_len hs
  obtain ⟨g, hg⟩ : ∃ g, s.bays.length < g := ⟨s.bays.length + 1, by omega⟩
  refine cx_of (Orc.nil_ok _) Try.func7 b7 rfl ((ev7 s g).trans ?_)
  have hl : L7 s g g 0 = lB (s.bays.any fun b => decide (6 < b.links.length)) := lp7 s g a4 g 0 (by omega) (by omega)
  have t8 : ∀ n : Nat, decide ((n : Int) > 8) = decide (8 < n) := fun n => gtD n 8
  have t10 : ∀ n : Nat, decide ((n : Int) > 10) = decide (10 < n) := fun n => gtD n 10
  have t20 : ∀ n : Nat, decide ((n : Int) > 20) = decide (20 < n) := fun n => gtD n 20
  rw [hl]
  simp only [t8, t10, t20]
  unfold large
  cases decide (8 < s.buses.length) <;> cases decide (10 < s.lines.length) <;> cases decide (8 < s.srcs.length) <;> cases decide (20 < s.bays.length) <;> rfl
end Go.Proofs.Ythmapnolgdpkbaa.st
namespace Go.Proofs.Ythmapnolgdpkbaa.st
open Go.RowKit Go.Eb

/-! diagrams -/
theorem shp_str {ds : List D} (h : Shp Try.prog 9 ds) : ∃ s, DEs ds (busC s) ∧ (fun _ => true) s = true := by
  obtain ⟨s, rfl, _⟩ := h.str_inv Try.underlying9
  exact ⟨s, .refl _, rfl⟩
theorem shp_imp {ds : List D} (h : Shp Try.prog 51 ds) : ∃ r x, ds = [dI r, dI x] := by
  obtain ⟨ps, rfl, hl, hp⟩ := h.struct_inv Try.underlying51
  match ps, hl with
  | [p0, p1], _ =>
    obtain ⟨r, rfl, _⟩ := (hp 0 _ p0 rfl rfl).int_inv Try.underlying3
    obtain ⟨x, rfl, _⟩ := (hp 1 _ p1 rfl rfl).int_inv Try.underlying3
    exact ⟨r, x, rfl⟩
theorem shp_line {ds : List D} (h : Shp Try.prog 58 ds) : ∃ x, DEs ds (lineC x) ∧ (fun _ => true) x = true := by
  obtain ⟨ps, rfl, hl, hp⟩ := h.struct_inv Try.underlying58
  match ps, hl with
  | [p0, p1, p2], _ =>
    obtain ⟨s, rfl, _⟩ := (hp 0 _ p0 rfl rfl).str_inv Try.underlying9
    obtain ⟨r1, x1, rfl⟩ := shp_imp (hp 1 _ p1 rfl rfl)
    obtain ⟨r0, x0, rfl⟩ := shp_imp (hp 2 _ p2 rfl rfl)
    exact ⟨⟨s, r1, x1, r0, x0⟩, .refl _, rfl⟩
theorem shp_src {ds : List D} (h : Shp Try.prog 61 ds) : ∃ x, DEs ds (srcC' x) ∧ (fun _ => true) x = true := by
  obtain ⟨ps, rfl, hl, hp⟩ := h.struct_inv Try.underlying61
  match ps, hl with
  | [p0, p1, p2, p3], _ =>
    obtain ⟨s, rfl, _⟩ := (hp 0 _ p0 rfl rfl).str_inv Try.underlying9
    obtain ⟨e, rfl, _⟩ := (hp 1 _ p1 rfl rfl).int_inv Try.underlying3
    obtain ⟨r1, x1, rfl⟩ := shp_imp (hp 2 _ p2 rfl rfl)
    obtain ⟨r0, x0, rfl⟩ := shp_imp (hp 3 _ p3 rfl rfl)
    exact ⟨⟨s, e, r1, x1, r0, x0⟩, .refl _, rfl⟩
theorem shp_link {ds : List D} (h : Shp Try.prog 108 ds) : ∃ x, DEs ds (linkC x) ∧ (fun _ => true) x = true := by
  obtain ⟨ps, rfl, hl, hp⟩ := h.struct_inv Try.underlying108
  match ps, hl with
  | [p0, p1], _ =>
    obtain ⟨r, rfl, _⟩ := (hp 0 _ p0 rfl rfl).int_inv Try.underlying3
    obtain ⟨x, rfl, _⟩ := (hp 1 _ p1 rfl rfl).int_inv (k := .i64) (by kernel_rfl)
    exact ⟨⟨r, x⟩, .refl _, rfl⟩
theorem shp_bay {ds : List D} (h : Shp Try.prog 54 ds) : ∃ x, DEs ds (bayC x) ∧ (fun x => lenOk x.links) x = true := by
  obtain ⟨ps, rfl, hl, hp⟩ := h.struct_inv Try.underlying54
  match ps, hl with
  | [p0, p1, p2, p3, p4, p5, p6, p7, p8, p9, p10], _ =>
    obtain ⟨s, rfl, _⟩ := (hp 0 _ p0 rfl rfl).str_inv Try.underlying9
    obtain ⟨k, rfl, _⟩ := (hp 1 _ p1 rfl rfl).int_inv (k := .i64) (by kernel_rfl)
    obtain ⟨o, rfl, _⟩ := (hp 2 _ p2 rfl rfl).int_inv Try.underlying3
    obtain ⟨e, rfl, _⟩ := (hp 3 _ p3 rfl rfl).int_inv Try.underlying3
    obtain ⟨r, x, rfl⟩ := shp_imp (hp 4 _ p4 rfl rfl)
    obtain ⟨d, l, rfl, hd, hn, _⟩ := shp_list (d0 := link0) Try.underlying52 (show Try.prog.cellsOf 108 = 2 by kernel_rfl) (fun ds => shp_link) (hp 5 _ p5 rfl rfl)
    obtain ⟨c, rfl⟩ := (hp 6 _ p6 rfl rfl).bool_inv Try.underlying4
    obtain ⟨n1, rfl, _⟩ := (hp 7 _ p7 rfl rfl).int_inv Try.underlying3
    obtain ⟨n2, rfl, _⟩ := (hp 8 _ p8 rfl rfl).int_inv Try.underlying3
    obtain ⟨n3, rfl, _⟩ := (hp 9 _ p9 rfl rfl).int_inv Try.underlying3
    obtain ⟨n4, rfl, _⟩ := (hp 10 _ p10 rfl rfl).int_inv Try.underlying3
    exact ⟨⟨s, k, o, e, r, x, l, c, n1, n2, n3, n4⟩, .cons (.refl _) (.cons (.refl _) (.cons (.refl _) (.cons (.refl _) (.cons (.refl _) (.cons (.refl _) (.cons hd (.refl _))))))), hn⟩
theorem shp_sta {ds : List D} (h : Shp Try.prog 27 ds) : ∃ x, DEs ds (staC x) ∧ okSta x = true := by
  obtain ⟨ps, rfl, hl, hp⟩ := h.struct_inv Try.underlying27
  match ps, hl with
  | [p0, p1, p2, p3, p4], _ =>
    obtain ⟨s, rfl, _⟩ := (hp 0 _ p0 rfl rfl).str_inv Try.underlying9
    obtain ⟨d1, l1, rfl, h1, n1, _⟩ := shp_list (d0 := e0) Try.underlying22 (show Try.prog.cellsOf 9 = 1 by kernel_rfl) (fun ds => shp_str) (hp 1 _ p1 rfl rfl)
    obtain ⟨d2, l2, rfl, h2, n2, _⟩ := shp_list (d0 := line0) Try.underlying23 (show Try.prog.cellsOf 58 = 5 by kernel_rfl) (fun ds => shp_line) (hp 2 _ p2 rfl rfl)
    obtain ⟨d3, l3, rfl, h3, n3, _⟩ := shp_list (d0 := src0) Try.underlying24 (show Try.prog.cellsOf 61 = 6 by kernel_rfl) (fun ds => shp_src) (hp 3 _ p3 rfl rfl)
    obtain ⟨d4, l4, rfl, h4, n4, a4⟩ := shp_list (d0 := bay0) Try.underlying25 (show Try.prog.cellsOf 54 = 12 by kernel_rfl) (fun ds => shp_bay) (hp 4 _ p4 rfl rfl)
    refine ⟨⟨s, l1, l2, l3, l4⟩, .cons (.refl _) (.cons h1 (.cons h2 (.cons h3 (.cons h4 .nil)))), ?_⟩
    unfold okSta
    simp only [n1, n2, n3, n4, a4, Bool.and_self]
end Go.Proofs.Ythmapnolgdpkbaa.st
