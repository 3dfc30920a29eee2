/-
  strings.Builder for the evaluator: a builder's memory, and answers for calls of its methods. No condition.
-/
import Derived.Test.YtkmmkdeoamhpfaaEb
namespace Go.Eb
open Go.RowKit

/-- a text's bytes as a row -/
def bF (s : ByteArray) : Nat → List D := fun i => bif Nat.blt i s.size then [.v (.int .u8 (s.data.toList.getD i 0).toNat)] else []

theorem bF_lt {s : ByteArray} {i : Nat} (h : i < s.size) : bF s i = [.v (.int .u8 (s.data.toList.getD i 0).toNat)] := by
  simp [bF, bltD, h]
theorem bF_ge {s : ByteArray} {i : Nat} (h : s.size ≤ i) : bF s i = [] := by
  have : ¬ i < s.size := by omega
  simp [bF, bltD, this]

theorem sizeL (s : ByteArray) : s.data.toList.length = s.size := by rfl
theorem toListA (a b : ByteArray) : (a ++ b).data.toList = a.data.toList ++ b.data.toList := by simp

theorem appF_bF (a b : ByteArray) : appF a.size (bF a) (bF b) = bF (a ++ b) := by
  funext j
  unfold appF
  by_cases h : j < a.size
  · have h2 : j < (a ++ b).size := by simp [ByteArray.size_append]; omega
    simp only [bltD, h, decide_true, cond_true]
    rw [bF_lt h, bF_lt h2, toListA, List.getD_eq_getElem?_getD, List.getD_eq_getElem?_getD, List.getElem?_append_left (by rw [sizeL]; exact h)]
  · simp only [bltD, h, decide_false, cond_false]
    by_cases h2 : j - a.size < b.size
    · have h3 : j < (a ++ b).size := by simp [ByteArray.size_append]; omega
      rw [bF_lt h2, bF_lt h3, toListA, List.getD_eq_getElem?_getD, List.getD_eq_getElem?_getD, List.getElem?_append_right (by rw [sizeL]; omega), sizeL]
    · rw [bF_ge (by omega), bF_ge (by simp [ByteArray.size_append]; omega)]

theorem byteC_u (b : UInt8) : byteC [.v (.int .u8 b.toNat)] = some b := by
  unfold byteC
  simp

theorem bytesOk_bF (b : ByteArray) : bytesOk b.size (bF b) = true := by
  unfold bytesOk
  rw [List.all_eq_true]
  intro i hi
  rw [bF_lt (by simpa using hi), byteC_u]
  rfl

theorem bytesS_bF (b : ByteArray) : bytesS b.size (bF b) = b := by
  apply ByteArray.ext
  unfold bytesS
  apply Array.ext'
  simp only
  apply List.ext_getElem?
  intro i
  by_cases h : i < b.size
  · rw [List.getElem?_map, List.getElem?_range h]
    simp only [Option.map_some]
    rw [bF_lt h, byteC_u]
    have : i < b.data.toList.length := h
    simp [List.getD_eq_getElem?_getD, List.getElem?_eq_getElem this]
  · rw [List.getElem?_eq_none (by simp; omega), List.getElem?_eq_none (by rw [sizeL]; omega)]

theorem bytesS_size (n : Nat) (f : Nat → List D) : (bytesS n f).size = n := by
  rw [← sizeL]
  simp [bytesS]

/-- a row of bytes is its text's row -/
theorem row_bF {n : Nat} {f : Nat → List D} (h : bytesOk n f = true) (t : TypeId) : Ble (.row n f 1 t) (.row (bytesS n f).size (bF (bytesS n f)) 1 t) := by
  refine ⟨(bytesS_size n f).symm, rfl, rfl, fun i hi => ?_⟩
  obtain ⟨b, h1, h2⟩ := bytesOk_get h hi
  rw [bF_lt (by rw [bytesS_size]; exact hi), h2]
  have : (bytesS n f).data.toList.getD i 0 = b := by
    simp [bytesS, List.getD_eq_getElem?_getD, hi, h1]
  rw [this]
  exact .refl _

/-- names for what a builder holds -/
structure BG where
  sz : ByteArray → Nat
  fn : ByteArray → Nat → List D
  of : Nat → (Nat → List D) → ByteArray
  ap : ByteArray → ByteArray → ByteArray
  ok : Nat → Nat → (Nat → List D) → ByteArray → Bool

def bMax : Nat := 140737488355328
/-- as it is -/
def bg : BG := ⟨ByteArray.size, bF, bytesS, fun a b => a ++ b, fun n m f s => Nat.beq m n && bytesOk n f && decide (n + s.size ≤ bMax)⟩

theorem bg_of (b : ByteArray) : bg.of (bg.sz b) (bg.fn b) = b := bytesS_bF b
theorem bg_ok (b s : ByteArray) (h : b.size + s.size ≤ bMax) : bg.ok (bg.sz b) (bg.sz b) (bg.fn b) s = true := by
  simp only [bg, bytesOk_bF, Bool.and_eq_true, decide_eq_true_eq]
  exact ⟨⟨by rw [beqD]; simp, trivial⟩, h⟩

/-- a builder's memory: fresh; with a text -/
abbrev HB0 (tb : TypeId) : Hp := [(0, .cells [.d (.v (.pointer none)), .d (.v (.slice none 0 0))] tb)]
abbrev HB (tb te : TypeId) (b : ByteArray) : Hp := [(0, .cells [.ptr 0 0, .row 1 1 b.size] tb), (1, .row b.size (bF b) 1 te)]
abbrev HG (G : BG) (tb te : TypeId) (b : ByteArray) : Hp := [(0, .cells [.ptr 0 0, .row 1 1 (G.sz b)] tb), (1, .row (G.sz b) (G.fn b) 1 te)]
/-- behind a write -/
abbrev HW (tb te : TypeId) (b : ByteArray) : Hp := [(0, .cells [.ptr 0 0, .row 2 1 b.size] tb), (1, .dead), (2, .row b.size (bF b) 1 te)]
abbrev HWG (G : BG) (tb te : TypeId) (b : ByteArray) : Hp := [(0, .cells [.ptr 0 0, .row 2 1 (G.sz b)] tb), (1, .dead), (2, .row (G.sz b) (G.fn b) 1 te)]
abbrev HBd (tb : TypeId) (n : Nat) : Hp := [(0, .cells [.ptr 0 0, .row 1 1 n] tb), (1, .dead)]

/-- one byte -/
def byte1 (n : Int) : Option ByteArray := match byteC [.v (.int .u8 n)] with | some b => some ⟨#[b]⟩ | none => none
def argS : AV → Option ByteArray
  | .c (.d (.v (.string s))) => some s
  | _ => none
def arg8 : AV → Option ByteArray
  | .c (.d (.v (.int .u8 n))) => byte1 n
  | _ => none

/-- the answer of a method that writes -/
def ansWr (z : Bool) (G : BG) (tb te : TypeId) (dec : AV → Option ByteArray) (r : ByteArray → AV) : (R : Type) → List AV → Hp → (AV → Hp → Option (T R)) → Option (T R) := fun _ args H k => match args with
  | [.c (.ptr 0 0), x] => (match dec x with
    | some s => (match H with
      | [(0, .cells [.d (.v (.pointer none)), .d (.v (.slice none 0 0))] t)] => bif z && Nat.beq t tb && G.ok 0 0 (fun _ => []) s then k (r s) (HG G tb te s) else none
      | [(0, .cells [.ptr 0 0, .row 1 1 n] t), (1, .row m f 1 t')] => bif Nat.beq t tb && Nat.beq t' te && G.ok n m f s then k (r s) (HWG G tb te (G.ap (G.of n f) s)) else none
      | _ => none)
    | none => none)
  | _ => none

theorem ansWr_ok {z : Bool} {P : Program} {f0 : FuncId} {tb te : TypeId} {dec : AV → Option ByteArray} {r : ByteArray → AV}
    (h0 : z = true → ∀ x s, dec x = some s → s.size ≤ bMax → CX P f0 [.c (.ptr 0 0), x] (HB0 tb) (r s) (HB tb te s))
    (h1 : ∀ x s b, dec x = some s → b.size + s.size ≤ bMax → CX P f0 [.c (.ptr 0 0), x] (HB tb te b) (r s) (HW tb te (b ++ s))) :
    ∀ (R : Type) args H (k : AV → Hp → Option (T R)) t, ansWr z bg tb te dec r R args H k = some t → ∃ x H', k x H' = some t ∧ CX P f0 args H x H' := fun R args H k t h => by
  unfold ansWr at h
  split at h
  · rename_i x
    split at h
    · rename_i s hs
      split at h
      · rename_i t'
        cases hc : (z && Nat.beq t' tb && bg.ok 0 0 (fun _ => []) s) with
        | false => rw [hc] at h; cases h
        | true =>
          rw [hc] at h
          simp only [Bool.and_eq_true] at hc
          have e := Nat.eq_of_beq_eq_true hc.1.2
          subst e
          refine ⟨_, _, h, h0 hc.1.1 x s hs ?_⟩
          have := hc.2
          simp only [bg, Bool.and_eq_true, decide_eq_true_eq] at this
          omega
      · rename_i n t' m f t''
        cases hc : (Nat.beq t' tb && Nat.beq t'' te && bg.ok n m f s) with
        | false => rw [hc] at h; cases h
        | true =>
          rw [hc] at h
          simp only [Bool.and_eq_true, bg, decide_eq_true_eq] at hc
          obtain ⟨⟨e1, e2⟩, ⟨e3, e4⟩, e5⟩ := hc
          have e1 := Nat.eq_of_beq_eq_true e1
          have e2 := Nat.eq_of_beq_eq_true e2
          have e3 := Nat.eq_of_beq_eq_true e3
          subst e1 e2 e3
          refine ⟨_, _, h, (h1 x s (bytesS m f) hs (by rw [bytesS_size]; exact e5)).ge (.refl _) (.cons ?_ (.cons (row_bF e4 _) .nil))⟩
          rw [bytesS_size]
          exact .refl _
      · simp at h
    · simp at h
  · simp at h

/-- the answer of String -/
def ansSt (G : BG) (tb te : TypeId) : (R : Type) → List AV → Hp → (AV → Hp → Option (T R)) → Option (T R) := fun _ args H k => match args with
  | [.c (.ptr 0 0)] => (match H with
      | [(0, .cells [.d (.v (.pointer none)), .d (.v (.slice none 0 0))] t)] => bif Nat.beq t tb then k (vS .empty) (HB0 tb) else none
      | [(0, .cells [.ptr 0 0, .row 1 1 n] t), (1, .row m f 1 t')] => bif Nat.beq t tb && Nat.beq t' te && G.ok n m f .empty && Nat.blt 0 n then k (vS (G.of n f)) (HBd tb n) else none
      | _ => none)
  | _ => none

theorem ansSt_ok {P : Program} {f0 : FuncId} {tb te : TypeId} (h0 : CX P f0 [.c (.ptr 0 0)] (HB0 tb) (vS .empty) (HB0 tb))
    (h1 : ∀ b : ByteArray, 0 < b.size → b.size ≤ bMax → CX P f0 [.c (.ptr 0 0)] (HB tb te b) (vS b) (HBd tb b.size)) :
    ∀ (R : Type) args H (k : AV → Hp → Option (T R)) t, ansSt bg tb te R args H k = some t → ∃ x H', k x H' = some t ∧ CX P f0 args H x H' := fun R args H k t h => by
  unfold ansSt at h
  split at h
  · split at h
    · rename_i t'
      cases hc : Nat.beq t' tb with
      | false => rw [hc] at h; cases h
      | true =>
        rw [hc] at h
        have e := Nat.eq_of_beq_eq_true hc
        subst e
        exact ⟨_, _, h, h0⟩
    · rename_i n t' m f t''
      cases hc : (Nat.beq t' tb && Nat.beq t'' te && bg.ok n m f .empty && Nat.blt 0 n) with
      | false => rw [hc] at h; cases h
      | true =>
        rw [hc] at h
        simp only [Bool.and_eq_true, bg, decide_eq_true_eq, bltD] at hc
        obtain ⟨⟨⟨e1, e2⟩, ⟨e3, e4⟩, e5⟩, e6⟩ := hc
        have e1 := Nat.eq_of_beq_eq_true e1
        have e2 := Nat.eq_of_beq_eq_true e2
        have e3 := Nat.eq_of_beq_eq_true e3
        subst e1 e2 e3
        have key := (h1 (bytesS m f) (by rw [bytesS_size]; exact e6) (by rw [bytesS_size]; omega)).ge (.refl _) (K := [(0, .cells [.ptr 0 0, .row 1 1 m] t'), (1, .row m f 1 t'')]) (.cons (by rw [bytesS_size]; exact .refl _) (.cons (row_bF e4 _) .nil))
        rw [bytesS_size] at key
        exact ⟨_, _, h, key⟩
    · simp at h
  · simp at h

/-- a function that hands its argument back -/
def ansId : (R : Type) → List AV → Hp → (AV → Hp → Option (T R)) → Option (T R) := fun _ args H k => match args with
  | [x] => k x H
  | _ => none

theorem ansId_ok {P : Program} {f0 : FuncId} {fn : Func} (hf : P.funcs[f0]? = some fn) (hname : (fn.name == "runtime.NumGoroutine") = false) (hb : fn.body.isNone = true) (hn : Extern.findNext fn = none) (he : Extern.find fn = some Extern.AbiNoEscape.same) :
    ∀ (R : Type) args H (k : AV → Hp → Option (T R)) t, ansId R args H k = some t → ∃ x H', k x H' = some t ∧ CX P f0 args H x H' := fun R args H k t h => by
  unfold ansId at h
  split at h
  · rename_i x
    refine ⟨_, _, h, ?_⟩
    unfold CX
    rw [hf]
    simp only [hb, if_true]
    intro β I w vs hr ha
    obtain ⟨v, rfl⟩ : ∃ v, vs = #[v] := by
      have := ha.1
      simp at this
      match vs, this with
      | ⟨[v]⟩, _ => exact ⟨v, rfl⟩
    refine ⟨v, w, β, I, ?_, hr, ha.2 0 x v rfl rfl, .refl _ _ _, .refl _⟩
    rw [run_callFunc_extern hf hname hb hn he, Lib.run_noEscape]
    rfl
  · simp at h

theorem chunk_bF (c : UInt8) : chunk [D.v (.int .u8 c.toNat)] 1 = bF ⟨#[c]⟩ := by
  funext i
  match i with
  | 0 => rfl
  | i + 1 => simp [chunk, bF, bltD, ByteArray.size]
theorem bF_eq (s : ByteArray) : (fun i => bif Nat.blt i s.size then [D.v (.int .u8 (s.data.toList.getD i 0).toNat)] else []) = bF s := rfl
theorem byte1_some {n : Int} {s : ByteArray} (h : byte1 n = some s) : ∃ c : UInt8, n = c.toNat ∧ s = ⟨#[c]⟩ := by
  unfold byte1 at h
  split at h
  · rename_i b hb
    simp at h
    simp only [byteC] at hb
    by_cases e : n = (n.toNat.toUInt8.toNat : Int)
    · rw [if_pos e] at hb
      simp only [Option.some.injEq] at hb
      rw [hb] at e
      exact ⟨b, e, h.symm⟩
    · rw [if_neg e] at hb; cases hb
  · cases h
end Go.Eb
