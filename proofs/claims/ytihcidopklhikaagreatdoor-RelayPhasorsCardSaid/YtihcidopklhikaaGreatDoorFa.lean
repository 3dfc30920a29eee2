/-
  An evaluator of Go code on abstract values, proved sound: what it computes is what every run of the model returns (closed calls, first part). No condition.
-/
import Derived.Test.YtihcidopklhikaaGreatDoorEb
import Derived.WalkKit
namespace Go.Ez
open Go.RowKit

/-- numbers by their digits, the lowest first -/
inductive Pa where
  | e
  | d0 (r : Pa)
  | d1 (r : Pa)
  | d2 (r : Pa)
  | d3 (r : Pa)
  deriving DecidableEq

namespace Pa
def num : Pa → Nat
  | .e => 0
  | .d0 r => 4 * num r
  | .d1 r => 4 * num r + 1
  | .d2 r => 4 * num r + 2
  | .d3 r => 4 * num r + 3
noncomputable def inc (p : Pa) : Pa :=
  Pa.rec (motive := fun _ => Pa) (.d1 .e) (fun r _ => .d1 r) (fun r _ => .d2 r) (fun r _ => .d3 r) (fun _ ih => .d0 ih) p
theorem num_inc (p : Pa) : (inc p).num = p.num + 1 := by
  induction p with
  | e => rfl
  | d3 r ih =>
    show (Pa.d0 (inc r)).num = _
    simp only [num, ih]; omega
  | _ => simp only [inc, num]
/-- n times -/
noncomputable def incs (n : Nat) (p : Pa) : Pa := Nat.rec (motive := fun _ => Pa) p (fun _ ih => inc ih) n
theorem num_incs (n : Nat) (p : Pa) : (incs n p).num = p.num + n := by
  induction n with
  | zero => rfl
  | succ n ih =>
    show (inc (incs n p)).num = _
    rw [num_inc, ih]; omega
/-- a number's digits -/
def ofN : Nat → Nat → Pa
  | 0, _ => .e
  | f + 1, n => match n with
    | 0 => .e
    | m + 1 => match (m + 1) % 4 with
      | 0 => .d0 (ofN f ((m + 1) / 4))
      | 1 => .d1 (ofN f ((m + 1) / 4))
      | 2 => .d2 (ofN f ((m + 1) / 4))
      | _ => .d3 (ofN f ((m + 1) / 4))
theorem num_ofN : ∀ (f n : Nat), n ≤ f → (ofN f n).num = n
  | 0, n, h => by obtain rfl : n = 0 := by omega
                  rfl
  | f + 1, 0, h => rfl
  | f + 1, m + 1, h => by
    have ih := num_ofN f ((m + 1) / 4) (by omega)
    have hlt : (m + 1) % 4 < 4 := Nat.mod_lt _ (by omega)
    simp only [ofN]
    split
    · rename_i h0; simp only [num, ih]; omega
    · rename_i h0; simp only [num, ih]; omega
    · rename_i h0; simp only [num, ih]; omega
    · rename_i h0 h1 h2; simp only [num, ih]
      have : (m + 1) % 4 ≠ 0 := fun e => h0 e
      have : (m + 1) % 4 ≠ 1 := fun e => h1 e
      have : (m + 1) % 4 ≠ 2 := fun e => h2 e
      omega
def of (n : Nat) : Pa := ofN n n
theorem num_of (n : Nat) : (of n).num = n := num_ofN n n (Nat.le_refl _)
theorem of_inj {i j : Nat} (h : of i = of j) : i = j := by
  have := congrArg num h
  rwa [num_of, num_of] at this
/-- equal -/
noncomputable def beq (p : Pa) : Pa → Bool :=
  Pa.rec (motive := fun _ => Pa → Bool)
    (fun q => Pa.rec (motive := fun _ => Bool) true (fun _ _ => false) (fun _ _ => false) (fun _ _ => false) (fun _ _ => false) q)
    (fun _ ih q => Pa.rec (motive := fun _ => Bool) false (fun s _ => ih s) (fun _ _ => false) (fun _ _ => false) (fun _ _ => false) q)
    (fun _ ih q => Pa.rec (motive := fun _ => Bool) false (fun _ _ => false) (fun s _ => ih s) (fun _ _ => false) (fun _ _ => false) q)
    (fun _ ih q => Pa.rec (motive := fun _ => Bool) false (fun _ _ => false) (fun _ _ => false) (fun s _ => ih s) (fun _ _ => false) q)
    (fun _ ih q => Pa.rec (motive := fun _ => Bool) false (fun _ _ => false) (fun _ _ => false) (fun _ _ => false) (fun s _ => ih s) q) p
theorem beq_iff (p : Pa) : ∀ q, beq p q = true ↔ p = q := by
  induction p with
  | e => intro q; cases q <;> simp [beq]
  | d0 r ih => intro q; cases q <;> first | (simp only [beq]; simp; done) | (show beq r _ = true ↔ _; rw [ih]; simp)
  | d1 r ih => intro q; cases q <;> first | (simp only [beq]; simp; done) | (show beq r _ = true ↔ _; rw [ih]; simp)
  | d2 r ih => intro q; cases q <;> first | (simp only [beq]; simp; done) | (show beq r _ = true ↔ _; rw [ih]; simp)
  | d3 r ih => intro q; cases q <;> first | (simp only [beq]; simp; done) | (show beq r _ = true ↔ _; rw [ih]; simp)
end Pa

/-- trees by such digits -/
inductive Tr (α : Type) where
  | e
  | n (x : Option α) (a b c d : Tr α)

namespace Tr
variable {α : Type}
def set (x : Option α) : Pa → Tr α → Tr α
  | .e, .e => .n x .e .e .e .e
  | .e, .n _ a b c d => .n x a b c d
  | .d0 r, .e => .n none (set x r .e) .e .e .e
  | .d0 r, .n y a b c d => .n y (set x r a) b c d
  | .d1 r, .e => .n none .e (set x r .e) .e .e
  | .d1 r, .n y a b c d => .n y a (set x r b) c d
  | .d2 r, .e => .n none .e .e (set x r .e) .e
  | .d2 r, .n y a b c d => .n y a b (set x r c) d
  | .d3 r, .e => .n none .e .e .e (set x r .e)
  | .d3 r, .n y a b c d => .n y a b c (set x r d)
noncomputable def get (p : Pa) : Tr α → Option α :=
  Pa.rec (motive := fun _ => Tr α → Option α)
    (fun t => Tr.rec (motive := fun _ => Option α) none (fun x _ _ _ _ _ _ _ _ => x) t)
    (fun _ ih t => Tr.rec (motive := fun _ => Option α) none (fun _ a _ _ _ _ _ _ _ => ih a) t)
    (fun _ ih t => Tr.rec (motive := fun _ => Option α) none (fun _ _ a _ _ _ _ _ _ => ih a) t)
    (fun _ ih t => Tr.rec (motive := fun _ => Option α) none (fun _ _ _ a _ _ _ _ _ => ih a) t)
    (fun _ ih t => Tr.rec (motive := fun _ => Option α) none (fun _ _ _ _ a _ _ _ _ => ih a) t) p
noncomputable def setK {R : Type} (x : Option α) (p : Pa) : Tr α → (Tr α → R) → R :=
  Pa.rec (motive := fun _ => Tr α → (Tr α → R) → R)
    (fun t => Tr.rec (motive := fun _ => (Tr α → R) → R) (fun k => k (.n x .e .e .e .e)) (fun _ a b c d _ _ _ _ k => k (.n x a b c d)) t)
    (fun _ ih t => Tr.rec (motive := fun _ => (Tr α → R) → R) (fun k => ih .e fun z => k (.n none z .e .e .e)) (fun y a b c d _ _ _ _ k => ih a fun z => k (.n y z b c d)) t)
    (fun _ ih t => Tr.rec (motive := fun _ => (Tr α → R) → R) (fun k => ih .e fun z => k (.n none .e z .e .e)) (fun y a b c d _ _ _ _ k => ih b fun z => k (.n y a z c d)) t)
    (fun _ ih t => Tr.rec (motive := fun _ => (Tr α → R) → R) (fun k => ih .e fun z => k (.n none .e .e z .e)) (fun y a b c d _ _ _ _ k => ih c fun z => k (.n y a b z d)) t)
    (fun _ ih t => Tr.rec (motive := fun _ => (Tr α → R) → R) (fun k => ih .e fun z => k (.n none .e .e .e z)) (fun y a b c d _ _ _ _ k => ih d fun z => k (.n y a b c z)) t) p
theorem setK_eq {R : Type} (x : Option α) (p : Pa) : ∀ (t : Tr α) (k : Tr α → R), setK x p t k = k (set x p t) := by
  induction p with
  | e => intro t k; cases t <;> rfl
  | d0 r ih => intro t k; cases t <;> exact ih _ _
  | d1 r ih => intro t k; cases t <;> exact ih _ _
  | d2 r ih => intro t k; cases t <;> exact ih _ _
  | d3 r ih => intro t k; cases t <;> exact ih _ _
theorem get_e (p : Pa) : get p (.e : Tr α) = none := by cases p <;> rfl
theorem get_set (x : Option α) (p : Pa) : ∀ (q : Pa) (t : Tr α), get q (set x p t) = if q = p then x else get q t := by
  induction p with
  | e => intro q t; cases t <;> cases q <;> first | rfl | (simp [get_e]; done) | (simp [set]; first | rfl | exact get_e _)
  | d0 r ih =>
    intro q t
    cases t <;> cases q <;> simp [set] <;> first | rfl | exact (ih _ _).trans (by simp [get_e]) | exact ih _ _ | exact get_e _
  | d1 r ih =>
    intro q t
    cases t <;> cases q <;> simp [set] <;> first | rfl | exact (ih _ _).trans (by simp [get_e]) | exact ih _ _ | exact get_e _
  | d2 r ih =>
    intro q t
    cases t <;> cases q <;> simp [set] <;> first | rfl | exact (ih _ _).trans (by simp [get_e]) | exact ih _ _ | exact get_e _
  | d3 r ih =>
    intro q t
    cases t <;> cases q <;> simp [set] <;> first | rfl | exact (ih _ _).trans (by simp [get_e]) | exact ih _ _ | exact get_e _
theorem get_set_self (x : Option α) (p : Pa) (t : Tr α) : get p (set x p t) = x := by rw [get_set, if_pos rfl]
theorem get_set_ne (x : Option α) {p q : Pa} (h : q ≠ p) (t : Tr α) : get q (set x p t) = get q t := by rw [get_set, if_neg h]
theorem set_comm (x y : Option α) (p : Pa) : ∀ (q : Pa) (t : Tr α), p ≠ q → set x p (set y q t) = set y q (set x p t) := by
  induction p with
  | e => intro q t h; cases q <;> first | exact absurd rfl h | (cases t <;> rfl)
  | d0 r ih => intro q t h; cases q <;> cases t <;> first | rfl | (simp only [set]; congr 1; exact ih _ _ (fun e => h (by rw [e])))
  | d1 r ih => intro q t h; cases q <;> cases t <;> first | rfl | (simp only [set]; congr 1; exact ih _ _ (fun e => h (by rw [e])))
  | d2 r ih => intro q t h; cases q <;> cases t <;> first | rfl | (simp only [set]; congr 1; exact ih _ _ (fun e => h (by rw [e])))
  | d3 r ih => intro q t h; cases q <;> cases t <;> first | rfl | (simp only [set]; congr 1; exact ih _ _ (fun e => h (by rw [e])))
end Tr

/-- eight -/
inductive N8 (α : Type) where
  | e
  | n (x0 x1 x2 x3 x4 x5 x6 x7 : α)

namespace N8
variable {α : Type} (z : α)
def pick : Nat → N8 α → α
  | _, .e => z
  | 0, .n x0 _ _ _ _ _ _ _ => x0
  | 1, .n _ x1 _ _ _ _ _ _ => x1
  | 2, .n _ _ x2 _ _ _ _ _ => x2
  | 3, .n _ _ _ x3 _ _ _ _ => x3
  | 4, .n _ _ _ _ x4 _ _ _ => x4
  | 5, .n _ _ _ _ _ x5 _ _ => x5
  | 6, .n _ _ _ _ _ _ x6 _ => x6
  | 7, .n _ _ _ _ _ _ _ x7 => x7
  | _, _ => z
def upd (y : α) : Nat → N8 α → N8 α
  | 0, .n _ x1 x2 x3 x4 x5 x6 x7 => .n y x1 x2 x3 x4 x5 x6 x7
  | 1, .n x0 _ x2 x3 x4 x5 x6 x7 => .n x0 y x2 x3 x4 x5 x6 x7
  | 2, .n x0 x1 _ x3 x4 x5 x6 x7 => .n x0 x1 y x3 x4 x5 x6 x7
  | 3, .n x0 x1 x2 _ x4 x5 x6 x7 => .n x0 x1 x2 y x4 x5 x6 x7
  | 4, .n x0 x1 x2 x3 _ x5 x6 x7 => .n x0 x1 x2 x3 y x5 x6 x7
  | 5, .n x0 x1 x2 x3 x4 _ x6 x7 => .n x0 x1 x2 x3 x4 y x6 x7
  | 6, .n x0 x1 x2 x3 x4 x5 _ x7 => .n x0 x1 x2 x3 x4 x5 y x7
  | 7, .n x0 x1 x2 x3 x4 x5 x6 _ => .n x0 x1 x2 x3 x4 x5 x6 y
  | 0, .e => .n y z z z z z z z
  | 1, .e => .n z y z z z z z z
  | 2, .e => .n z z y z z z z z
  | 3, .e => .n z z z y z z z z
  | 4, .e => .n z z z z y z z z
  | 5, .e => .n z z z z z y z z
  | 6, .e => .n z z z z z z y z
  | 7, .e => .n z z z z z z z y
  | _, t => t
theorem pick_upd (y : α) {i j : Nat} (hi : i < 8) (hj : j < 8) (t : N8 α) : pick z i (upd z y j t) = if i = j then y else pick z i t := by
  cases t <;> (
    match i, j, hi, hj with
    | 0, 0, _, _ => rfl
    | 0, 1, _, _ => rfl
    | 0, 2, _, _ => rfl
    | 0, 3, _, _ => rfl
    | 0, 4, _, _ => rfl
    | 0, 5, _, _ => rfl
    | 0, 6, _, _ => rfl
    | 0, 7, _, _ => rfl
    | 1, 0, _, _ => rfl
    | 1, 1, _, _ => rfl
    | 1, 2, _, _ => rfl
    | 1, 3, _, _ => rfl
    | 1, 4, _, _ => rfl
    | 1, 5, _, _ => rfl
    | 1, 6, _, _ => rfl
    | 1, 7, _, _ => rfl
    | 2, 0, _, _ => rfl
    | 2, 1, _, _ => rfl
    | 2, 2, _, _ => rfl
    | 2, 3, _, _ => rfl
    | 2, 4, _, _ => rfl
    | 2, 5, _, _ => rfl
    | 2, 6, _, _ => rfl
    | 2, 7, _, _ => rfl
    | 3, 0, _, _ => rfl
    | 3, 1, _, _ => rfl
    | 3, 2, _, _ => rfl
    | 3, 3, _, _ => rfl
    | 3, 4, _, _ => rfl
    | 3, 5, _, _ => rfl
    | 3, 6, _, _ => rfl
    | 3, 7, _, _ => rfl
    | 4, 0, _, _ => rfl
    | 4, 1, _, _ => rfl
    | 4, 2, _, _ => rfl
    | 4, 3, _, _ => rfl
    | 4, 4, _, _ => rfl
    | 4, 5, _, _ => rfl
    | 4, 6, _, _ => rfl
    | 4, 7, _, _ => rfl
    | 5, 0, _, _ => rfl
    | 5, 1, _, _ => rfl
    | 5, 2, _, _ => rfl
    | 5, 3, _, _ => rfl
    | 5, 4, _, _ => rfl
    | 5, 5, _, _ => rfl
    | 5, 6, _, _ => rfl
    | 5, 7, _, _ => rfl
    | 6, 0, _, _ => rfl
    | 6, 1, _, _ => rfl
    | 6, 2, _, _ => rfl
    | 6, 3, _, _ => rfl
    | 6, 4, _, _ => rfl
    | 6, 5, _, _ => rfl
    | 6, 6, _, _ => rfl
    | 6, 7, _, _ => rfl
    | 7, 0, _, _ => rfl
    | 7, 1, _, _ => rfl
    | 7, 2, _, _ => rfl
    | 7, 3, _, _ => rfl
    | 7, 4, _, _ => rfl
    | 7, 5, _, _ => rfl
    | 7, 6, _, _ => rfl
    | 7, 7, _, _ => rfl
    | i + 8, _, hi, _ => exact absurd hi (by omega)
    | _, j + 8, _, hj => exact absurd hj (by omega))
/-- what takes one of the eight, or puts it; made once for each place -/
inductive Gt (α β R : Type) where
  | mk (g : α → (β → R) → R)
inductive Pt (α β R : Type) where
  | mk (g : β → α → (α → R) → R)
variable {γ R : Type}
noncomputable def getC (g : α → (γ → R) → R) : Nat → Gt (N8 α) γ R
  | 0 => .mk fun t k => N8.rec (motive := fun _ => R) (g z k) (fun x _ _ _ _ _ _ _ => g x k) t
  | 1 => .mk fun t k => N8.rec (motive := fun _ => R) (g z k) (fun _ x _ _ _ _ _ _ => g x k) t
  | 2 => .mk fun t k => N8.rec (motive := fun _ => R) (g z k) (fun _ _ x _ _ _ _ _ => g x k) t
  | 3 => .mk fun t k => N8.rec (motive := fun _ => R) (g z k) (fun _ _ _ x _ _ _ _ => g x k) t
  | 4 => .mk fun t k => N8.rec (motive := fun _ => R) (g z k) (fun _ _ _ _ x _ _ _ => g x k) t
  | 5 => .mk fun t k => N8.rec (motive := fun _ => R) (g z k) (fun _ _ _ _ _ x _ _ => g x k) t
  | 6 => .mk fun t k => N8.rec (motive := fun _ => R) (g z k) (fun _ _ _ _ _ _ x _ => g x k) t
  | 7 => .mk fun t k => N8.rec (motive := fun _ => R) (g z k) (fun _ _ _ _ _ _ _ x => g x k) t
  | _ => .mk fun _ k => g z k
noncomputable def putC (g : γ → α → (α → R) → R) : Nat → Pt (N8 α) γ R
  | 0 => .mk fun y t k => N8.rec (motive := fun _ => R) (g y z fun x => k (.n x z z z z z z z)) (fun x0 x1 x2 x3 x4 x5 x6 x7 => g y x0 fun x => k (.n x x1 x2 x3 x4 x5 x6 x7)) t
  | 1 => .mk fun y t k => N8.rec (motive := fun _ => R) (g y z fun x => k (.n z x z z z z z z)) (fun x0 x1 x2 x3 x4 x5 x6 x7 => g y x1 fun x => k (.n x0 x x2 x3 x4 x5 x6 x7)) t
  | 2 => .mk fun y t k => N8.rec (motive := fun _ => R) (g y z fun x => k (.n z z x z z z z z)) (fun x0 x1 x2 x3 x4 x5 x6 x7 => g y x2 fun x => k (.n x0 x1 x x3 x4 x5 x6 x7)) t
  | 3 => .mk fun y t k => N8.rec (motive := fun _ => R) (g y z fun x => k (.n z z z x z z z z)) (fun x0 x1 x2 x3 x4 x5 x6 x7 => g y x3 fun x => k (.n x0 x1 x2 x x4 x5 x6 x7)) t
  | 4 => .mk fun y t k => N8.rec (motive := fun _ => R) (g y z fun x => k (.n z z z z x z z z)) (fun x0 x1 x2 x3 x4 x5 x6 x7 => g y x4 fun x => k (.n x0 x1 x2 x3 x x5 x6 x7)) t
  | 5 => .mk fun y t k => N8.rec (motive := fun _ => R) (g y z fun x => k (.n z z z z z x z z)) (fun x0 x1 x2 x3 x4 x5 x6 x7 => g y x5 fun x => k (.n x0 x1 x2 x3 x4 x x6 x7)) t
  | 6 => .mk fun y t k => N8.rec (motive := fun _ => R) (g y z fun x => k (.n z z z z z z x z)) (fun x0 x1 x2 x3 x4 x5 x6 x7 => g y x6 fun x => k (.n x0 x1 x2 x3 x4 x5 x x7)) t
  | 7 => .mk fun y t k => N8.rec (motive := fun _ => R) (g y z fun x => k (.n z z z z z z z x)) (fun x0 x1 x2 x3 x4 x5 x6 x7 => g y x7 fun x => k (.n x0 x1 x2 x3 x4 x5 x6 x)) t
  | _ => .mk fun _ t k => k t
theorem getC_ok (g : α → (γ → R) → R) (i : Nat) : ∃ f, getC z g i = .mk f ∧ ∀ t k, f t k = g (pick z i t) k := by
  match i with
  | 0 => exact ⟨_, rfl, fun t k => by cases t <;> rfl⟩
  | 1 => exact ⟨_, rfl, fun t k => by cases t <;> rfl⟩
  | 2 => exact ⟨_, rfl, fun t k => by cases t <;> rfl⟩
  | 3 => exact ⟨_, rfl, fun t k => by cases t <;> rfl⟩
  | 4 => exact ⟨_, rfl, fun t k => by cases t <;> rfl⟩
  | 5 => exact ⟨_, rfl, fun t k => by cases t <;> rfl⟩
  | 6 => exact ⟨_, rfl, fun t k => by cases t <;> rfl⟩
  | 7 => exact ⟨_, rfl, fun t k => by cases t <;> rfl⟩
  | i + 8 => exact ⟨_, rfl, fun t k => by cases t <;> rfl⟩
theorem putC_ok (g : γ → α → (α → R) → R) {i : Nat} (hi : i < 8) : ∃ f, putC z g i = .mk f ∧ ∀ y t k, f y t k = g y (pick z i t) fun x => k (upd z x i t) := by
  match i, hi with
  | 0, _ => exact ⟨_, rfl, fun y t k => by cases t <;> rfl⟩
  | 1, _ => exact ⟨_, rfl, fun y t k => by cases t <;> rfl⟩
  | 2, _ => exact ⟨_, rfl, fun y t k => by cases t <;> rfl⟩
  | 3, _ => exact ⟨_, rfl, fun y t k => by cases t <;> rfl⟩
  | 4, _ => exact ⟨_, rfl, fun y t k => by cases t <;> rfl⟩
  | 5, _ => exact ⟨_, rfl, fun y t k => by cases t <;> rfl⟩
  | 6, _ => exact ⟨_, rfl, fun y t k => by cases t <;> rfl⟩
  | 7, _ => exact ⟨_, rfl, fun y t k => by cases t <;> rfl⟩
  | i + 8, hi => exact absurd hi (by omega)
end N8

/-- a text's bytes, the first lowest -/
def bytesN (len n : Nat) : ByteArray := ⟨((List.range len).map fun i => UInt8.ofNat (n >>> (8 * i))).toArray⟩

/-- what a closure holds -/
inductive Cp where
  | v (x : Value)
  | p (h : Pa) (off : Nat)
/-- a plain value; a text; a closure; a map; anything -/
inductive C0 where
  | v (x : Value)
  | t (len n : Nat)
  | f (fn : FuncId) (first caps : List Cp)
  | m (h : Pa)
  | w (k : IntKind) (n : Nat)
/-- one cell: an int, from the lowest on; a bool; a pointer; a slice that is not nil (its element's number of cells; its capacity, if known); else -/
inductive CV where
  | i (n : Nat)
  | b (x : Bool)
  | p (h : Pa) (off : Nat)
  | s (h : Pa) (off sz len : Nat) (cap : Option Nat)
  | o (x : C0)

inductive TV where
  | c (x : CV)
  | a (cs : List CV)
  | u
inductive AV where
  | c (x : CV)
  | a (cs : List CV)
  | tup (ps : List TV)
  | u
def TV.av : TV → AV
  | .c x => .c x
  | .a cs => .a cs
  | .u => .u

inductive Bk where
  | cells (ro : Bool) (t : TypeId) (sz : Nat) (rows : List (List CV))
  | it (len n pos : Nat)
  | mp (kd : Nat) (l : List (Value × Value))

abbrev Hz := Tr Bk
abbrev Fz := N8 (N8 (N8 AV))

def half : Nat := 9223372036854775808
def full : Nat := 18446744073709551616

/-- where a name's block lies, and its number of cells -/
abbrev Bz := Pa → Option (Nat × Nat)

def RepPt (β : Bz) (h : Pa) (off : Nat) (v : Value) : Prop := ∃ b N, β h = some (b, N) ∧ v = .pointer (some ⟨b, off, none⟩)
def RepCp (β : Bz) : Cp → Value → Prop
  | .v x, v => v = x
  | .p h off, v => RepPt β h off v
def RepCps (β : Bz) (cs : List Cp) (vs : List Value) : Prop := cs.length = vs.length ∧ ∀ (i : Nat) c v, cs[i]? = some c → vs[i]? = some v → RepCp β c v
def Rep0 (β : Bz) : C0 → Value → Prop
  | .v x, v => v = x ∧ x.oneCell' = true
  | .t len n, v => v = .string (bytesN len n) ∧ n < 256 ^ len
  | .f fn first caps, v => ∃ fs cs, v = .func (.func fn) fs cs ∧ RepCps β first fs.toList ∧ RepCps β caps cs.toList
  | .m h, v => ∃ b N, β h = some (b, N) ∧ v = .map (some b)
  | .w k n, v => v = .int k (n : Int) ∧ n < 2 ^ k.bits ∧ k.signed = false
def Rep (β : Bz) : CV → Value → Prop
  | .i n, v => n < full ∧ v = .int .i64 ((n : Int) - half)
  | .b x, v => v = .bool x
  | .p h off, v => RepPt β h off v
  | .s h off sz len oc, v => ∃ b N cap, β h = some (b, N) ∧ v = .slice (some ⟨b, off, none⟩) len cap ∧ len ≤ cap ∧ (∀ c, oc = some c → cap = c) ∧ (oc = none → off + cap * sz = N)
  | .o x, v => Rep0 β x v

def Le (β β' : Bz) : Prop := ∀ p x, β p = some x → β' p = some x
theorem Le.refl (β : Bz) : Le β β := fun _ _ h => h
theorem Le.trans {β β₁ β₂ : Bz} (h : Le β β₁) (k : Le β₁ β₂) : Le β β₂ := fun p x e => k p x (h p x e)

section
variable {β β' : Bz}
theorem RepPt.le (hm : Le β β') {h : Pa} {off : Nat} {v : Value} (k : RepPt β h off v) : RepPt β' h off v := by
  obtain ⟨b, N, hb, e⟩ := k; exact ⟨b, N, hm _ _ hb, e⟩
theorem RepCps.le (hm : Le β β') {cs : List Cp} {vs : List Value} (k : RepCps β cs vs) : RepCps β' cs vs := ⟨k.1, fun i c v h1 h2 => by
  have := k.2 i c v h1 h2
  cases c with
  | v x => exact this
  | p h off => exact RepPt.le hm this⟩
theorem Rep.le (hm : Le β β') {c : CV} {v : Value} (h : Rep β c v) : Rep β' c v := by
  cases c with
  | i n => exact h
  | b x => exact h
  | p h' off => exact RepPt.le hm h
  | s h' off sz len oc => obtain ⟨b, N, cap, h1, h2⟩ := h; exact ⟨b, N, cap, hm _ _ h1, h2⟩
  | o x =>
    cases x with
    | v x => exact h
    | t l n => exact h
    | f fn first caps => obtain ⟨fs, cs, e, h1, h2⟩ := h; exact ⟨fs, cs, e, h1.le hm, h2.le hm⟩
    | m h' => obtain ⟨b, N, h1, h2⟩ := h; exact ⟨b, N, hm _ _ h1, h2⟩
    | w k n => exact h
theorem Rep.one {c : CV} {v : Value} (h : Rep β c v) : v.oneCell' = true := by
  cases c with
  | i n => rw [h.2]; rfl
  | b x => rw [show v = .bool x from h]; rfl
  | p h' off => obtain ⟨b, N, _, e⟩ := h; rw [e]; rfl
  | s h' off sz len oc => obtain ⟨b, N, cap, _, e, _⟩ := h; rw [e]; rfl
  | o x =>
    cases x with
    | v x => rw [h.1]; exact h.2
    | t l n => rw [h.1]; rfl
    | f fn first caps => obtain ⟨fs, cs, e, _⟩ := h; rw [e]; rfl
    | m h' => obtain ⟨b, N, _, e⟩ := h; rw [e]; rfl
    | w k n => rw [h.1]; rfl

def RepL (β : Bz) (cs : List CV) (vs : List Value) : Prop := cs.length = vs.length ∧ ∀ (i : Nat) c v, cs[i]? = some c → vs[i]? = some v → Rep β c v
theorem RepL.le (hm : Le β β') {cs : List CV} {vs : List Value} (h : RepL β cs vs) : RepL β' cs vs := ⟨h.1, fun i c v h1 h2 => (h.2 i c v h1 h2).le hm⟩

/-- values: cells, or the cells of a struct or an array -/
def RepV (β : Bz) : TV → Value → Prop
  | .c x, v => Rep β x v
  | .a cs, v => ∃ vs, v = .agg vs ∧ RepL β cs vs.toList
  | .u, _ => True
def RepA (β : Bz) : AV → Value → Prop
  | .c x, v => Rep β x v
  | .a cs, v => ∃ vs, v = .agg vs ∧ RepL β cs vs.toList
  | .tup ps, v => ∃ vs, v = .tuple vs ∧ ps.length = vs.size ∧ ∀ (i : Nat) p x, ps[i]? = some p → vs[i]? = some x → RepV β p x
  | .u, _ => True
theorem RepV.av {x : TV} {v : Value} (h : RepV β x v) : RepA β x.av v := by cases x <;> exact h
theorem RepV.le (hm : Le β β') {x : TV} {v : Value} (h : RepV β x v) : RepV β' x v := by
  cases x with
  | c x => exact Rep.le hm h
  | a cs => obtain ⟨vs, e, h⟩ := h; exact ⟨vs, e, h.le hm⟩
  | u => trivial
theorem RepA.le (hm : Le β β') {x : AV} {v : Value} (h : RepA β x v) : RepA β' x v := by
  cases x with
  | tup ps => obtain ⟨vs, e, hl, h⟩ := h; exact ⟨vs, e, hl, fun i p x h1 h2 => (h i p x h1 h2).le hm⟩
  | c x => exact Rep.le hm h
  | a cs => obtain ⟨vs, e, h⟩ := h; exact ⟨vs, e, h.le hm⟩
  | u => trivial

/-- a frame -/
def slot (t : Nat) (fr : Fz) : AV := N8.pick .u (t % 8) (N8.pick .e (t / 8 % 8) (N8.pick .e (t / 64) fr))
def setSlot (t : Nat) (x : AV) (fr : Fz) : Fz := N8.upd .e (N8.upd .e (N8.upd .u x (t % 8) (N8.pick .e (t / 8 % 8) (N8.pick .e (t / 64) fr))) (t / 8 % 8) (N8.pick .e (t / 64) fr)) (t / 64) fr
theorem slot_set {t s : Nat} (ht : t < 512) (hs : s < 512) (x : AV) (fr : Fz) : slot t (setSlot s x fr) = if t = s then x else slot t fr := by
  unfold slot setSlot
  rw [N8.pick_upd _ _ (by omega : t / 64 < 8) (by omega : s / 64 < 8)]
  by_cases h1 : t / 64 = s / 64
  · rw [if_pos h1, N8.pick_upd _ _ (by omega : t / 8 % 8 < 8) (by omega : s / 8 % 8 < 8)]
    by_cases h2 : t / 8 % 8 = s / 8 % 8
    · rw [if_pos h2, N8.pick_upd _ _ (by omega : t % 8 < 8) (by omega : s % 8 < 8)]
      by_cases h3 : t % 8 = s % 8
      · rw [if_pos h3, if_pos (by omega)]
      · rw [if_neg h3, if_neg (fun e => h3 (by rw [e])), h1, h2]
    · rw [if_neg h2, if_neg (fun e => h2 (by rw [e])), h1]
  · rw [if_neg h1, if_neg (fun e => h1 (by rw [e]))]

def RepF (β : Bz) (fr : Fz) (vs : Array Value) : Prop :=  vs.size ≤ 512 ∧ ∀ (i : Nat) v, vs[i]? = some v → RepA β (slot i fr) v
theorem RepF.le (hm : Le β β') {fr : Fz} {vs : Array Value} (h : RepF β fr vs) : RepF β' fr vs := ⟨h.1, fun i v h2 => (h.2 i v h2).le hm⟩
end

/-- how a slot is read and written -/
noncomputable def slotC (R : Type) (t : Nat) : N8.Gt Fz AV R :=
  match N8.getC (α := AV) (R := R) .u (fun x k => k x) (t % 8) with
  | .mk f1 => match N8.getC (R := R) .e f1 (t / 8 % 8) with
    | .mk f2 => N8.getC (R := R) .e f2 (t / 64)
noncomputable def setC (R : Type) (t : Nat) : N8.Pt Fz AV R :=
  match N8.putC (α := AV) (R := R) .u (fun y _ k => k y) (t % 8) with
  | .mk f1 => match N8.putC (R := R) .e f1 (t / 8 % 8) with
    | .mk f2 => N8.putC (R := R) .e f2 (t / 64)
theorem slotC_ok (R : Type) (t : Nat) : ∃ f, slotC R t = .mk f ∧ ∀ fr k, f fr k = k (slot t fr) := by
  obtain ⟨f1, e1, h1⟩ := N8.getC_ok (α := AV) (R := R) .u (fun x k => k x) (t % 8)
  obtain ⟨f2, e2, h2⟩ := N8.getC_ok (R := R) .e f1 (t / 8 % 8)
  obtain ⟨f3, e3, h3⟩ := N8.getC_ok (R := R) .e f2 (t / 64)
  refine ⟨f3, by unfold slotC; rw [e1]; simp only; rw [e2]; simp only; exact e3, fun fr k => ?_⟩
  rw [h3, h2, h1]; rfl
theorem setC_ok (R : Type) {t : Nat} (ht : t < 512) : ∃ f, setC R t = .mk f ∧ ∀ x fr k, f x fr k = k (setSlot t x fr) := by
  obtain ⟨f1, e1, h1⟩ := N8.putC_ok (α := AV) (R := R) .u (fun y _ k => k y) (by omega : t % 8 < 8)
  obtain ⟨f2, e2, h2⟩ := N8.putC_ok (R := R) .e f1 (by omega : t / 8 % 8 < 8)
  obtain ⟨f3, e3, h3⟩ := N8.putC_ok (R := R) .e f2 (by omega : t / 64 < 8)
  refine ⟨f3, by unfold setC; rw [e1]; simp only; rw [e2]; simp only; exact e3, fun x fr k => ?_⟩
  rw [h3, h2, h1]; rfl

end Go.Ez
namespace Go.Ez
open Go.RowKit

def Bk.ro : Bk → Bool
  | .cells ro _ _ _ => ro
  | _ => false

def RepB (β : Bz) (w : World) (p : Pa) : Bk → Prop
  | .cells ro t sz rows => ∃ (b N : Nat) (vs : Array Value) (fz : TypeId × Nat × Nat), β p = some (b, N) ∧ w.heap[b]? = some (.cells vs fz.1 fz.2) ∧ (ro = false → fz = (t, 0, 0)) ∧ vs.size = N ∧ rows.length * sz ≤ N ∧ 
      ∀ (i : Nat) r, rows[i]? = some r → r.length = sz ∧ ∀ (j : Nat) c v, r[j]? = some c → vs[i * sz + j]? = some v → Rep β c v
  | .it len n pos => ∃ b N, β p = some (b, N) ∧ w.heap[b]? = some (.stringIter (bytesN len n) pos)
  | .mp kd l => ∃ b N es clock, β p = some (b, N) ∧ w.heap[b]? = some (.map es clock) ∧ Go.Eb.RepM kd l es.toList

structure Rel (β : Bz) (H : Hz) (F : Pa → Prop) (w : World) : Prop where
  fresh : ∀ p : Pa, F p → β p = none
  lt : ∀ p b N, β p = some (b, N) → b < w.heap.size
  blk : ∀ p B, H.get p = some B → RepB β w p B
  inj : ∀ p q b N N', H.get p ≠ none → H.get q ≠ none → β p = some (b, N) → β q = some (b, N') → p = q

/-- a block that may be written -/
def Wr (H : Hz) (p : Pa) : Prop := ∃ B, H.get p = some B ∧ B.ro = false

structure Ext (β : Bz) (H : Hz) (w : World) (β' : Bz) (H' : Hz) (w' : World) : Prop where
  os : w'.os = w.os
  tape : w'.tape = w.tape
  output : w'.output = w.output
  size : w.heap.size ≤ w'.heap.size
  le : Le β β'
  old : ∀ b, b < w.heap.size → (∀ p N, Wr H p → β p ≠ some (b, N)) → w'.heap[b]? = w.heap[b]?
  new : ∀ p b N, Wr H' p → β' p = some (b, N) → (∃ q N', Wr H q ∧ β q = some (b, N')) ∨ w.heap.size ≤ b
  live : ∀ p b N, H'.get p ≠ none → β' p = some (b, N) → (∃ q N', H.get q ≠ none ∧ β q = some (b, N')) ∨ w.heap.size ≤ b
  dom : ∀ p, H'.get p ≠ none → H.get p ≠ none ∨ β p = none
  kept : ∀ p B, H.get p = some B → B.ro = true → H'.get p = some B

theorem Ext.refl (β : Bz) (H : Hz) (w : World) : Ext β H w β H w :=
  ⟨rfl, rfl, rfl, Nat.le_refl _, .refl _, fun _ _ _ => rfl, fun p b N hp hb => .inl ⟨p, N, hp, hb⟩, fun p b N hp hb => .inl ⟨p, N, hp, hb⟩, fun p hp => .inl hp, fun _ _ h _ => h⟩

theorem Ext.trans {β β₁ β₂ : Bz} {H H₁ H₂ : Hz} {w w₁ w₂ : World} (h : Ext β H w β₁ H₁ w₁) (k : Ext β₁ H₁ w₁ β₂ H₂ w₂) : Ext β H w β₂ H₂ w₂ where
  os := k.os.trans h.os
  tape := k.tape.trans h.tape
  output := k.output.trans h.output
  size := Nat.le_trans h.size k.size
  le := h.le.trans k.le
  old b hb hn := by
    rw [k.old b (Nat.lt_of_lt_of_le hb h.size) (fun p N hp hb' => ?_), h.old b hb hn]
    rcases h.new p b N hp hb' with ⟨q, N', hq, hbq⟩ | hle
    · exact hn q N' hq hbq
    · omega
  new p b N hp hb := by
    rcases k.new p b N hp hb with ⟨q, N', hq, hbq⟩ | hle
    · exact h.new q b N' hq hbq
    · exact .inr (Nat.le_trans h.size hle)
  live p b N hp hb := by
    rcases k.live p b N hp hb with ⟨q, N', hq, hbq⟩ | hle
    · exact h.live q b N' hq hbq
    · exact .inr (Nat.le_trans h.size hle)
  dom p hp := by
    rcases k.dom p hp with h1 | h1
    · exact h.dom p h1
    · refine .inr ?_
      cases hb : β p with
      | none => rfl
      | some x => rw [h.le p x hb] at h1; cases h1
  kept p B h1 h2 := k.kept p B (h.kept p B h1 h2) h2

/-- a name more -/
def ext1 (β : Bz) (p : Pa) (x : Nat × Nat) : Bz := fun q => if q = p then some x else β q
theorem ext1_self (β : Bz) (p : Pa) (x : Nat × Nat) : ext1 β p x p = some x := by simp [ext1]
theorem ext1_ne (β : Bz) {p q : Pa} (x : Nat × Nat) (h : q ≠ p) : ext1 β p x q = β q := by simp [ext1, h]
theorem Le.ext1 {β : Bz} {p : Pa} (h : β p = none) (x : Nat × Nat) : Le β (ext1 β p x) := fun q y hq => by
  by_cases e : q = p
  · subst e; rw [h] at hq; cases hq
  · rw [ext1_ne _ _ e]; exact hq

theorem RepB.le {β β' : Bz} (hm : Le β β') {w w' : World} {p : Pa} {B : Bk} (hw : ∀ b N, β p = some (b, N) → w'.heap[b]? = w.heap[b]?) (h : RepB β w p B) : RepB β' w' p B := by
  cases B with
  | cells ro t sz rows =>
    obtain ⟨b, N, vs, fz, h1, h2, h0, h3, h4, h5⟩ := h
    exact ⟨b, N, vs, fz, hm _ _ h1, (hw b N h1).trans h2, h0, h3, h4, fun i r hr => ⟨(h5 i r hr).1, fun j c v hc hv => ((h5 i r hr).2 j c v hc hv).le hm⟩⟩
  | it len n pos =>
    obtain ⟨b, N, h1, h2⟩ := h
    exact ⟨b, N, hm _ _ h1, (hw b N h1).trans h2⟩
  | mp kd l =>
    obtain ⟨b, N, es, clock, h1, h2, h3⟩ := h
    exact ⟨b, N, es, clock, hm _ _ h1, (hw b N h1).trans h2, h3⟩

theorem RepB.some {β : Bz} {w : World} {p : Pa} {B : Bk} (h : RepB β w p B) : ∃ b N, β p = some (b, N) := by
  cases B with
  | cells ro t sz rows => obtain ⟨b, N, _, _, h1, _⟩ := h; exact ⟨b, N, h1⟩
  | it len n pos => obtain ⟨b, N, h1, _⟩ := h; exact ⟨b, N, h1⟩
  | mp kd l => obtain ⟨b, N, _, _, h1, _⟩ := h; exact ⟨b, N, h1⟩

theorem Rel.live {β : Bz} {H : Hz} {F : Pa → Prop} {w : World} (h : Rel β H F w) {p : Pa} (hp : H.get p ≠ none) : ∃ b N, β p = some (b, N) := by
  cases hB : H.get p with
  | none => exact absurd hB hp
  | some B => exact (h.blk p B hB).some

theorem heap_new (w : World) (o : Obj) : (w.alloc o).heap[w.heap.size]? = some o := Go.Eb.heap_new w o
theorem heap_alloc (w : World) (o : Obj) {b : Nat} (h : b < w.heap.size) : (w.alloc o).heap[b]? = w.heap[b]? := Below.heap_alloc _ _ _ h
theorem size_alloc (w : World) (o : Obj) : (w.alloc o).heap.size = w.heap.size + 1 := by simp

/-- a new block -/
theorem Rel.new {β : Bz} {H : Hz} {F : Pa → Prop} {nx : Pa} {w : World} (h : Rel β H F w) (hF : F nx) (o : Obj) (N : Nat) {B : Bk} (hB : RepB (ext1 β nx (w.heap.size, N)) (w.alloc o) nx B) (hro : B.ro = false) :
    Rel (ext1 β nx (w.heap.size, N)) (H.set (some B) nx) (fun p => F p ∧ p ≠ nx) (w.alloc o) ∧ Ext β H w (ext1 β nx (w.heap.size, N)) (H.set (some B) nx) (w.alloc o) := by
  have hnx : β nx = none := h.fresh nx hF
  have hle := Le.ext1 hnx (w.heap.size, N)
  have hlive : ∀ p, H.get p ≠ none → p ≠ nx := fun p hp e => by
    obtain ⟨b, M, hb⟩ := h.live hp
    rw [e, hnx] at hb; cases hb
  refine ⟨⟨fun p hp => ?_, fun p b M hb => ?_, fun p B' hp => ?_, fun p q b M M' hp hq hb hb' => ?_⟩, ⟨rfl, rfl, rfl, by rw [size_alloc]; omega, hle, fun b hb _ => heap_alloc w o hb, fun p b M hp hb => ?_, fun p b M hp hb => ?_, fun p hp => ?_, fun p B' hp hr => ?_⟩⟩
  · rw [ext1_ne _ _ hp.2]
    exact h.fresh p hp.1
  · rw [size_alloc]
    by_cases e : p = nx
    · subst e; rw [ext1_self] at hb; cases hb; omega
    · rw [ext1_ne _ _ e] at hb; have := h.lt p b M hb; omega
  · rw [Tr.get_set] at hp
    by_cases e : p = nx
    · subst e; rw [if_pos rfl] at hp; cases hp; exact hB
    · rw [if_neg e] at hp
      exact (h.blk p B' hp).le hle fun b M hb => heap_alloc w o (h.lt p b M hb)
  · rw [Tr.get_set] at hp hq
    by_cases e : p = nx <;> by_cases e' : q = nx
    · rw [e, e']
    · rw [if_neg e'] at hq
      subst e
      rw [ext1_self] at hb; rw [ext1_ne _ _ e'] at hb'
      cases hb
      have := h.lt q _ _ hb'; omega
    · rw [if_neg e] at hp
      subst e'
      rw [ext1_self] at hb'; rw [ext1_ne _ _ e] at hb
      cases hb'
      have := h.lt p _ _ hb; omega
    · rw [if_neg e] at hp; rw [if_neg e'] at hq
      rw [ext1_ne _ _ e] at hb; rw [ext1_ne _ _ e'] at hb'
      exact h.inj p q b M M' hp hq hb hb'
  · by_cases e : p = nx
    · subst e; rw [ext1_self] at hb; cases hb; exact .inr (Nat.le_refl _)
    · rw [ext1_ne _ _ e] at hb
      obtain ⟨B', hB', hr⟩ := hp
      rw [Tr.get_set_ne _ e] at hB'
      exact .inl ⟨p, M, ⟨B', hB', hr⟩, hb⟩
  · by_cases e : p = nx
    · subst e; rw [ext1_self] at hb; cases hb; exact .inr (Nat.le_refl _)
    · rw [ext1_ne _ _ e] at hb
      rw [Tr.get_set_ne _ e] at hp
      exact .inl ⟨p, M, hp, hb⟩
  · by_cases e : p = nx
    · subst e; exact .inr hnx
    · rw [Tr.get_set_ne _ e] at hp; exact .inl hp
  · rw [Tr.get_set_ne _ (hlive p (by rw [hp]; simp))]; exact hp

/-- a block's content turns (w': the same world but for that block) -/
theorem Rel.turn {β : Bz} {H : Hz} {F : Pa → Prop} {w w' : World} (h : Rel β H F w) {p : Pa} {B0 B : Bk} {b N : Nat} (hp : H.get p = some B0) (hro0 : B0.ro = false) (hb : β p = some (b, N)) (hos : w'.os = w.os) (htape : w'.tape = w.tape) (hout : w'.output = w.output)
    (hsize : w'.heap.size = w.heap.size) (hother : ∀ x, x ≠ b → w'.heap[x]? = w.heap[x]?) (hB : RepB β w' p B) (hro : B.ro = false) :
    Rel β (H.set (some B) p) F w' ∧ Ext β H w β (H.set (some B) p) w' := by
  have hg : ∀ q, (H.set (some B) p).get q ≠ none → H.get q ≠ none := fun q hq => by
    rw [Tr.get_set] at hq
    by_cases e : q = p
    · subst e; rw [hp]; simp
    · rwa [if_neg e] at hq
  refine ⟨⟨h.fresh, fun q x M hq => by rw [hsize]; exact h.lt q x M hq, fun q B' hq => ?_, fun q r x M M' hq hr hx hx' => h.inj q r x M M' (hg q hq) (hg r hr) hx hx'⟩,
    ⟨hos, htape, hout, by rw [hsize]; exact Nat.le_refl _, .refl _, fun x _ hn => hother x fun e => hn p N ⟨B0, hp, hro0⟩ (e ▸ hb), fun q x M hq hx => ?_, fun q x M hq hx => .inl ⟨q, M, hg q hq, hx⟩, fun q hq => .inl (hg q hq), fun q B' hq hr => ?_⟩⟩
  · rw [Tr.get_set] at hq
    by_cases e : q = p
    · subst e; rw [if_pos rfl] at hq; cases hq; exact hB
    · rw [if_neg e] at hq
      refine (h.blk q B' hq).le (.refl _) fun x M hx => hother x fun ex => ?_
      subst ex
      exact e (h.inj q p x M N (by rw [hq]; simp) (by rw [hp]; simp) hx hb)
  · obtain ⟨B', hB', hr⟩ := hq
    rw [Tr.get_set] at hB'
    by_cases e : q = p
    · subst e; exact .inl ⟨q, N, ⟨B0, hp, hro0⟩, by rw [hb] at hx; cases hx; exact hb⟩
    · rw [if_neg e] at hB'
      exact .inl ⟨q, M, ⟨B', hB', hr⟩, hx⟩
  · have e : q ≠ p := fun e => by subst e; rw [hp] at hq; cases hq; rw [hro0] at hr; cases hr
    rw [Tr.get_set_ne _ e]; exact hq

/-- a block is let go -/
theorem Rel.drop {β : Bz} {H : Hz} {F : Pa → Prop} {w : World} (h : Rel β H F w) {p : Pa} (hro : ∀ B, H.get p = some B → B.ro = false) : Rel β (H.set none p) F w ∧ Ext β H w β (H.set none p) w := by
  have hg : ∀ q B, (H.set none p).get q = some B → H.get q = some B := fun q B hq => by
    rw [Tr.get_set] at hq
    by_cases e : q = p
    · subst e; rw [if_pos rfl] at hq; cases hq
    · rwa [if_neg e] at hq
  have hg' : ∀ q, (H.set none p).get q ≠ none → H.get q ≠ none := fun q hq => by
    cases hB : (H.set none p).get q with
    | none => exact absurd hB hq
    | some B => rw [hg q B hB]; simp
  exact ⟨⟨h.fresh, h.lt, fun q B hq => h.blk q B (hg q B hq), fun q r x M M' hq hr hx hx' => h.inj q r x M M' (hg' q hq) (hg' r hr) hx hx'⟩,
    ⟨rfl, rfl, rfl, Nat.le_refl _, .refl _, fun _ _ _ => rfl, fun q x M ⟨B, hB, hr⟩ hx => .inl ⟨q, M, ⟨B, hg q B hB, hr⟩, hx⟩, fun q x M hq hx => .inl ⟨q, M, hg' q hq, hx⟩, fun q hq => .inl (hg' q hq), fun q B hq hr => by
      have e : q ≠ p := fun e => by subst e; rw [hro B hq] at hr; cases hr
      rw [Tr.get_set_ne _ e]; exact hq⟩⟩

theorem Rel.drew {β : Bz} {H : Hz} {F : Pa → Prop} {w : World} (h : Rel β H F w) : Rel β H F w.drew ∧ Ext β H w β H w.drew := by
  refine ⟨⟨h.fresh, h.lt, fun p B hp => ?_, h.inj⟩, ⟨rfl, rfl, rfl, Nat.le_refl _, .refl _, fun _ _ _ => rfl, fun p b N hp hb => .inl ⟨p, N, hp, hb⟩, fun p b N hp hb => .inl ⟨p, N, hp, hb⟩, fun p hp => .inl hp, fun _ _ h _ => h⟩⟩
  exact (h.blk p B hp).le (.refl _) fun _ _ _ => rfl

end Go.Ez
namespace Go.Ez
open Go.RowKit

/-! numbers, strictly -/
noncomputable def natK {R : Type} (n : Nat) (k : Nat → R) : R := Nat.rec (motive := fun _ => R) (k 0) (fun m _ => k (Nat.succ m)) n
theorem natK_eq {R : Type} (n : Nat) (k : Nat → R) : natK n k = k n := by cases n <;> rfl
noncomputable def ifK {R : Type} (b : Bool) (x y : R) : R := Bool.rec (motive := fun _ => R) y x b
theorem ifK_some {R : Type} {b : Bool} {x y : Option R} {r : R} (h : ifK b x y = some r) : (b = true ∧ x = some r) ∨ (b = false ∧ y = some r) := by
  cases b with
  | true => exact .inl ⟨rfl, h⟩
  | false => exact .inr ⟨rfl, h⟩
theorem ifK_none {R : Type} {b : Bool} {x : Option R} {r : R} (h : ifK b x none = some r) : b = true ∧ x = some r := by
  rcases ifK_some h with h | ⟨_, h⟩
  · exact h
  · cases h

/-! plain values -/
def packL : List UInt8 → Nat
  | [] => 0
  | b :: r => b.toNat + 256 * packL r
theorem packL_get : ∀ (l : List UInt8) (i : Nat) (b : UInt8), l[i]? = some b → UInt8.ofNat (packL l >>> (8 * i)) = b
  | [], i, b, h => by simp at h
  | c :: r, 0, b, h => by
    simp at h; subst h
    simp only [packL, Nat.mul_zero, Nat.shiftRight_zero]
    apply UInt8.toNat_inj.1
    simp
  | c :: r, i + 1, b, h => by
    have ih := packL_get r i b (by simpa using h)
    have : packL (c :: r) >>> (8 * (i + 1)) = packL r >>> (8 * i) := by
      rw [show 8 * (i + 1) = 8 + 8 * i by omega, Nat.shiftRight_add]
      congr 1
      have := c.toNat_lt
      simp only [packL, Nat.shiftRight_eq_div_pow]
      omega
    rw [this]; exact ih
theorem packL_lt : ∀ l : List UInt8, packL l < 256 ^ l.length
  | [] => by simp [packL]
  | b :: r => by
    have ih := packL_lt r
    have := b.toNat_lt
    simp only [packL, List.length_cons, Nat.pow_succ]
    omega
theorem bytesN_pack (s : ByteArray) : bytesN s.size (packL s.data.toList) = s := by
  unfold bytesN
  congr 1
  apply Array.ext'
  apply List.ext_getElem?
  intro i
  simp only [List.getElem?_map]
  by_cases h : i < s.data.toList.length
  · have h' : i < s.size := by simpa using h
    rw [List.getElem?_eq_getElem h]
    simp only [List.getElem?_range h', Option.map_some]
    rw [packL_get _ i _ (List.getElem?_eq_getElem h)]
  · have h' : ¬ i < s.size := by simpa using h
    rw [List.getElem?_eq_none (l := s.data.toList) (by omega), List.getElem?_eq_none (by simp; omega)]
    rfl

def absC : Value → Option CV
  | .bool b => some (.b b)
  | .int .i64 n => if 0 ≤ n + (half : Int) ∧ n + (half : Int) < full then some (.i (n + (half : Int)).toNat) else none
  | .int k n => if k.signed = false ∧ 0 ≤ n ∧ n.toNat < 2 ^ k.bits then some (.o (.w k n.toNat)) else some (.o (.v (.int k n)))
  | .string s => some (.o (.t s.size (packL s.data.toList)))
  | .func (.func f) ⟨[]⟩ ⟨[]⟩ => some (.o (.f f [] []))
  | .agg _ => none
  | .tuple _ => none
  | .iface _ _ => none
  | v => if v.oneCell' then some (.o (.v v)) else none
theorem absC_rep {β : Bz} {v : Value} {c : CV} (h : absC v = some c) : Rep β c v := by
  unfold absC at h
  split at h
  · simp at h; subst h; rfl
  · split at h
    · rename_i n hn
      simp at h; subst h
      exact ⟨by omega, by congr 1; omega⟩
    · cases h
  · split at h
    · rename_i hn
      simp at h; subst h
      exact ⟨by congr 1; omega, hn.2.2, hn.1⟩
    · simp at h; subst h; exact ⟨rfl, rfl⟩
  · rename_i s
    simp at h; subst h
    refine ⟨?_, ?_⟩
    · rw [bytesN_pack]
    · have := packL_lt s.data.toList
      simpa using this
  · simp at h; subst h
    exact ⟨#[], #[], rfl, ⟨rfl, fun i c v h => by simp at h⟩, ⟨rfl, fun i c v h => by simp at h⟩⟩
  · cases h
  · cases h
  · cases h
  · split at h
    · rename_i ho; simp at h; subst h; exact ⟨rfl, ho⟩
    · cases h
def absL : List Value → Option (List CV)
  | [] => some []
  | v :: r => match absC v, absL r with
    | some c, some l => some (c :: l)
    | _, _ => none
theorem absL_rep {β : Bz} : ∀ {vs : List Value} {cs : List CV}, absL vs = some cs → RepL β cs vs
  | [], cs, h => by simp [absL] at h; subst h; exact ⟨rfl, fun i c v h => by simp at h⟩
  | v :: r, cs, h => by
    simp only [absL] at h
    split at h
    · rename_i c l hc hl
      simp at h; subst h
      have ih := absL_rep (β := β) hl
      refine ⟨by simp [ih.1], fun i c' v' h1 h2 => ?_⟩
      cases i with
      | zero => simp at h1 h2; subst h1 h2; exact absC_rep hc
      | succ i => simp at h1 h2; exact ih.2 i c' v' h1 h2
    · cases h
def absV : Value → AV
  | .agg cs => match absL cs.toList with | some l => .a l | none => .u
  | v => match absC v with | some c => .c c | none => .u
theorem absV_rep {β : Bz} (v : Value) : RepA β (absV v) v := by
  unfold absV
  split
  · rename_i cs
    cases h : absL cs.toList with
    | none => trivial
    | some l => exact ⟨cs, rfl, absL_rep h⟩
  · cases h : absC v with
    | none => trivial
    | some c => exact absC_rep (β := β) h

/-- a cell that is plain -/
def concC : CV → Option Value
  | .i n => some (.int .i64 ((n : Int) - half))
  | .b x => some (.bool x)
  | .o (.v x) => some x
  | .o (.t l n) => some (.string (bytesN l n))
  | .o (.f f [] []) => some (.func (.func f) #[] #[])
  | .o (.w k n) => some (.int k (n : Int))
  | _ => none
theorem concC_eq {β : Bz} {c : CV} {v x : Value} (h : concC c = some x) (hr : Rep β c v) : v = x := by
  unfold concC at h
  split at h
  · simp at h; subst h; exact hr.2
  · simp at h; subst h; exact hr
  · simp at h; subst h; exact hr.1
  · simp at h; subst h; exact hr.1
  · simp at h; subst h
    obtain ⟨fs, cs, e, h1, h2⟩ := hr
    have e1 : fs = #[] := by have := h1.1; simp at this; exact Array.eq_empty_of_size_eq_zero this.symm
    have e2 : cs = #[] := by have := h2.1; simp at this; exact Array.eq_empty_of_size_eq_zero this.symm
    rw [e, e1, e2]
  · simp at h; subst h; exact hr.1
  · cases h
def concL : List CV → Option (List Value)
  | [] => some []
  | c :: r => match concC c, concL r with
    | some v, some l => some (v :: l)
    | _, _ => none
theorem concL_eq {β : Bz} : ∀ {cs : List CV} {vs l : List Value}, concL cs = some l → RepL β cs vs → vs = l
  | [], vs, l, h, hr => by simp [concL] at h; subst h; exact List.eq_nil_of_length_eq_zero hr.1.symm
  | c :: r, vs, l, h, hr => by
    simp only [concL] at h
    split at h
    · rename_i v l' hv hl
      simp at h; subst h
      match vs, hr with
      | [], hr => exact absurd hr.1 (by simp)
      | u :: vs, hr =>
        have h0 := concC_eq hv (hr.2 0 c u rfl rfl)
        have ht := concL_eq (vs := vs) hl ⟨by simpa using hr.1, fun i c' v' h1 h2 => hr.2 (i + 1) c' v' (by simpa using h1) (by simpa using h2)⟩
        rw [h0, ht]
    · cases h
def concA : AV → Option Value
  | .c x => concC x
  | .a cs => match concL cs with | some l => some (.agg l.toArray) | none => none
  | _ => none
theorem concA_eq {β : Bz} {y : AV} {v x : Value} (h : concA y = some x) (hr : RepA β y v) : v = x := by
  cases y with
  | c c => exact concC_eq h hr
  | a cs =>
    simp only [concA] at h
    split at h
    · rename_i l hl
      simp at h; subst h
      obtain ⟨vs, e, hv⟩ := hr
      have := concL_eq hl hv
      rw [e, ← this]
    · cases h
  | tup ps => cases h
  | u => cases h

def cellsA : AV → Option (List CV)
  | .c x => some [x]
  | .a cs => some cs
  | _ => none
theorem cellsA_rep {β : Bz} {x : AV} {v : Value} {cs : List CV} (hc : cellsA x = some cs) (h : RepA β x v) : RepL β cs v.cells.toList := by
  cases x with
  | c x =>
    simp [cellsA] at hc; subst hc
    have h1 := Rep.one (show Rep β x v from h)
    have e : v.cells = #[v] := by cases v <;> first | rfl | simp [Value.oneCell'] at h1
    rw [e]
    refine ⟨rfl, fun i c y h1 h2 => ?_⟩
    cases i with
    | zero => simp at h1 h2; subst h1 h2; exact h
    | succ i => simp at h1
  | a l => simp [cellsA] at hc; subst hc; obtain ⟨vs, rfl, hr⟩ := h; exact hr
  | tup ps => simp [cellsA] at hc
  | u => simp [cellsA] at hc
theorem RepL.ones {β : Bz} {cs : List CV} {vs : List Value} (h : RepL β cs vs) : ∀ v ∈ vs, v.oneCell' = true := fun v hv => by
  obtain ⟨i, hi, rfl⟩ := List.mem_iff_getElem.1 hv
  have hi' : i < cs.length := by rw [h.1]; exact hi
  exact (h.2 i cs[i] vs[i] (by simp) (by simp)).one

/-! functions made once -/
abbrev Kz (R : Type) := AV → Hz → Pa → Option R
abbrev Cl (E R : Type) := E → Hz → Pa → Kz R → Option R
inductive Ci (E R : Type) where
  | mk (f : Cl E R)
inductive Og (E R : Type) where
  | mk (g : E → (AV → Option R) → Option R)

noncomputable def constC (E R : Type) (v : Value) : Og E R :=
  match v with
  | .int .i64 n => match absC (.int .i64 n) with
    | some (.i m) => natK m fun m => .mk fun _ k => k (.c (.i m))
    | _ => .mk fun _ k => k .u
  | .string s => natK s.size fun l => natK (packL s.data.toList) fun n => .mk fun _ k => k (.c (.o (.t l n)))
  | .bool b => Bool.rec (motive := fun _ => Og E R) (.mk fun _ k => k (.c (.b false))) (.mk fun _ k => k (.c (.b true))) b
  | v => .mk fun _ k => k (absV v)
theorem constC_ok (E R : Type) (v : Value) : ∃ g, constC E R v = .mk g ∧ ∀ fr k, g fr k = k (absV v) := by
  unfold constC
  split
  · rename_i n
    cases h : absC (.int .i64 n) with
    | none => exact ⟨_, rfl, fun fr k => by simp only [absV, h]⟩
    | some c =>
      cases c with
      | i m => exact ⟨_, natK_eq _ _, fun fr k => by simp only [absV, h]⟩
      | _ =>
        exfalso
        simp only [absC] at h
        split at h <;> simp at h
  · rename_i s
    exact ⟨fun _ k => k (.c (.o (.t s.size (packL s.data.toList)))), by rw [natK_eq, natK_eq], fun fr k => rfl⟩
  · rename_i b; cases b <;> exact ⟨_, rfl, fun fr k => rfl⟩
  · exact ⟨_, rfl, fun fr k => rfl⟩

/-! looking into values -/
section
variable {R : Type}
noncomputable def asC (x : AV) (k : CV → Option R) : Option R := AV.rec (motive := fun _ => Option R) k (fun _ => none) (fun _ => none) none x
noncomputable def asI (x : AV) (k : Nat → Option R) (no : Option R) : Option R := AV.rec (motive := fun _ => Option R) (fun c => CV.rec (motive := fun _ => Option R) k (fun _ => no) (fun _ _ => no) (fun _ _ _ _ _ => no) (fun _ => no) c) (fun _ => no) (fun _ => no) no x
noncomputable def asB (x : AV) (k : Bool → Option R) (no : Option R) : Option R := AV.rec (motive := fun _ => Option R) (fun c => CV.rec (motive := fun _ => Option R) (fun _ => no) k (fun _ _ => no) (fun _ _ _ _ _ => no) (fun _ => no) c) (fun _ => no) (fun _ => no) no x
noncomputable def asP (x : AV) (k : Pa → Nat → Option R) (no : Option R) : Option R := AV.rec (motive := fun _ => Option R) (fun c => CV.rec (motive := fun _ => Option R) (fun _ => no) (fun _ => no) k (fun _ _ _ _ _ => no) (fun _ => no) c) (fun _ => no) (fun _ => no) no x
noncomputable def asS (x : AV) (k : Pa → Nat → Nat → Nat → Option Nat → Option R) (no : Option R) : Option R := AV.rec (motive := fun _ => Option R) (fun c => CV.rec (motive := fun _ => Option R) (fun _ => no) (fun _ => no) (fun _ _ => no) k (fun _ => no) c) (fun _ => no) (fun _ => no) no x
noncomputable def asO (x : AV) (k : C0 → Option R) (no : Option R) : Option R := AV.rec (motive := fun _ => Option R) (fun c => CV.rec (motive := fun _ => Option R) (fun _ => no) (fun _ => no) (fun _ _ => no) (fun _ _ _ _ _ => no) k c) (fun _ => no) (fun _ => no) no x
theorem asI_some {x : AV} {k : Nat → Option R} {no : Option R} {r : R} (h : asI x k no = some r) : (∃ n, x = .c (.i n) ∧ k n = some r) ∨ no = some r := by
  cases x with
  | c c => cases c <;> first | exact .inl ⟨_, rfl, h⟩ | exact .inr h
  | _ => exact .inr h
theorem asB_some {x : AV} {k : Bool → Option R} {no : Option R} {r : R} (h : asB x k no = some r) : (∃ n, x = .c (.b n) ∧ k n = some r) ∨ no = some r := by
  cases x with
  | c c => cases c <;> first | exact .inl ⟨_, rfl, h⟩ | exact .inr h
  | _ => exact .inr h
theorem asP_some {x : AV} {k : Pa → Nat → Option R} {no : Option R} {r : R} (h : asP x k no = some r) : (∃ p n, x = .c (.p p n) ∧ k p n = some r) ∨ no = some r := by
  cases x with
  | c c => cases c <;> first | exact .inl ⟨_, _, rfl, h⟩ | exact .inr h
  | _ => exact .inr h
theorem asS_some {x : AV} {k : Pa → Nat → Nat → Nat → Option Nat → Option R} {no : Option R} {r : R} (h : asS x k no = some r) : (∃ p o z l c, x = .c (.s p o z l c) ∧ k p o z l c = some r) ∨ no = some r := by
  cases x with
  | c c => cases c <;> first | exact .inl ⟨_, _, _, _, _, rfl, h⟩ | exact .inr h
  | _ => exact .inr h
theorem asO_some {x : AV} {k : C0 → Option R} {no : Option R} {r : R} (h : asO x k no = some r) : (∃ n, x = .c (.o n) ∧ k n = some r) ∨ no = some r := by
  cases x with
  | c c => cases c <;> first | exact .inl ⟨_, rfl, h⟩ | exact .inr h
  | _ => exact .inr h
noncomputable def optK {α : Type} (x : Option α) (k : α → Option R) : Option R := Option.rec (motive := fun _ => Option R) none k x
theorem optK_some {α : Type} {x : Option α} {k : α → Option R} {r : R} (h : optK x k = some r) : ∃ y, x = some y ∧ k y = some r := by
  cases x with
  | none => cases h
  | some y => exact ⟨y, rfl, h⟩
end

end Go.Ez
namespace Go.Ez
open Go.RowKit
open Go.Eb (aggT sizeT bytesT placesT pr pr_run run_sizeT run_aggT placesT_run add_none)

/-- what an operation leaves -/
def OpOk (β : Bz) (H : Hz) (F : Pa → Prop) (nx : Pa) (w : World) (x : AV) (H' : Hz) (nx' : Pa) (r : Result Next) : Prop :=
  ∃ nxt w' β' F', r = .ok nxt w' ∧ ((∃ v, nxt = .value v ∧ RepA β' x v) ∨ (nxt = .skip ∧ x = .u)) ∧ Rel β' H' F' w' ∧ Ext β H w β' H' w' ∧ (∀ p, F p → (p ≠ nx ∨ nx' = nx) → F' p) ∧ (nx' = nx ∨ nx' = nx.inc)
def StepOk (P : Program) (o : Oper) (ρ : Operand → AV) (H : Hz) (nx : Pa) (x : AV) (H' : Hz) (nx' : Pa) : Prop :=
  ∀ (β : Bz) (w : World) (ρv : Operand → Value) (F : Pa → Prop), (∀ y, RepA β (ρ y) (ρv y)) → Rel β H F w → F nx → OpOk β H F nx w x H' nx' ((execOp ρv o).run P w)
def Sound {E : Type} (P : Program) (ρ : E → Operand → AV) {R : Type} (o : Oper) (f : Cl E R) : Prop :=
  ∀ fr H nx k r, f fr H nx k = some r → ∃ x H' nx', k x H' nx' = some r ∧ StepOk P o (ρ fr) H nx x H' nx'

theorem ok_val {β : Bz} {H : Hz} {F : Pa → Prop} {nx : Pa} {w : World} {x : AV} {v : Value} {r : Result Next} (h : Rel β H F w) (hr : r = .ok (.value v) w) (hx : RepA β x v) : OpOk β H F nx w x H nx r :=
  ⟨_, w, β, F, hr, .inl ⟨v, rfl, hx⟩, h, .refl _ _ _, fun _ hp _ => hp, .inl rfl⟩

section
variable {E R : Type} {P : Program} {ρ : E → Operand → AV} {dst : Option Tmp} {ty : TypeId} {pos : String} {after : Array Edge} {guard : Option (Nat × Bool)}

/-- an operand's function -/
def Gets (ρ : E → Operand → AV) (x : Operand) (g : E → (AV → Option R) → Option R) : Prop := ∀ fr k, g fr k = k (ρ fr x)

noncomputable def mvC (g : E → (AV → Option R) → Option R) : Cl E R := fun fr H nx k => g fr fun x => k x H nx
theorem move_sound {x : Operand} {g : E → (AV → Option R) → Option R} (hg : Gets ρ x g) : Sound P ρ ⟨dst, .move x, ty, pos, after, guard⟩ (mvC g) := fun fr H nx k r h => by
  unfold mvC at h
  rw [hg] at h
  exact ⟨_, _, _, h, fun β w ρv F hρ hr hF => ok_val hr (by simp [execOp]) (hρ x)⟩
theorem assign_sound {x : Operand} {g : E → (AV → Option R) → Option R} (hg : Gets ρ x g) : Sound P ρ ⟨dst, .assign x, ty, pos, after, guard⟩ (mvC g) := fun fr H nx k r h => by
  unfold mvC at h
  rw [hg] at h
  exact ⟨_, _, _, h, fun β w ρv F hρ hr hF => ok_val hr (by simp [execOp]) (hρ x)⟩

noncomputable def pickC (gc ga gb : E → (AV → Option R) → Option R) : Cl E R := fun fr H nx k => gc fr fun c => asB c (fun t => ifK t (ga fr fun x => k x H nx) (gb fr fun x => k x H nx)) none
theorem pick_sound {c a b : Operand} {gc ga gb : E → (AV → Option R) → Option R} (hc : Gets ρ c gc) (ha : Gets ρ a ga) (hb : Gets ρ b gb) : Sound P ρ ⟨dst, .pick c a b, ty, pos, after, guard⟩ (pickC gc ga gb) := fun fr H nx k r h => by
  unfold pickC at h
  rw [hc, ha, hb] at h
  rcases asB_some h with ⟨t, e, h⟩ | h
  · rcases ifK_some h with ⟨rfl, h⟩ | ⟨rfl, h⟩
    · refine ⟨_, _, _, h, fun β w ρv F hρ hr hF => ok_val hr (v := ρv a) ?_ (hρ a)⟩
      have := hρ c
      rw [e] at this
      have e : ρv c = .bool true := this
      simp [execOp, e, asBool]
    · refine ⟨_, _, _, h, fun β w ρv F hρ hr hF => ok_val hr (v := ρv b) ?_ (hρ b)⟩
      have := hρ c
      rw [e] at this
      have e : ρv c = .bool false := this
      simp [execOp, e, asBool]
  · cases h

/-! new blocks -/
noncomputable def incK (p : Pa) : (Pa → Option R) → Option R :=
  Pa.rec (motive := fun _ => (Pa → Option R) → Option R) (fun k => k (.d1 .e)) (fun r _ k => k (.d1 r)) (fun r _ k => k (.d2 r)) (fun r _ k => k (.d3 r)) (fun _ ih k => ih fun r => k (.d0 r)) p
theorem incK_eq (p : Pa) : ∀ k : Pa → Option R, incK p k = k p.inc := by
  induction p with
  | d3 r ih => intro k; exact ih _
  | _ => intro k; rfl
noncomputable def newK (B : Bk) (mk : Pa → AV) (H : Hz) (nx : Pa) (k : Kz R) : Option R := Tr.setK (some B) nx H fun H' => incK nx fun nx' => k (mk nx) H' nx'
theorem newK_eq (B : Bk) (mk : Pa → AV) (H : Hz) (nx : Pa) (k : Kz R) : newK B mk H nx k = k (mk nx) (H.set (some B) nx) nx.inc := by
  unfold newK
  rw [Tr.setK_eq, incK_eq]

theorem rows_new {β : Bz} {w : World} {nx : Pa} {vs : Array Value} {t : TypeId} {sz : Nat} {rows : List (List CV)} (hn : rows.length * sz ≤ vs.size)
    (hr : ∀ (i : Nat) r, rows[i]? = some r → r.length = sz ∧ ∀ (j : Nat) c v, r[j]? = some c → vs[i * sz + j]? = some v → Rep β c v) (hnx : β nx = none) :
    RepB (ext1 β nx (w.heap.size, vs.size)) (w.alloc (.cells vs t)) nx (.cells false t sz rows) :=
  ⟨w.heap.size, vs.size, vs, (_, 0, 0), ext1_self _ _ _, heap_new _ _, fun _ => rfl, rfl, hn, fun i r h => ⟨(hr i r h).1, fun j c v h1 h2 => ((hr i r h).2 j c v h1 h2).le (.ext1 hnx _)⟩⟩

/-- an operation that makes a block of cells -/
theorem ok_new {β : Bz} {H : Hz} {F : Pa → Prop} {nx : Pa} {w : World} {vs : Array Value} {t : TypeId} {sz : Nat} {rows : List (List CV)} {y : AV} {v : Value} {r : Result Next} (h : Rel β H F w) (hF : F nx) (hn : rows.length * sz ≤ vs.size)
    (hr : ∀ (i : Nat) r, rows[i]? = some r → r.length = sz ∧ ∀ (j : Nat) c v, r[j]? = some c → vs[i * sz + j]? = some v → Rep β c v)
    (he : r = .ok (.value v) (w.alloc (.cells vs t))) (hy : RepA (ext1 β nx (w.heap.size, vs.size)) y v) : OpOk β H F nx w y (H.set (some (.cells false t sz rows)) nx) nx.inc r := by
  have hnx := h.fresh nx hF
  obtain ⟨h1, h2⟩ := h.new hF (.cells vs t) vs.size (rows_new hn hr hnx) rfl
  exact ⟨_, _, _, _, he, .inl ⟨v, rfl, hy⟩, h1, h2, fun p hp hne => ⟨hp, by
    rcases hne with h3 | h3
    · exact h3
    · have := Pa.num_inc nx
      rw [h3] at this; omega⟩, .inr rfl⟩

def zeroT (P : Program) (t : TypeId) : Option (List CV) := match (P.info? t).bind (·.zero) with | some z => absL z.cells.toList | none => none
theorem zeroT_run {β : Bz} {e : TypeId} {cs : List CV} (h : zeroT P e = some cs) : ∃ z, (∀ w, (zeroValue e).run P w = .ok z w) ∧ RepL β cs z.cells.toList := by
  unfold zeroT at h
  split at h
  · rename_i z hz
    cases hi : P.info? e with
    | none => simp [hi] at hz
    | some i => simp [hi] at hz; exact ⟨z, fun w => by simp [zeroValue, typeInfo, hi, hz], absL_rep h⟩
  · simp at h

/-- one row -/
theorem one_row {β : Bz} {cs : List CV} {vs : Array Value} (h : RepL β cs vs.toList) : ∀ (i : Nat) r, ([cs] : List (List CV))[i]? = some r → r.length = cs.length ∧ ∀ (j : Nat) c v, r[j]? = some c → vs[i * cs.length + j]? = some v → Rep β c v := fun i r hr => by
  cases i with
  | succ i => simp at hr
  | zero =>
    simp at hr; subst hr
    exact ⟨rfl, fun j c v h1 h2 => h.2 j c v h1 (by simpa using h2)⟩

noncomputable def allocC (t : TypeId) (z : List CV) : Cl E R := natK z.length fun sz _ H nx k => newK (.cells false t sz [z]) (fun p => .c (.p p 0)) H nx k
theorem alloc_sound {t : TypeId} {z : List CV} (hz : zeroT P t = some z) : Sound P ρ ⟨dst, .alloc t, ty, pos, after, guard⟩ (allocC (E := E) (R := R) t z) := fun fr H nx k r h => by
  unfold allocC at h
  rw [natK_eq, newK_eq] at h
  refine ⟨_, _, _, h, fun β w ρv F hρ hr hF => ?_⟩
  obtain ⟨zv, hzv, hrep⟩ := zeroT_run (β := β) hz
  have hl := hrep.1
  refine ok_new hr hF (vs := zv.cells) (v := .pointer (some ⟨w.heap.size, 0, none⟩)) (by simp at hl ⊢; omega) (one_row hrep) (by simp [execOp, Instr.alloc, hzv, newVar, newRow]) ?_
  exact ⟨_, _, ext1_self _ _ _, rfl⟩

noncomputable def cellsK (x : AV) (k : List CV → Option R) : Option R := AV.rec (motive := fun _ => Option R) (fun c => k [c]) k (fun _ => none) none x
theorem cellsK_some {x : AV} {k : List CV → Option R} {r : R} (h : cellsK x k = some r) : ∃ cs, cellsA x = some cs ∧ k cs = some r := by
  cases x <;> first | exact ⟨_, rfl, h⟩ | cases h
noncomputable def lenR {α : Type} (l : List α) : Nat := List.rec (motive := fun _ => Nat) 0 (fun _ _ ih => Nat.succ ih) l
theorem lenR_eq {α : Type} : ∀ l : List α, lenR l = l.length
  | [] => rfl
  | _ :: r => by
    show Nat.succ (lenR r) = _
    rw [lenR_eq r]; rfl
noncomputable def boxC (t : TypeId) (g : E → (AV → Option R) → Option R) : Cl E R := fun fr H nx k => g fr fun x => cellsK x fun cs => natK (lenR cs) fun sz => newK (.cells false t sz [cs]) (fun p => .c (.p p 0)) H nx k
theorem box_sound {t : TypeId} {x : Operand} {g : E → (AV → Option R) → Option R} (hg : Gets ρ x g) : Sound P ρ ⟨dst, .box t x, ty, pos, after, guard⟩ (boxC t g) := fun fr H nx k r h => by
  unfold boxC at h
  rw [hg] at h
  obtain ⟨cs, hcs, h⟩ := cellsK_some h
  rw [natK_eq, newK_eq, lenR_eq] at h
  refine ⟨_, _, _, h, fun β w ρv F hρ hr hF => ?_⟩
  have hrep := cellsA_rep hcs (hρ x)
  have hl := hrep.1
  refine ok_new hr hF (vs := (ρv x).cells) (v := .pointer (some ⟨w.heap.size, 0, none⟩)) (by simp at hl ⊢; omega) (one_row hrep) (by simp [execOp, Instr.box, newVar, newRow]) ?_
  exact ⟨_, _, ext1_self _ _ _, rfl⟩

/-! rows -/
noncomputable def rowK (sz : Nat) (rows : List (List CV)) : Nat → (List CV → Nat → Option R) → Option R :=
  List.rec (motive := fun _ => Nat → (List CV → Nat → Option R) → Option R) (fun _ _ => none)
    (fun r _ ih off k => Bool.rec (motive := fun _ => Option R) (k r off) (natK (Nat.sub off sz) fun o => ih o k) (Nat.ble sz off)) rows
theorem rowK_some {sz : Nat} : ∀ {rows : List (List CV)} {off : Nat} {k : List CV → Nat → Option R} {res : R}, rowK sz rows off k = some res → ∃ i r j, rows[i]? = some r ∧ off = i * sz + j ∧ j < sz ∧ k r j = some res
  | [], off, k, res, h => by cases h
  | r :: rest, off, k, res, h => by
    have h' : Bool.rec (motive := fun _ => Option R) (k r off) (natK (Nat.sub off sz) fun o => rowK sz rest o k) (Nat.ble sz off) = some res := h
    cases hb : Nat.ble sz off with
    | false =>
      rw [hb] at h'
      rw [Go.Eb.bleD, decide_eq_false_iff_not] at hb
      exact ⟨0, r, off, rfl, by omega, by omega, h'⟩
    | true =>
      rw [hb] at h'
      rw [Go.Eb.bleD, decide_eq_true_eq] at hb
      simp only [natK_eq] at h'
      obtain ⟨i, r', j, h1, h2, h3, h4⟩ := rowK_some h'
      refine ⟨i + 1, r', j, h1, ?_, h3, h4⟩
      rw [Nat.succ_mul]
      have : Nat.sub off sz = off - sz := rfl
      omega
noncomputable def nthK (l : List CV) : Nat → (CV → Option R) → Option R :=
  List.rec (motive := fun _ => Nat → (CV → Option R) → Option R) (fun _ _ => none) (fun c _ ih n k => Nat.rec (motive := fun _ => Option R) (k c) (fun m _ => ih m k) n) l
theorem nthK_some : ∀ {l : List CV} {n : Nat} {k : CV → Option R} {res : R}, nthK l n k = some res → ∃ c, l[n]? = some c ∧ k c = some res
  | [], n, k, res, h => by cases h
  | c :: r, 0, k, res, h => ⟨c, rfl, h⟩
  | c :: r, n + 1, k, res, h => by
    have h' : nthK r n k = some res := h
    obtain ⟨c', h1, h2⟩ := nthK_some h'
    exact ⟨c', by simpa using h1, h2⟩
noncomputable def takeK {α : Type} (l : List α) : Nat → (List α → Option R) → Option R :=
  List.rec (motive := fun _ => Nat → (List α → Option R) → Option R) (fun n k => Nat.rec (motive := fun _ => Option R) (k []) (fun _ _ => none) n)
    (fun c _ ih n k => Nat.rec (motive := fun _ => Option R) (k []) (fun m _ => ih m fun l => k (c :: l)) n) l
theorem takeK_some {α : Type} : ∀ {l : List α} {n : Nat} {k : List α → Option R} {res : R}, takeK l n k = some res → n ≤ l.length ∧ k (l.take n) = some res
  | [], 0, k, res, h => ⟨Nat.le_refl _, h⟩
  | [], n + 1, k, res, h => by cases h
  | c :: r, 0, k, res, h => ⟨Nat.zero_le _, h⟩
  | c :: r, n + 1, k, res, h => by
    have h' : takeK r n (fun l => k (c :: l)) = some res := h
    obtain ⟨h1, h2⟩ := takeK_some h'
    exact ⟨by simp; omega, h2⟩
noncomputable def dropK {α : Type} (l : List α) : Nat → (List α → Option R) → Option R :=
  List.rec (motive := fun _ => Nat → (List α → Option R) → Option R) (fun n k => Nat.rec (motive := fun _ => Option R) (k []) (fun _ _ => none) n)
    (fun c r ih n k => Nat.rec (motive := fun _ => Option R) (k (c :: r)) (fun m _ => ih m k) n) l
theorem dropK_some {α : Type} : ∀ {l : List α} {n : Nat} {k : List α → Option R} {res : R}, dropK l n k = some res → n ≤ l.length ∧ k (l.drop n) = some res
  | [], 0, k, res, h => ⟨Nat.le_refl _, h⟩
  | [], n + 1, k, res, h => by cases h
  | c :: r, 0, k, res, h => ⟨Nat.zero_le _, h⟩
  | c :: r, n + 1, k, res, h => by
    have h' : dropK r n k = some res := h
    obtain ⟨h1, h2⟩ := dropK_some h'
    exact ⟨by simp; omega, by simpa using h2⟩
/-- n cells from j on -/
noncomputable def segK (r : List CV) (sz j n : Nat) (k : List CV → Option R) : Option R :=
  Bool.rec (motive := fun _ => Option R) (dropK r j fun r' => takeK r' n k) (Bool.rec (motive := fun _ => Option R) (dropK r j fun r' => takeK r' n k) (k r) (Nat.beq n sz)) (Nat.beq j 0)
theorem segK_some {r : List CV} {sz j n : Nat} {k : List CV → Option R} {res : R} (hr : r.length = sz) (h : segK r sz j n k = some res) : j + n ≤ r.length ∧ k ((r.drop j).take n) = some res := by
  have slow : dropK r j (fun r' => takeK r' n k) = some res → j + n ≤ r.length ∧ k ((r.drop j).take n) = some res := fun h => by
    obtain ⟨h1, h2⟩ := dropK_some h
    obtain ⟨h3, h4⟩ := takeK_some h2
    simp at h3
    exact ⟨by omega, h4⟩
  unfold segK at h
  cases hj : Nat.beq j 0 with
  | false => rw [hj] at h; exact slow h
  | true =>
    rw [hj] at h
    cases hn : Nat.beq n sz with
    | false => rw [hn] at h; exact slow h
    | true =>
      rw [hn] at h
      have e1 := Nat.eq_of_beq_eq_true hj
      have e2 := Nat.eq_of_beq_eq_true hn
      subst e1 e2
      refine ⟨by omega, ?_⟩
      rw [List.drop_zero, List.take_of_length_le (by omega)]
      exact h
noncomputable def cellsOfK (B : Bk) (k : Bool → TypeId → Nat → List (List CV) → Option R) : Option R := Bk.rec (motive := fun _ => Option R) k (fun _ _ _ => none) (fun _ _ => none) B
theorem cellsOfK_some {B : Bk} {k : Bool → TypeId → Nat → List (List CV) → Option R} {res : R} (h : cellsOfK B k = some res) : ∃ ro t sz rows, B = .cells ro t sz rows ∧ k ro t sz rows = some res := by
  cases B <;> first | exact ⟨_, _, _, _, rfl, h⟩ | cases h

noncomputable def loadK (H : Hz) (h : Pa) (off n : Nat) (ag : Bool) (k : AV → Option R) : Option R :=
  optK (H.get h) fun B => cellsOfK B fun _ _ sz rows => rowK sz rows off fun r j => Bool.rec (motive := fun _ => Option R) (nthK r j fun c => k (.c c)) (segK r sz j n fun cs => k (.a cs)) ag

theorem run_load {t : TypeId} {ag : Bool} {n b off : Nat} {w : World} {vs : Array Value} {t' : TypeId} {fz : Nat × Nat} (hw : w.heap[b]? = some (.cells vs t' fz)) (hag : aggT P t = some ag) (hsz : sizeT P t = some n) (hle : off + (bif ag then n else 1) ≤ vs.size) :
    ∃ v, (loadVar t ⟨b, off, none⟩).run P w = .ok v w ∧ (ag = true → v = .agg ((vs.toList.drop off).take n).toArray) ∧ (ag = false → vs[off]? = some v) := by
  unfold loadVar
  cases ag with
  | true =>
    simp only [cond_true] at hle
    refine ⟨_, ?_, fun _ => rfl, fun h => by cases h⟩
    have hlen : ((vs.toList.drop off).take n).length = n := by simp; omega
    have := run_loadCells_list (P := P) w ⟨b, off, none⟩ ((vs.toList.drop off).take n) (fun j v hj => by
      rw [add_none]
      rw [List.getElem?_take] at hj
      split at hj
      · rw [List.getElem?_drop] at hj
        exact Go.Eb.cellAt hw _ _ hj
      · simp at hj)
    rw [hlen] at this
    simp [run_aggT hag, run_sizeT hsz, this]
  | false =>
    simp only [cond_false] at hle
    have hlt : off < vs.size := by omega
    have := Go.Eb.cellAt hw off vs[off] (by simp [hlt])
    exact ⟨vs[off], by simp [run_aggT hag, this], (fun h => by cases h), fun _ => by simp [hlt]⟩

theorem row_le {i sz m N : Nat} (hi : i < m) (h : m * sz ≤ N) : i * sz + sz ≤ N := by
  have := Nat.mul_le_mul_right sz hi
  rw [Nat.succ_mul] at this
  omega

theorem loadK_ok {β : Bz} {H : Hz} {F : Pa → Prop} {w : World} {h : Pa} {off n : Nat} {ag : Bool} {k : AV → Option R} {res : R} {t : TypeId} (hag : aggT P t = some ag) (hsz : sizeT P t = some n) (hr : Rel β H F w) (hk : loadK H h off n ag k = some res) :
    ∃ x, k x = some res ∧ ∃ b N v, β h = some (b, N) ∧ (loadVar t ⟨b, off, none⟩).run P w = .ok v w ∧ RepA β x v := by
  unfold loadK at hk
  obtain ⟨B, hB, hk⟩ := optK_some hk
  obtain ⟨ro, t', sz, rows, rfl, hk⟩ := cellsOfK_some hk
  obtain ⟨i, r, j, hi, rfl, hj, hk⟩ := rowK_some hk
  obtain ⟨b, N, vs, fz, hb, hw, _, hN, hle, hrep⟩ := hr.blk h _ hB
  obtain ⟨hrl, hrc⟩ := hrep i r hi
  have hlt : i < rows.length := (List.getElem?_eq_some_iff.1 hi).1
  have hrow := row_le hlt hle
  cases ag with
  | false =>
    obtain ⟨c, hc, hk⟩ := nthK_some hk
    obtain ⟨v, h1, _, h3⟩ := run_load (P := P) hw hag hsz (off := i * sz + j) (by simp; omega)
    exact ⟨_, hk, b, N, v, hb, h1, hrc j c v hc (h3 rfl)⟩
  | true =>
    obtain ⟨hle', hk⟩ := segK_some hrl hk
    obtain ⟨v, h1, h2, _⟩ := run_load (P := P) hw hag hsz (off := i * sz + j) (by simp; omega)
    refine ⟨_, hk, b, N, v, hb, h1, ?_⟩
    rw [h2 rfl]
    refine ⟨_, rfl, ?_, fun q c v h1 h2 => ?_⟩
    · simp; omega
    · rw [List.getElem?_take] at h1
      split at h1
      · rename_i hq
        rw [List.getElem?_drop] at h1
        refine hrc (j + q) c v h1 ?_
        simp only [List.getElem?_take, hq, if_true, List.getElem?_drop] at h2
        rw [← Nat.add_assoc]
        simpa using h2
      · cases h1

/-- the same for whatever world: what is read does not hang on it -/
theorem loadK_some {H : Hz} {h : Pa} {off n : Nat} {ag : Bool} {k : AV → Option R} {res : R} (hk : loadK H h off n ag k = some res) : ∃ x, k x = some res ∧ ∀ {R' : Type} (k' : AV → Option R'), loadK H h off n ag k' = k' x := by
  unfold loadK at hk
  obtain ⟨B, hB, hk⟩ := optK_some hk
  obtain ⟨ro, t', sz, rows, rfl, hk⟩ := cellsOfK_some hk
  have rowE : ∀ {rows : List (List CV)} {off : Nat} {k : List CV → Nat → Option R} {res : R}, rowK sz rows off k = some res → ∃ r j, k r j = some res ∧ ∀ {R' : Type} (k' : List CV → Nat → Option R'), rowK sz rows off k' = k' r j := by
    intro rows
    induction rows with
    | nil => intro off k res h; cases h
    | cons r rest ih =>
      intro off k res h
      have h' : Bool.rec (motive := fun _ => Option R) (k r off) (natK (Nat.sub off sz) fun o => rowK sz rest o k) (Nat.ble sz off) = some res := h
      cases hb : Nat.ble sz off with
      | false =>
        rw [hb] at h'
        refine ⟨r, off, h', fun k' => ?_⟩
        show Bool.rec (motive := fun _ => Option _) (k' r off) (natK (Nat.sub off sz) fun o => rowK sz rest o k') (Nat.ble sz off) = _
        rw [hb]
      | true =>
        rw [hb] at h'
        simp only [natK_eq] at h'
        obtain ⟨r', j, h1, h2⟩ := ih h'
        refine ⟨r', j, h1, fun k' => ?_⟩
        show Bool.rec (motive := fun _ => Option _) (k' r off) (natK (Nat.sub off sz) fun o => rowK sz rest o k') (Nat.ble sz off) = _
        rw [hb]
        simp only [natK_eq]
        exact h2 k'
  have nthE : ∀ {l : List CV} {n : Nat} {k : CV → Option R} {res : R}, nthK l n k = some res → ∃ c, k c = some res ∧ ∀ {R' : Type} (k' : CV → Option R'), nthK l n k' = k' c := by
    intro l
    induction l with
    | nil => intro n k res h; cases h
    | cons c r ih =>
      intro n k res h
      cases n with
      | zero => exact ⟨c, h, fun k' => rfl⟩
      | succ n => obtain ⟨c', h1, h2⟩ := ih (show nthK r n k = some res from h); exact ⟨c', h1, fun k' => h2 k'⟩
  have takeE : ∀ {l : List CV} {n : Nat} {k : List CV → Option R} {res : R}, takeK l n k = some res → ∃ c, k c = some res ∧ ∀ {R' : Type} (k' : List CV → Option R'), takeK l n k' = k' c := by
    intro l
    induction l with
    | nil => intro n k res h; cases n with
      | zero => exact ⟨[], h, fun k' => rfl⟩
      | succ n => cases h
    | cons c r ih =>
      intro n k res h
      cases n with
      | zero => exact ⟨[], h, fun k' => rfl⟩
      | succ n => obtain ⟨c', h1, h2⟩ := ih (show takeK r n _ = some res from h); exact ⟨c :: c', h1, fun k' => h2 _⟩
  have dropE : ∀ {l : List CV} {n : Nat} {k : List CV → Option R} {res : R}, dropK l n k = some res → ∃ c, k c = some res ∧ ∀ {R' : Type} (k' : List CV → Option R'), dropK l n k' = k' c := by
    intro l
    induction l with
    | nil => intro n k res h; cases n with
      | zero => exact ⟨[], h, fun k' => rfl⟩
      | succ n => cases h
    | cons c r ih =>
      intro n k res h
      cases n with
      | zero => exact ⟨c :: r, h, fun k' => rfl⟩
      | succ n => obtain ⟨c', h1, h2⟩ := ih (show dropK r n k = some res from h); exact ⟨c', h1, fun k' => h2 k'⟩
  obtain ⟨r, j, hk, hrow⟩ := rowE hk
  cases ag with
  | false =>
    obtain ⟨c, hk, hn⟩ := nthE hk
    refine ⟨_, hk, fun k' => ?_⟩
    unfold loadK
    rw [hB]
    show rowK sz rows off _ = _
    rw [hrow]
    exact hn _
  | true =>
    have seg : ∃ cs, k (.a cs) = some res ∧ ∀ {R' : Type} (k' : List CV → Option R'), segK r sz j n k' = k' cs := by
      have slow : dropK r j (fun r' => takeK r' n fun cs => k (.a cs)) = some res → ∃ cs, k (.a cs) = some res ∧ ∀ {R' : Type} (k' : List CV → Option R'), dropK r j (fun r' => takeK r' n k') = k' cs := fun h => by
        obtain ⟨c, h1, h2⟩ := dropE h
        obtain ⟨d, h3, h4⟩ := takeE h1
        exact ⟨d, h3, fun k' => by rw [h2, h4]⟩
      have hk' : segK r sz j n (fun cs => k (.a cs)) = some res := hk
      unfold segK at hk' ⊢
      cases hj : Nat.beq j 0 with
      | false => rw [hj] at hk'; exact slow hk'
      | true =>
        rw [hj] at hk'
        cases hn : Nat.beq n sz with
        | false => rw [hn] at hk'; exact slow hk'
        | true => rw [hn] at hk'; exact ⟨r, hk', fun k' => rfl⟩
    obtain ⟨cs, hk, hs⟩ := seg
    refine ⟨_, hk, fun k' => ?_⟩
    unfold loadK
    rw [hB]
    show rowK sz rows off _ = _
    rw [hrow]
    exact hs _

noncomputable def loadC (n : Nat) (ag : Bool) (g : E → (AV → Option R) → Option R) : Cl E R := fun fr H nx k => g fr fun a => asP a (fun h off => loadK H h off n ag fun x => k x H nx) none
theorem load_sound {t : TypeId} {y : Operand} {n : Nat} {ag : Bool} {g : E → (AV → Option R) → Option R} (hg : Gets ρ y g) (hag : aggT P t = some ag) (hsz : sizeT P t = some n) : Sound P ρ ⟨dst, .load t y, ty, pos, after, guard⟩ (loadC n ag g) := fun fr H nx k r h => by
  unfold loadC at h
  rw [hg] at h
  rcases asP_some h with ⟨p, off, e, h⟩ | h
  · obtain ⟨x, hx, hall⟩ := loadK_some h
    refine ⟨x, H, nx, hx, fun β w ρv F hρ hr hF => ?_⟩
    obtain ⟨x', hx', b, N, v, hb, hrun, hrep⟩ := loadK_ok (P := P) hag hsz hr (hall (fun x => some x))
    cases hx'
    have hv := hρ y
    rw [e] at hv
    obtain ⟨b', N', hb', hv⟩ := hv
    rw [hb] at hb'
    cases hb'
    exact ok_val hr (v := v) (by simp [execOp, Instr.loadAt, Instr.sureAddr, hv, hrun]) hrep
  · cases h
end
end Go.Ez
namespace Go.Ez
open Go.RowKit
open Go.Eb (aggT sizeT bytesT placesT pr pr_run run_sizeT run_aggT placesT_run add_none)

section
variable {E R : Type} {P : Program} {ρ : E → Operand → AV} {dst : Option Tmp} {ty : TypeId} {pos : String} {after : Array Edge} {guard : Option (Nat × Bool)}

/-- one by one -/
inductive All2 {α β : Type} (r : α → β → Prop) : List α → List β → Prop
  | nil : All2 r [] []
  | cons {a b as bs} (h : r a b) (t : All2 r as bs) : All2 r (a :: as) (b :: bs)
/-! values, forced -/
noncomputable def intK (n : Int) (k : Int → Option R) : Option R := Int.rec (motive := fun _ => Option R) (fun m => natK m fun m => k (Int.ofNat m)) (fun m => natK m fun m => k (Int.negSucc m)) n
theorem intK_eq (n : Int) (k : Int → Option R) : intK n k = k n := by
  cases n with
  | ofNat m =>
    show natK m (fun m => k (Int.ofNat m)) = _
    rw [natK_eq]
  | negSucc m =>
    show natK m (fun m => k (Int.negSucc m)) = _
    rw [natK_eq]
noncomputable def kindK (x : IntKind) (k : IntKind → Option R) : Option R := IntKind.rec (motive := fun _ => Option R) (k .i8) (k .i16) (k .i32) (k .i64) (k .u8) (k .u16) (k .u32) (k .u64) x
theorem kindK_eq (x : IntKind) (k : IntKind → Option R) : kindK x k = k x := by cases x <;> rfl
/-- a value comes out of the model -/
noncomputable def outK (v : Value) (k : AV → Option R) : Option R :=
  match v with
  | .bool b => Bool.rec (motive := fun _ => Option R) (k (.c (.b false))) (k (.c (.b true))) b
  | .int kd n => kindK kd fun kd => intK n fun n => match kd with
    | .i64 => (match absC (.int .i64 n) with | some (.i m) => natK m fun m => k (.c (.i m)) | _ => none)
    | kd => (match absC (.int kd n) with | some (.o (.w kd m)) => natK m fun m => k (.c (.o (.w kd m))) | some c => k (.c c) | none => none)
  | .string s => natK s.size fun l => natK (packL s.data.toList) fun n => k (.c (.o (.t l n)))
  | v => match absC v with | some c => k (.c c) | none => none
theorem outK_some {v : Value} {k : AV → Option R} {r : R} (h : outK v k = some r) : ∃ x, k x = some r ∧ ∀ β, RepA β x v := by
  unfold outK at h
  split at h
  · rename_i b; cases b <;> exact ⟨_, h, fun β => rfl⟩
  · rename_i kd n
    rw [kindK_eq, intK_eq] at h
    split at h
    · split at h
      · rename_i m hm
        rw [natK_eq] at h
        exact ⟨_, h, fun β => absC_rep (β := β) hm⟩
      · cases h
    · split at h
      · rename_i hc
        rw [natK_eq] at h
        exact ⟨_, h, fun β => absC_rep (β := β) hc⟩
      · rename_i hc; exact ⟨_, h, fun β => absC_rep (β := β) hc⟩
      · cases h
  · rename_i s
    rw [natK_eq, natK_eq] at h
    refine ⟨_, h, fun β => ?_⟩
    exact absC_rep (β := β) (v := .string s) rfl
  · split at h
    · rename_i c hc; exact ⟨_, h, fun β => absC_rep (β := β) hc⟩
    · cases h

noncomputable def nilC (g : E → (AV → Option R) → Option R) : Cl E R := fun fr H nx k => g fr fun x => asP x (fun h off => k (.c (.p h off)) H nx) (asO x (fun c => C0.rec (motive := fun _ => Option R) (fun _ => none) (fun _ _ => none) (fun f a b => k (.c (.o (.f f a b))) H nx) (fun _ => none) (fun _ _ => none) c) none)
theorem nil_sound {x : Operand} {g : E → (AV → Option R) → Option R} (hg : Gets ρ x g) : Sound P ρ ⟨dst, .nilCheck x, ty, pos, after, guard⟩ (nilC g) := fun fr H nx k r h => by
  unfold nilC at h
  rw [hg] at h
  rcases asP_some h with ⟨p, off, e, h⟩ | h
  · refine ⟨_, _, _, h, fun β w ρv F hρ hr hF => ?_⟩
    have hv := hρ x
    rw [e] at hv
    obtain ⟨b, N, hb, hv⟩ := hv
    exact ok_val hr (v := ρv x) (by simp [execOp, hv]) ⟨b, N, hb, hv⟩
  · rcases asO_some h with ⟨c, e, h⟩ | h
    · cases c with
      | f f a b =>
        refine ⟨_, _, _, h, fun β w ρv F hρ hr hF => ?_⟩
        have hv := hρ x
        rw [e] at hv
        obtain ⟨fs, cs, hv, h1, h2⟩ := hv
        exact ok_val hr (v := ρv x) (by simp [execOp, hv]) ⟨fs, cs, hv, h1, h2⟩
      | _ => cases h
    · cases h

noncomputable def fadC (o : Nat) (g : E → (AV → Option R) → Option R) : Cl E R := fun fr H nx k => g fr fun x => asP x (fun h off => natK (Nat.add off o) fun n => k (.c (.p h n)) H nx) none
theorem fad_sound {s : TypeId} {x : Operand} {f : Nat} {fields : Array Field} {fd : Field} {m : Nat} {g : E → (AV → Option R) → Option R} (hg : Gets ρ x g) (hu : P.underlying s = some (.struct fields)) (hfd : fields[f]? = some fd) (hm : sizeT P fd.type = some (m + 1)) :
    Sound P ρ ⟨dst, .fieldAddr s x f, ty, pos, after, guard⟩ (fadC fd.offset g) := fun fr H nx k r h => by
  unfold fadC at h
  rw [hg] at h
  rcases asP_some h with ⟨p, off, e, h⟩ | h
  · rw [natK_eq] at h
    refine ⟨_, _, _, h, fun β w ρv F hρ hr hF => ?_⟩
    have hv := hρ x
    rw [e] at hv
    obtain ⟨b, N, hb, hv⟩ := hv
    refine ok_val hr (v := .pointer (some ⟨b, off + fd.offset, none⟩)) ?_ ⟨b, N, hb, rfl⟩
    simp [execOp, hv, Instr.fieldAt, run_underlying hu, hfd, Instr.sureAddr, fieldPlace, run_sizeT hm, add_none]
  · cases h

/-- an int as a place: from nothing on -/
noncomputable def posK (n : Nat) (k : Nat → Option R) : Option R := Bool.rec (motive := fun _ => Option R) none (natK (Nat.sub n half) k) (Nat.ble half n)
theorem posK_some {n : Nat} {k : Nat → Option R} {r : R} (h : posK n k = some r) : ∃ m : Nat, ((n : Int) - half : Int) = m ∧ k m = some r := by
  unfold posK at h
  cases hb : Nat.ble half n with
  | false => rw [hb] at h; cases h
  | true =>
    rw [hb] at h
    rw [Go.Eb.bleD, decide_eq_true_eq] at hb
    simp only [natK_eq] at h
    refine ⟨Nat.sub n half, ?_, h⟩
    have : Nat.sub n half = n - half := rfl
    omega
noncomputable def ltK (a b : Nat) (x : Option R) : Option R := Bool.rec (motive := fun _ => Option R) none x (Nat.blt a b)
theorem ltK_some {a b : Nat} {x : Option R} {r : R} (h : ltK a b x = some r) : a < b ∧ x = some r := by
  unfold ltK at h
  cases hb : Nat.blt a b with
  | false => rw [hb] at h; cases h
  | true => rw [hb] at h; rw [Go.Eb.bltD, decide_eq_true_eq] at hb; exact ⟨hb, h⟩
noncomputable def leK (a b : Nat) (x : Option R) : Option R := Bool.rec (motive := fun _ => Option R) none x (Nat.ble a b)
theorem leK_some {a b : Nat} {x : Option R} {r : R} (h : leK a b x = some r) : a ≤ b ∧ x = some r := by
  unfold leK at h
  cases hb : Nat.ble a b with
  | false => rw [hb] at h; cases h
  | true => rw [hb] at h; rw [Go.Eb.bleD, decide_eq_true_eq] at hb; exact ⟨hb, h⟩

noncomputable def ixpC (len sz : Nat) (g gi : E → (AV → Option R) → Option R) : Cl E R := fun fr H nx k => g fr fun x => gi fr fun i => asP x (fun h off => asI i (fun n => posK n fun n => ltK n len (natK (Nat.add off (Nat.mul n sz)) fun o => k (.c (.p h o)) H nx)) none) none
theorem ixp_sound {t : TypeId} {x i : Operand} {len sz : Nat} {e : TypeId} {g gi : E → (AV → Option R) → Option R} (hg : Gets ρ x g) (hi : Gets ρ i gi) (hu : P.underlying t = some (.array len e)) (hsz : sizeT P e = some sz) :
    Sound P ρ ⟨dst, .indexAddr t x i, ty, pos, after, guard⟩ (ixpC len sz g gi) := fun fr H nx k r h => by
  unfold ixpC at h
  rw [hg, hi] at h
  rcases asP_some h with ⟨p, off, e1, h⟩ | h
  · rcases asI_some h with ⟨n, e2, h⟩ | h
    · obtain ⟨m, hm, h⟩ := posK_some h
      obtain ⟨hlt, h⟩ := ltK_some h
      rw [natK_eq] at h
      refine ⟨_, _, _, h, fun β w ρv F hρ hr hF => ?_⟩
      have hv := hρ x
      rw [e1] at hv
      obtain ⟨b, N, hb, hv⟩ := hv
      have hn := hρ i
      rw [e2] at hn
      obtain ⟨_, hn⟩ := hn
      rw [hm] at hn
      refine ok_val hr (v := .pointer (some ⟨b, off + m * sz, none⟩)) ?_ ⟨b, N, hb, rfl⟩
      simp [execOp, hn, hv, Instr.indexAt, asIntOf, run_underlying hu, Instr.sureAddr, hlt, run_sizeT hsz, add_none]
    · cases h
  · cases h

noncomputable def ixsC (sz : Nat) (g gi : E → (AV → Option R) → Option R) : Cl E R := fun fr H nx k => g fr fun x => gi fr fun i => asS x (fun h off _ len _ => asI i (fun n => posK n fun n => ltK n len (natK (Nat.add off (Nat.mul n sz)) fun o => k (.c (.p h o)) H nx)) none) none
theorem ixs_sound {t : TypeId} {x i : Operand} {sz : Nat} {e : TypeId} {g gi : E → (AV → Option R) → Option R} (hg : Gets ρ x g) (hi : Gets ρ i gi) (hu : P.underlying t = some (.slice e)) (hsz : sizeT P e = some sz) :
    Sound P ρ ⟨dst, .indexAddr t x i, ty, pos, after, guard⟩ (ixsC sz g gi) := fun fr H nx k r h => by
  unfold ixsC at h
  rw [hg, hi] at h
  rcases asS_some h with ⟨p, off, z, len, oc, e1, h⟩ | h
  · rcases asI_some h with ⟨n, e2, h⟩ | h
    · obtain ⟨m, hm, h⟩ := posK_some h
      obtain ⟨hlt, h⟩ := ltK_some h
      rw [natK_eq] at h
      refine ⟨_, _, _, h, fun β w ρv F hρ hr hF => ?_⟩
      have hv := hρ x
      rw [e1] at hv
      obtain ⟨b, N, cap, hb, hv, _⟩ := hv
      have hn := hρ i
      rw [e2] at hn
      obtain ⟨_, hn⟩ := hn
      rw [hm] at hn
      refine ok_val hr (v := .pointer (some ⟨b, off + m * sz, none⟩)) ?_ ⟨b, N, hb, rfl⟩
      simp [execOp, hn, hv, Instr.indexAt, asIntOf, run_underlying hu, hlt, run_sizeT hsz, add_none]
    · cases h
  · cases h

theorem part_run {β : Bz} {t : TypeId} {ag : Bool} {n off : Nat} {cs : List CV} {vs : Array Value} {w : World} (hag : aggT P t = some ag) (hsz : sizeT P t = some n) (h : RepL β cs vs.toList) (hle : off + (bif ag then n else 1) ≤ cs.length) :
    ∃ v, (part t vs off).run P w = .ok v w ∧ (ag = true → RepL β ((cs.drop off).take n) v.cells.toList ∧ v = .agg v.cells) ∧ (ag = false → ∀ c, cs[off]? = some c → Rep β c v) := by
  have hl := h.1
  unfold part
  cases ag with
  | true =>
    simp only [cond_true] at hle
    refine ⟨.agg (vs.extract off (off + n)), by simp [run_aggT hag, run_sizeT hsz], fun _ => ⟨?_, rfl⟩, fun e => by cases e⟩
    refine ⟨by simp [Value.cells] at hl ⊢; omega, fun i c v h1 h2 => ?_⟩
    rw [List.getElem?_take] at h1
    split at h1
    · rename_i hi
      rw [List.getElem?_drop] at h1
      refine h.2 (off + i) c v h1 ?_
      simp [Value.cells] at h2
      simpa [hi] using h2
    · cases h1
  | false =>
    simp only [cond_false] at hle
    have hlt : off < vs.size := by simp at hl; omega
    exact ⟨vs[off], by simp [run_aggT hag, hlt], (fun e => by cases e), fun _ c hc => h.2 off c _ hc (by simp [hlt])⟩

noncomputable def partK (cs : List CV) (off n : Nat) (ag : Bool) (k : AV → Option R) : Option R := Bool.rec (motive := fun _ => Option R) (nthK cs off fun c => k (.c c)) (dropK cs off fun r => takeK r n fun l => k (.a l)) ag
theorem partK_some {cs : List CV} {off n : Nat} {ag : Bool} {k : AV → Option R} {r : R} (h : partK cs off n ag k = some r) :
    off + (bif ag then n else 1) ≤ cs.length ∧ ((ag = true ∧ k (.a ((cs.drop off).take n)) = some r) ∨ (ag = false ∧ ∃ c, cs[off]? = some c ∧ k (.c c) = some r)) := by
  cases ag with
  | true =>
    have h0 : dropK cs off (fun r => takeK r n fun l => k (.a l)) = some r := h
    obtain ⟨h1, h3⟩ := dropK_some h0
    obtain ⟨h2, h4⟩ := takeK_some h3
    simp at h2
    exact ⟨by simp; omega, .inl ⟨rfl, h4⟩⟩
  | false =>
    have h0 : nthK cs off (fun c => k (.c c)) = some r := h
    obtain ⟨c, hc, h⟩ := nthK_some h0
    have := (List.getElem?_eq_some_iff.1 hc).1
    exact ⟨by simp; omega, .inr ⟨rfl, c, hc, h⟩⟩
noncomputable def asA (x : AV) (k : List CV → Option R) : Option R := AV.rec (motive := fun _ => Option R) (fun _ => none) k (fun _ => none) none x
theorem asA_some {x : AV} {k : List CV → Option R} {r : R} (h : asA x k = some r) : ∃ cs, x = .a cs ∧ k cs = some r := by
  cases x <;> first | exact ⟨_, rfl, h⟩ | cases h

theorem partK_ok {β : Bz} {t : TypeId} {ag : Bool} {n off : Nat} {cs : List CV} {vs : Array Value} {w : World} {k : AV → Option R} {r : R} (hag : aggT P t = some ag) (hsz : sizeT P t = some n) (h : partK cs off n ag k = some r) :
    ∃ x, k x = some r ∧ ∀ {β : Bz} {vs : Array Value} (w : World), RepL β cs vs.toList → ∃ v, (part t vs off).run P w = .ok v w ∧ RepA β x v := by
  obtain ⟨hle, h1⟩ := partK_some h
  clear h
  rcases h1 with ⟨rfl, h⟩ | ⟨rfl, c, hc, h⟩
  · refine ⟨_, h, fun w hr => ?_⟩
    obtain ⟨v, h1, h2, _⟩ := part_run (P := P) (w := w) hag hsz hr hle
    obtain ⟨h3, h4⟩ := h2 rfl
    exact ⟨v, h1, _, h4, h3⟩
  · refine ⟨_, h, fun w hr => ?_⟩
    obtain ⟨v, h1, _, h3⟩ := part_run (P := P) (w := w) hag hsz hr hle
    exact ⟨v, h1, h3 rfl c hc⟩

noncomputable def fldC (off n : Nat) (ag : Bool) (g : E → (AV → Option R) → Option R) : Cl E R := fun fr H nx k => g fr fun x => asA x fun cs => partK cs off n ag fun y => k y H nx
theorem fld_sound {s : TypeId} {x : Operand} {f : Nat} {fields : Array Field} {fd : Field} {n : Nat} {ag : Bool} {g : E → (AV → Option R) → Option R} (hg : Gets ρ x g) (hu : P.underlying s = some (.struct fields)) (hfd : fields[f]? = some fd) (hag : aggT P fd.type = some ag) (hsz : sizeT P fd.type = some n) :
    Sound P ρ ⟨dst, .field s x f, ty, pos, after, guard⟩ (fldC fd.offset n ag g) := fun fr H nx k r h => by
  unfold fldC at h
  rw [hg] at h
  obtain ⟨cs, e, h⟩ := asA_some h
  obtain ⟨y, h, hall⟩ := partK_ok (β := fun _ => none) (vs := #[]) (w := default) hag hsz h
  refine ⟨_, _, _, h, fun β w ρv F hρ hr hF => ?_⟩
  have hv := hρ x
  rw [e] at hv
  obtain ⟨vs, hv, hrep⟩ := hv
  obtain ⟨v, hrun, hx⟩ := hall w hrep
  exact ok_val hr (v := v) (by simp [execOp, hv, Instr.field, run_underlying hu, hfd, asAgg, hrun]) hx

noncomputable def ixaC (len sz : Nat) (ag : Bool) (g gi : E → (AV → Option R) → Option R) : Cl E R := fun fr H nx k => g fr fun x => gi fr fun i => asA x fun cs => asI i (fun n => posK n fun n => ltK n len (natK (Nat.mul n sz) fun o => partK cs o sz ag fun y => k y H nx)) none
theorem ixa_sound {t : TypeId} {x i : Operand} {len sz : Nat} {e : TypeId} {ag : Bool} {g gi : E → (AV → Option R) → Option R} (hg : Gets ρ x g) (hi : Gets ρ i gi) (hu : P.underlying t = some (.array len e)) (hag : aggT P e = some ag) (hsz : sizeT P e = some sz) :
    Sound P ρ ⟨dst, .index t x i, ty, pos, after, guard⟩ (ixaC len sz ag g gi) := fun fr H nx k r h => by
  unfold ixaC at h
  rw [hg, hi] at h
  obtain ⟨cs, e1, h⟩ := asA_some h
  rcases asI_some h with ⟨n, e2, h⟩ | h
  · obtain ⟨m, hm, h⟩ := posK_some h
    obtain ⟨hlt, h⟩ := ltK_some h
    rw [natK_eq] at h
    obtain ⟨y, h, hall⟩ := partK_ok (β := fun _ => none) (vs := #[]) (w := default) hag hsz h
    refine ⟨_, _, _, h, fun β w ρv F hρ hr hF => ?_⟩
    have hv := hρ x
    rw [e1] at hv
    obtain ⟨vs, hv, hrep⟩ := hv
    have hn := hρ i
    rw [e2] at hn
    obtain ⟨_, hn⟩ := hn
    rw [hm] at hn
    obtain ⟨v, hrun, hx⟩ := hall w hrep
    have hrun : (part e vs (m * sz)).run P w = .ok v w := hrun
    exact ok_val hr (v := v) (by simp [execOp, hn, hv, Instr.index, asIntOf, run_underlying hu, hlt, run_sizeT hsz, hrun]) hx
  · cases h

theorem bytesN_size (l n : Nat) : (bytesN l n).size = l := by simp [bytesN, ByteArray.size]
theorem bytesN_get {l n i : Nat} (h : i < l) : (bytesN l n)[i]? = some (UInt8.ofNat (n >>> (8 * i))) := by
  rw [getElem?_pos _ _ (by rw [bytesN_size]; exact h)]
  show some ((bytesN l n).data[i]'_) = _
  simp [bytesN]
noncomputable def asT (x : AV) (k : Nat → Nat → Option R) : Option R := asO x (fun c => C0.rec (motive := fun _ => Option R) (fun _ => none) k (fun _ _ _ => none) (fun _ => none) (fun _ _ => none) c) none
theorem asT_some {x : AV} {k : Nat → Nat → Option R} {r : R} (h : asT x k = some r) : ∃ l n, x = .c (.o (.t l n)) ∧ k l n = some r := by
  rcases asO_some h with ⟨c, e, h⟩ | h
  · cases c with
    | t l n => exact ⟨l, n, e, h⟩
    | _ => cases h
  · cases h
noncomputable def ixtC (g gi : E → (AV → Option R) → Option R) : Cl E R := fun fr H nx k => g fr fun x => gi fr fun i => asT x fun l s => asI i (fun n => posK n fun n => ltK n l (natK (Nat.mod (Nat.shiftRight s (Nat.mul 8 n)) 256) fun b => k (.c (.o (.w .u8 b))) H nx)) none
theorem ixt_sound {t : TypeId} {x i : Operand} {g gi : E → (AV → Option R) → Option R} (hg : Gets ρ x g) (hi : Gets ρ i gi) (hu : P.underlying t = some .string) :
    Sound P ρ ⟨dst, .index t x i, ty, pos, after, guard⟩ (ixtC g gi) := fun fr H nx k r h => by
  unfold ixtC at h
  rw [hg, hi] at h
  obtain ⟨l, s, e1, h⟩ := asT_some h
  rcases asI_some h with ⟨n, e2, h⟩ | h
  · obtain ⟨m, hm, h⟩ := posK_some h
    obtain ⟨hlt, h⟩ := ltK_some h
    rw [natK_eq] at h
    refine ⟨_, _, _, h, fun β w ρv F hρ hr hF => ?_⟩
    have hv := hρ x
    rw [e1] at hv
    obtain ⟨hv, _⟩ := hv
    have hn := hρ i
    rw [e2] at hn
    obtain ⟨_, hn⟩ := hn
    rw [hm] at hn
    refine ok_val hr (v := .int .u8 (Int.ofNat ((s >>> (8 * m)) % 256))) ?_ ⟨rfl, Nat.mod_lt _ (by omega), rfl⟩
    simp [execOp, hn, hv, Instr.index, asIntOf, run_underlying hu, bytesN_get hlt]
  · cases h

noncomputable def extC (i : Nat) (g : E → (AV → Option R) → Option R) : Cl E R := fun fr H nx k => g fr fun x => AV.rec (motive := fun _ => Option R) (fun _ => none) (fun _ => none)
  (fun ps => List.rec (motive := fun _ => Nat → Option R) (fun _ => none) (fun p _ ih n => Nat.rec (motive := fun _ => Option R) (TV.rec (motive := fun _ => Option R) (fun c => k (.c c) H nx) (fun cs => k (.a cs) H nx) none p) (fun m _ => ih m) n) ps i) none x
theorem ext_sound {x : Operand} {i : Nat} {g : E → (AV → Option R) → Option R} (hg : Gets ρ x g) : Sound P ρ ⟨dst, .extract x i, ty, pos, after, guard⟩ (extC i g) := fun fr H nx k r h => by
  unfold extC at h
  rw [hg] at h
  cases e : ρ fr x with
  | tup ps =>
    rw [e] at h
    have key : ∀ (ps : List TV) (i : Nat), List.rec (motive := fun _ => Nat → Option R) (fun _ => none) (fun p _ ih n => Nat.rec (motive := fun _ => Option R) (TV.rec (motive := fun _ => Option R) (fun c => k (.c c) H nx) (fun cs => k (.a cs) H nx) none p) (fun m _ => ih m) n) ps i = some r →
        ∃ p, ps[i]? = some p ∧ k p.av H nx = some r := by
      intro ps
      induction ps with
      | nil => intro i h; cases h
      | cons p rest ih =>
        intro i h
        cases i with
        | zero => cases p <;> first | exact ⟨_, rfl, h⟩ | cases h
        | succ i => obtain ⟨q, h1, h2⟩ := ih i h; exact ⟨q, by simpa using h1, h2⟩
    obtain ⟨p, hp, h⟩ := key ps i h
    refine ⟨_, _, _, h, fun β w ρv F hρ hr hF => ?_⟩
    have hv := hρ x
    rw [e] at hv
    obtain ⟨vs, hv, hlen, hrep⟩ := hv
    have hlt : i < vs.size := by have := (List.getElem?_eq_some_iff.1 hp).1; omega
    exact ok_val hr (v := vs[i]) (by simp [execOp, hv, Instr.extract, hlt]) (hrep i p _ hp (by simp [hlt])).av
  | c _ => rw [e] at h; cases h
  | a _ => rw [e] at h; cases h
  | u => rw [e] at h; cases h

/-! closures -/
noncomputable def capK (x : AV) (k : Cp → Option R) : Option R := asP x (fun h off => k (.p h off)) (optK (concA x) fun v => k (.v v))
theorem capK_some {x : AV} {k : Cp → Option R} {r : R} (h : capK x k = some r) : ∃ c, k c = some r ∧ ∀ β v, RepA β x v → RepCp β c v := by
  rcases asP_some h with ⟨p, off, rfl, h⟩ | h
  · exact ⟨_, h, fun β v hv => hv⟩
  · obtain ⟨v, e, h⟩ := optK_some h
    exact ⟨_, h, fun β u hv => concA_eq e hv⟩
noncomputable def capsK : List (E → (AV → Option R) → Option R) → E → (List Cp → Option R) → Option R
  | [], _, k => k []
  | g :: r, fr, k => g fr fun x => capK x fun c => capsK r fr fun l => k (c :: l)
theorem capsK_some {fr : E} : ∀ {xs : List Operand} {gs : List (E → (AV → Option R) → Option R)} {k : List Cp → Option R} {r : R}, All2 (Gets ρ) xs gs → capsK gs fr k = some r →
    ∃ cs, k cs = some r ∧ ∀ (β : Bz) (ρv : Operand → Value), (∀ y, RepA β (ρ fr y) (ρv y)) → RepCps β cs (xs.map ρv)
  | [], [], k, r, _, h => ⟨[], h, fun β ρv _ => ⟨rfl, fun i c v h => by simp at h⟩⟩
  | x :: xs, g :: gs, k, r, hf, h => by
    cases hf with
    | cons h1 h2 =>
      simp only [capsK] at h
      rw [h1] at h
      obtain ⟨c, h, hc⟩ := capK_some h
      obtain ⟨cs, h, hcs⟩ := capsK_some h2 h
      refine ⟨_, h, fun β ρv hρ => ?_⟩
      have := hcs β ρv hρ
      refine ⟨by simp [this.1], fun i c' v h1 h2 => ?_⟩
      cases i with
      | zero => simp at h1 h2; subst h1 h2; exact hc β _ (hρ x)
      | succ i => exact this.2 i c' v (by simpa using h1) (by simpa using h2)
noncomputable def mkfC (f : FuncId) (g1 g2 : List (E → (AV → Option R) → Option R)) : Cl E R := fun fr H nx k => capsK g1 fr fun a => capsK g2 fr fun b => k (.c (.o (.f f a b))) H nx
theorem mkf_sound {f : FuncId} {first captured : Array Operand} {g1 g2 : List (E → (AV → Option R) → Option R)} (h1 : All2 (Gets ρ) first.toList g1) (h2 : All2 (Gets ρ) captured.toList g2) :
    Sound P ρ ⟨dst, .makeFunc (.func f) first captured, ty, pos, after, guard⟩ (mkfC f g1 g2) := fun fr H nx k r h => by
  unfold mkfC at h
  obtain ⟨a, h, ha⟩ := capsK_some h1 h
  obtain ⟨b, h, hb⟩ := capsK_some h2 h
  refine ⟨_, _, _, h, fun β w ρv F hρ hr hF => ok_val hr (v := .func (.func f) (first.map ρv) (captured.map ρv)) (by simp [execOp, Instr.makeFunc]) ⟨_, _, rfl, ?_, ?_⟩⟩
  · simpa using ha β ρv hρ
  · simpa using hb β ρv hρ
end
end Go.Ez
namespace Go.Ez
open Go.RowKit

theorem packL_append : ∀ a b : List UInt8, packL (a ++ b) = packL a + 256 ^ a.length * packL b
  | [], b => by simp [packL]
  | x :: a, b => by
    simp only [List.cons_append, packL, packL_append a b, List.length_cons, Nat.pow_succ]
    rw [Nat.mul_add, Nat.add_assoc, ← Nat.mul_assoc, Nat.mul_comm 256 (256 ^ a.length)]
theorem packL_drop : ∀ (l : List UInt8) (k : Nat), packL (l.drop k) = packL l / 256 ^ k
  | [], k => by simp [packL]
  | x :: l, 0 => by simp
  | x :: l, k + 1 => by
    have h := x.toNat_lt
    rw [List.drop_succ_cons, packL_drop l k, packL, Nat.pow_succ, Nat.mul_comm (256 ^ k) 256, ← Nat.div_div_eq_div_mul]
    congr 1
    omega
theorem packL_take : ∀ (l : List UInt8) (k : Nat), packL (l.take k) = packL l % 256 ^ k
  | [], k => by simp [packL]
  | x :: l, 0 => by simp [packL, Nat.mod_one]
  | x :: l, k + 1 => by
    have h := x.toNat_lt
    rw [List.take_succ_cons, packL, packL_take l k, packL, Nat.pow_succ, Nat.mul_comm (256 ^ k) 256, Nat.mod_mul]
    have e1 : (x.toNat + 256 * packL l) % 256 = x.toNat := by omega
    have e2 : (x.toNat + 256 * packL l) / 256 = packL l := by omega
    rw [e1, e2]
theorem pack_bytesN : ∀ (l n : Nat), n < 256 ^ l → packL (bytesN l n).data.toList = n := by
  have key : ∀ (l n : Nat), n < 256 ^ l → packL ((List.range l).map fun i => UInt8.ofNat (n >>> (8 * i))) = n := by
    intro l
    induction l with
    | zero => intro n h; simp at h; subst h; rfl
    | succ l ih =>
      intro n h
      rw [List.range_succ_eq_map, List.map_cons, List.map_map, packL]
      have e : ((fun i => UInt8.ofNat (n >>> (8 * i))) ∘ Nat.succ) = fun i => UInt8.ofNat ((n / 256) >>> (8 * i)) := by
        funext i
        simp only [Function.comp]
        congr 1
        rw [show 8 * i.succ = 8 + 8 * i by omega, Nat.shiftRight_add]
        congr 1
        simp [Nat.shiftRight_eq_div_pow]
      rw [e, ih (n / 256) (by rw [Nat.pow_succ] at h; omega)]
      simp
      omega
  intro l n h
  have := key l n h
  simpa [bytesN] using this
theorem bytesN_of {s : ByteArray} {n : Nat} (h : packL s.data.toList = n) : s = bytesN s.size n := by rw [← h, bytesN_pack]
theorem bytesN_append {l m l' n : Nat} (h1 : m < 256 ^ l) (h2 : n < 256 ^ l') : bytesN l m ++ bytesN l' n = bytesN (l + l') (m + n <<< (8 * l)) := by
  have e := bytesN_of (s := bytesN l m ++ bytesN l' n) (n := m + n <<< (8 * l)) (by
    rw [ByteArray.data_append, Array.toList_append, packL_append, pack_bytesN l m h1, pack_bytesN l' n h2]
    have : (bytesN l m).data.toList.length = l := by simp [bytesN]
    rw [this, Nat.shiftLeft_eq, Nat.pow_mul, Nat.mul_comm])
  rw [e]
  congr 1
  rw [ByteArray.size_append, bytesN_size, bytesN_size]
theorem append_lt {l m l' n : Nat} (h1 : m < 256 ^ l) (h2 : n < 256 ^ l') : m + n <<< (8 * l) < 256 ^ (l + l') := by
  rw [Nat.shiftLeft_eq, Nat.pow_mul, Nat.pow_add]
  have : (2 ^ 8 : Nat) = 256 := rfl
  rw [this]
  have h3 : (n + 1) * 256 ^ l ≤ 256 ^ l' * 256 ^ l := Nat.mul_le_mul_right _ h2
  rw [Nat.succ_mul] at h3
  rw [Nat.mul_comm (256 ^ l) (256 ^ l')]
  omega
theorem bytesN_extract {l n a b : Nat} (h : n < 256 ^ l) (hab : a ≤ b) (hbl : b ≤ l) : (bytesN l n).extract a b = bytesN (b - a) ((n >>> (8 * a)) % 256 ^ (b - a)) := by
  have e := bytesN_of (s := (bytesN l n).extract a b) (n := (n >>> (8 * a)) % 256 ^ (b - a)) (by
    rw [ByteArray.data_extract, Array.toList_extract, List.extract_eq_take_drop, packL_take, packL_drop, pack_bytesN l n h, Nat.shiftRight_eq_div_pow, Nat.pow_mul])
  rw [e]
  congr 1
  rw [ByteArray.size_extract, bytesN_size]
  omega
theorem bytesN_inj {l m l' n : Nat} (h1 : m < 256 ^ l) (h2 : n < 256 ^ l') (h : bytesN l m = bytesN l' n) : l = l' ∧ m = n := by
  have e1 := congrArg ByteArray.size h
  rw [bytesN_size, bytesN_size] at e1
  have e2 := congrArg (fun s => packL s.data.toList) h
  simp only [pack_bytesN l m h1, pack_bytesN l' n h2] at e2
  exact ⟨e1, e2⟩
end Go.Ez
namespace Go.Ez
open Go.RowKit
open Go.Eb (aggT sizeT bytesT placesT pr pr_run run_sizeT run_aggT placesT_run add_none)

section
variable {E R : Type} {P : Program} {ρ : E → Operand → AV} {dst : Option Tmp} {ty : TypeId} {pos : String} {after : Array Edge} {guard : Option (Nat × Bool)}

theorem wrap64 (z : Int) : IntKind.i64.wrap z = (z + half) % full - half := by
  have e1 : (2 ^ IntKind.i64.bits : Int) = 18446744073709551616 := rfl
  have e2 : (2 ^ (IntKind.i64.bits - 1) : Int) = 9223372036854775808 := rfl
  have e3 : IntKind.i64.signed = true := rfl
  unfold IntKind.wrap
  simp only [e1, e2, e3, Bool.true_and, half, full, decide_eq_true_eq]
  split <;> omega
theorem wrap_biased (s : Nat) (z : Int) (h : (s : Int) = (z + half) % full) : s < full ∧ IntKind.i64.wrap z = (s : Int) - half := by
  refine ⟨?_, by rw [wrap64, h]⟩
  have : (z + half) % (full : Int) < full := Int.emod_lt_of_pos _ (by decide)
  omega
theorem wrapU {k : IntKind} (hk : k.signed = false) (z : Int) : k.wrap z = z % (2 ^ k.bits : Int) := by
  unfold IntKind.wrap
  rw [hk]
  simp

/-- by the model itself, on plain values -/
noncomputable def binS (P : Program) (op : BinOp) (t : TypeId) (x y : Operand) (a b : AV) (k : AV → Option R) : Option R :=
  optK (concA a) fun u => optK (concA b) fun v => optK (pr P (do eqGuard op t x y u v; binOp op t u v)) fun r => outK r k
theorem binS_ok {op : BinOp} {t t' : TypeId} {x y : Operand} {fr : E} {H : Hz} {nx : Pa} {k : AV → Option R} {r : R} (h : binS P op t x y (ρ fr x) (ρ fr y) k = some r) :
    ∃ z, k z = some r ∧ StepOk P ⟨dst, .binOp op t x y t', ty, pos, after, guard⟩ (ρ fr) H nx z H nx := by
  unfold binS at h
  obtain ⟨u, hu, h⟩ := optK_some h
  obtain ⟨v, hv, h⟩ := optK_some h
  obtain ⟨q, hq, h⟩ := optK_some h
  obtain ⟨z, h, hz⟩ := outK_some h
  refine ⟨z, h, fun β w ρv F hρ hr hF => ok_val hr (v := q) ?_ (hz β)⟩
  have e1 := concA_eq hu (hρ x)
  have e2 := concA_eq hv (hρ y)
  have hrun := pr_run P _ q hq w
  simp only [execOp, e1, e2]
  rw [Sem.run_bind, hrun]
  rfl

def isKeq (a b : IntKind) : Bool := match a, b with
  | .i8, .i8 | .i16, .i16 | .i32, .i32 | .i64, .i64 | .u8, .u8 | .u16, .u16 | .u32, .u32 | .u64, .u64 => true
  | _, _ => false
theorem isKeq_eq {a b : IntKind} (h : isKeq a b = true) : a = b := by cases a <;> cases b <;> first | rfl | cases h
/-- an unsigned number -/
noncomputable def asW (x : AV) (k : IntKind → Nat → Option R) (no : Option R) : Option R := asO x (fun c => C0.rec (motive := fun _ => Option R) (fun _ => no) (fun _ _ => no) (fun _ _ _ => no) (fun _ => no) k c) no
theorem asW_some {x : AV} {k : IntKind → Nat → Option R} {no : Option R} {r : R} (h : asW x k no = some r) : (∃ l n, x = .c (.o (.w l n)) ∧ k l n = some r) ∨ no = some r := by
  rcases asO_some h with ⟨c, e, h⟩ | h
  · cases c with
    | w l n => exact .inl ⟨l, n, e, h⟩
    | _ => exact .inr h
  · exact .inr h

/-- two ints; else two unsigned numbers; else by the model -/
noncomputable def biW (fW : IntKind → Nat → Nat → (AV → Option R) → Option R → Option R) (slow : AV → AV → (AV → Option R) → Option R) (a b : AV) (k : AV → Option R) : Option R :=
  asW a (fun kd m => asW b (fun kd' n => ifK (isKeq kd kd') (fW kd m n k (slow a b k)) (slow a b k)) (slow a b k)) (slow a b k)
noncomputable def biG (fI : Nat → Nat → (AV → Option R) → Option R) (fW : IntKind → Nat → Nat → (AV → Option R) → Option R → Option R) (slow : AV → AV → (AV → Option R) → Option R) (a b : AV) (k : AV → Option R) : Option R :=
  asI a (fun m => asI b (fun n => fI m n k) (slow a b k)) (biW fW slow a b k)
noncomputable def biK (fI : Nat → Nat → (AV → Option R) → Option R) (fW : IntKind → Nat → Nat → (AV → Option R) → Option R → Option R) (slow : AV → AV → (AV → Option R) → Option R) (g1 g2 : E → (AV → Option R) → Option R) : Cl E R :=
  fun fr H nx k => g1 fr fun a => g2 fr fun b => biG fI fW slow a b fun z => k z H nx

/-- what the quick functions must give -/
def RunB (P : Program) (op : BinOp) (a b v : Value) : Prop := ∀ (t : TypeId) (x y : Operand) (w : World), ((do eqGuard op t x y a b; binOp op t a b) : Sem Value).run P w = .ok v w
def FastI (P : Program) (op : BinOp) (fI : Nat → Nat → (AV → Option R) → Option R) : Prop := ∀ m n, ∃ z, (∀ k, fI m n k = k z) ∧
  (m < full → n < full → ∃ v, (∀ β, RepA β z v) ∧ RunB P op (.int .i64 ((m : Int) - half)) (.int .i64 ((n : Int) - half)) v)
def FastW (P : Program) (op : BinOp) (fW : IntKind → Nat → Nat → (AV → Option R) → Option R → Option R) : Prop := ∀ kd m n, ∃ z, (∀ k no r, fW kd m n k no = some r → no = some r ∨ (k z = some r ∧
  (kd.signed = false → m < 2 ^ kd.bits → n < 2 ^ kd.bits → ∃ v, (∀ β, RepA β z v) ∧ RunB P op (.int kd (m : Int)) (.int kd (n : Int)) v)))
theorem runB_ok {op : BinOp} {t t' : TypeId} {x y : Operand} {β : Bz} {H : Hz} {F : Pa → Prop} {nx : Pa} {w : World} {ρv : Operand → Value} {z : AV} {v : Value} (hr : Rel β H F w) (h : RunB P op (ρv x) (ρv y) v) (hz : ∀ β, RepA β z v) :
    OpOk β H F nx w z H nx ((execOp ρv ⟨dst, .binOp op t x y t', ty, pos, after, guard⟩).run P w) := by
  refine ok_val hr (v := v) ?_ (hz β)
  simp only [execOp]
  rw [Sem.run_bind, h t x y w]
  rfl

theorem biK_sound {op : BinOp} {t t' : TypeId} {x y : Operand} {g1 g2 : E → (AV → Option R) → Option R} {fI : Nat → Nat → (AV → Option R) → Option R} {fW : IntKind → Nat → Nat → (AV → Option R) → Option R → Option R} (h1 : Gets ρ x g1) (h2 : Gets ρ y g2) (hI : FastI P op fI) (hW : FastW P op fW) (slow : AV → AV → (AV → Option R) → Option R)
    (hslow : ∀ fr H nx k r, slow (ρ fr x) (ρ fr y) k = some r → ∃ z, k z = some r ∧ StepOk P ⟨dst, .binOp op t x y t', ty, pos, after, guard⟩ (ρ fr) H nx z H nx) :
    Sound P ρ ⟨dst, .binOp op t x y t', ty, pos, after, guard⟩ (biK fI fW slow g1 g2) := by
  intro fr H nx k r h
  unfold biK at h
  rw [h1, h2] at h
  unfold biG biW at h
  have sl : slow (ρ fr x) (ρ fr y) (fun z => k z H nx) = some r → ∃ z H' nx', k z H' nx' = some r ∧ StepOk P ⟨dst, .binOp op t x y t', ty, pos, after, guard⟩ (ρ fr) H nx z H' nx' := fun h => by
    obtain ⟨z, h, hz⟩ := hslow fr H nx _ _ h
    exact ⟨z, H, nx, h, hz⟩
  rcases asI_some h with ⟨m, e1, h⟩ | h
  · rcases asI_some h with ⟨n, e2, h⟩ | h
    · obtain ⟨z, hz, hv⟩ := hI m n
      rw [hz] at h
      refine ⟨z, H, nx, h, fun β w ρv F hρ hr hF => ?_⟩
      have r1 := hρ x
      have r2 := hρ y
      rw [e1] at r1
      rw [e2] at r2
      obtain ⟨l1, q1⟩ := r1
      obtain ⟨l2, q2⟩ := r2
      obtain ⟨v, hv1, hv2⟩ := hv l1 l2
      exact runB_ok hr (by rw [q1, q2]; exact hv2) hv1
    · exact sl h
  · rcases asW_some h with ⟨kd, m, e1, h⟩ | h
    · rcases asW_some h with ⟨kd', n, e2, h⟩ | h
      · rcases ifK_some h with ⟨hk, h5⟩ | ⟨_, h⟩
        · have := isKeq_eq hk
          clear h
          subst this
          obtain ⟨z, hz⟩ := hW kd m n
          rcases hz _ _ _ h5 with h | ⟨h, hv⟩
          · exact sl h
          · refine ⟨z, H, nx, h, fun β w ρv F hρ hr hF => ?_⟩
            have r1 := hρ x
            have r2 := hρ y
            rw [e1] at r1
            rw [e2] at r2
            obtain ⟨q1, l1, s1⟩ := r1
            obtain ⟨q2, l2, _⟩ := r2
            obtain ⟨v, hv1, hv2⟩ := hv s1 l1 l2
            exact runB_ok hr (by rw [q1, q2]; exact hv2) hv1
        · exact sl h
      · exact sl h
    · exact sl h

/-- two unsigned numbers; else by the model -/
noncomputable def biV (fW : IntKind → Nat → Nat → (AV → Option R) → Option R → Option R) (slow : AV → AV → (AV → Option R) → Option R) (g1 g2 : E → (AV → Option R) → Option R) : Cl E R :=
  fun fr H nx k => g1 fr fun a => g2 fr fun b => biW fW slow a b fun z => k z H nx
theorem biV_sound {op : BinOp} {t t' : TypeId} {x y : Operand} {g1 g2 : E → (AV → Option R) → Option R} {fW : IntKind → Nat → Nat → (AV → Option R) → Option R → Option R} (h1 : Gets ρ x g1) (h2 : Gets ρ y g2) (hW : FastW P op fW) (slow : AV → AV → (AV → Option R) → Option R)
    (hslow : ∀ fr H nx k r, slow (ρ fr x) (ρ fr y) k = some r → ∃ z, k z = some r ∧ StepOk P ⟨dst, .binOp op t x y t', ty, pos, after, guard⟩ (ρ fr) H nx z H nx) :
    Sound P ρ ⟨dst, .binOp op t x y t', ty, pos, after, guard⟩ (biV fW slow g1 g2) := by
  intro fr H nx k r h
  unfold biV biW at h
  rw [h1, h2] at h
  have sl : slow (ρ fr x) (ρ fr y) (fun z => k z H nx) = some r → ∃ z H' nx', k z H' nx' = some r ∧ StepOk P ⟨dst, .binOp op t x y t', ty, pos, after, guard⟩ (ρ fr) H nx z H' nx' := fun h => by
    obtain ⟨z, h, hz⟩ := hslow fr H nx _ _ h
    exact ⟨z, H, nx, h, hz⟩
  rcases asW_some h with ⟨kd, m, e1, h⟩ | h
  · rcases asW_some h with ⟨kd', n, e2, h⟩ | h
    · rcases ifK_some h with ⟨hk, h5⟩ | ⟨_, h⟩
      · have := isKeq_eq hk
        clear h
        subst this
        obtain ⟨z, hz⟩ := hW kd m n
        rcases hz _ _ _ h5 with h | ⟨h, hv⟩
        · exact sl h
        · refine ⟨z, H, nx, h, fun β w ρv F hρ hr hF => ?_⟩
          have r1 := hρ x
          have r2 := hρ y
          rw [e1] at r1
          rw [e2] at r2
          obtain ⟨q1, l1, s1⟩ := r1
          obtain ⟨q2, l2, _⟩ := r2
          obtain ⟨v, hv1, hv2⟩ := hv s1 l1 l2
          exact runB_ok hr (by rw [q1, q2]; exact hv2) hv1
      · exact sl h
    · exact sl h
  · exact sl h

/-! the quick functions -/
noncomputable def boolK (b : Bool) (k : AV → Option R) : Option R := Bool.rec (motive := fun _ => Option R) (k (.c (.b false))) (k (.c (.b true))) b
theorem boolK_eq (b : Bool) (k : AV → Option R) : boolK b k = k (.c (.b b)) := by cases b <;> rfl
noncomputable def bitsK (k : IntKind) : Nat := IntKind.rec (motive := fun _ => Nat) 256 65536 4294967296 18446744073709551616 256 65536 4294967296 18446744073709551616 k
theorem bitsK_eq (k : IntKind) : bitsK k = 2 ^ k.bits := by cases k <;> rfl

noncomputable def addI (m n : Nat) (k : AV → Option R) : Option R := natK (Nat.mod (Nat.add (Nat.add m n) half) full) fun s => k (.c (.i s))
noncomputable def subI (m n : Nat) (k : AV → Option R) : Option R := natK (Nat.mod (Nat.sub (Nat.add m 27670116110564327424) n) full) fun s => k (.c (.i s))
noncomputable def mulI (m n : Nat) (k : AV → Option R) : Option R := natK (Nat.mod (Nat.add (Nat.mul (Nat.add m half) (Nat.add n half)) half) full) fun s => k (.c (.i s))
noncomputable def addW (kd : IntKind) (m n : Nat) (k : AV → Option R) (_ : Option R) : Option R := natK (Nat.mod (Nat.add m n) (bitsK kd)) fun s => k (.c (.o (.w kd s)))
noncomputable def subW (kd : IntKind) (m n : Nat) (k : AV → Option R) (_ : Option R) : Option R := natK (Nat.mod (Nat.sub (Nat.add m (bitsK kd)) n) (bitsK kd)) fun s => k (.c (.o (.w kd s)))
noncomputable def mulW (kd : IntKind) (m n : Nat) (k : AV → Option R) (_ : Option R) : Option R := natK (Nat.mod (Nat.mul m n) (bitsK kd)) fun s => k (.c (.o (.w kd s)))
noncomputable def noW (_ : IntKind) (_ _ : Nat) (_ : AV → Option R) (no : Option R) : Option R := no
noncomputable def cmpI (f : Nat → Nat → Bool) (m n : Nat) (k : AV → Option R) : Option R := boolK (f m n) k
noncomputable def cmpW (f : Nat → Nat → Bool) (_ : IntKind) (m n : Nat) (k : AV → Option R) (_ : Option R) : Option R := boolK (f m n) k

theorem runB_arith {op : BinOp} {k : IntKind} {a b : Int} {v : Value} (hop : op ≠ .eql ∧ op ≠ .neq) (h : ∀ w, (binOp op 0 (.int k a) (.int k b)).run P w = .ok v w) (ht : ∀ t, binOp op t (.int k a) (.int k b) = binOp op 0 (.int k a) (.int k b)) : RunB P op (.int k a) (.int k b) v := fun t x y w => by
  have : (eqGuard op t x y (.int k a) (.int k b)).run P w = .ok () w := by
    unfold eqGuard
    cases op <;> first | (simp; done) | exact absurd rfl hop.1 | exact absurd rfl hop.2
  rw [Sem.run_bind, this]
  simp only [Result.andThen_ok, ht]
  exact h w
theorem addI_fast : FastI P .add (addI (R := R)) := fun m n => ⟨_, fun k => natK_eq _ _, fun hm hn => by
  obtain ⟨h1, h2⟩ := wrap_biased ((m + n + half) % full) (((m : Int) - half) + ((n : Int) - half)) (by simp only [half, full]; omega)
  exact ⟨.int .i64 (IntKind.i64.wrap (((m : Int) - half) + ((n : Int) - half))), fun β => ⟨h1, by rw [h2]; rfl⟩, runB_arith (by simp) (fun w => by simp [binOp, Op.intArith]) (fun t => rfl)⟩⟩
theorem subI_fast : FastI P .sub (subI (R := R)) := fun m n => ⟨_, fun k => natK_eq _ _, fun hm hn => by
  obtain ⟨h1, h2⟩ := wrap_biased ((m + 27670116110564327424 - n) % full) (((m : Int) - half) - ((n : Int) - half)) (by simp only [half, full] at *; omega)
  exact ⟨.int .i64 (IntKind.i64.wrap (((m : Int) - half) - ((n : Int) - half))), fun β => ⟨h1, by rw [h2]; rfl⟩, runB_arith (by simp) (fun w => by simp [binOp, Op.intArith]) (fun t => rfl)⟩⟩
theorem mulI_fast : FastI P .mul (mulI (R := R)) := fun m n => ⟨_, fun k => natK_eq _ _, fun hm hn => by
  obtain ⟨h1, h2⟩ := wrap_biased (((m + half) * (n + half) + half) % full) (((m : Int) - half) * ((n : Int) - half)) (by
    have e : ((((m + half) * (n + half) + half : Nat) : Int)) = (((m : Int) - half) * ((n : Int) - half) + half) + full * ((m : Int) + n) := by
      simp only [Int.natCast_add, Int.natCast_mul]
      have hf : (full : Int) = 2 * (half : Int) := by decide
      rw [hf]
      simp only [Int.add_mul, Int.mul_add, Int.sub_mul, Int.mul_sub, Int.mul_assoc]
      have e1 : (m : Int) * (half : Int) = (half : Int) * m := Int.mul_comm _ _
      have e2 : (2 : Int) * ((half : Int) * (m : Int)) = (half : Int) * m + (half : Int) * m := by omega
      have e3 : (2 : Int) * ((half : Int) * (n : Int)) = (half : Int) * n + (half : Int) * n := by omega
      rw [e1, e2, e3]
      omega
    rw [Int.natCast_emod, e, Int.add_mul_emod_self_left])
  exact ⟨.int .i64 (IntKind.i64.wrap (((m : Int) - half) * ((n : Int) - half))), fun β => ⟨h1, by rw [h2]; rfl⟩, runB_arith (by simp) (fun w => by simp [binOp, Op.intArith]) (fun t => rfl)⟩⟩
theorem pow_pos' (k : IntKind) : 0 < 2 ^ k.bits := Nat.pow_pos (by omega)
theorem addW_fast : FastW P .add (addW (R := R)) := fun kd m n => ⟨.c (.o (.w kd ((m + n) % 2 ^ kd.bits))), fun k no r h => .inr (by
  unfold addW at h
  rw [natK_eq, bitsK_eq] at h
  refine ⟨h, fun hs hm hn => ⟨.int kd (kd.wrap ((m : Int) + n)), fun β => ⟨?_, Nat.mod_lt _ (pow_pos' kd), hs⟩, runB_arith (by simp) (fun w => by simp [binOp, Op.intArith]) (fun t => rfl)⟩⟩
  rw [wrapU hs]; simp)⟩
theorem subW_fast : FastW P .sub (subW (R := R)) := fun kd m n => ⟨.c (.o (.w kd ((m + 2 ^ kd.bits - n) % 2 ^ kd.bits))), fun k no r h => .inr (by
  unfold subW at h
  rw [natK_eq, bitsK_eq] at h
  refine ⟨h, fun hs hm hn => ⟨.int kd (kd.wrap ((m : Int) - n)), fun β => ⟨?_, Nat.mod_lt _ (pow_pos' kd), hs⟩, runB_arith (by simp) (fun w => by simp [binOp, Op.intArith]) (fun t => rfl)⟩⟩
  rw [wrapU hs]
  have e : ((m + 2 ^ kd.bits - n : Nat) : Int) = ((m : Int) - n) + ((2 ^ kd.bits : Nat) : Int) := by omega
  have e2 : (2 ^ kd.bits : Int) = ((2 ^ kd.bits : Nat) : Int) := by simp
  rw [e2, Int.natCast_emod, e, Int.add_emod_right])⟩
theorem mulW_fast : FastW P .mul (mulW (R := R)) := fun kd m n => ⟨.c (.o (.w kd ((m * n) % 2 ^ kd.bits))), fun k no r h => .inr (by
  unfold mulW at h
  rw [natK_eq, bitsK_eq] at h
  refine ⟨h, fun hs hm hn => ⟨.int kd (kd.wrap ((m : Int) * n)), fun β => ⟨?_, Nat.mod_lt _ (pow_pos' kd), hs⟩, runB_arith (by simp) (fun w => by simp [binOp, Op.intArith]) (fun t => rfl)⟩⟩
  rw [wrapU hs]; simp)⟩
theorem noW_fast (op : BinOp) : FastW P op (noW (R := R)) := fun kd m n => ⟨.u, fun k no r h => .inl h⟩

theorem runB_cmp {op : BinOp} {k : IntKind} {a b : Int} {c : Bool} (h : Op.intCmp op a b = pure (.bool c)) (hop : op = .eql ∨ op = .neq ∨ op = .lss ∨ op = .leq ∨ op = .gtr ∨ op = .geq) : RunB P op (.int k a) (.int k b) (.bool c) := fun t x y w => by
  have e1 : (eqGuard op t x y (.int k a) (.int k b)).run P w = .ok () w := by
    unfold eqGuard
    rcases hop with rfl | rfl | rfl | rfl | rfl | rfl <;> simp
  have e2 : (binOp op t (.int k a) (.int k b)) = Op.intCmp op a b := by
    rcases hop with rfl | rfl | rfl | rfl | rfl | rfl <;> simp [binOp]
  rw [Sem.run_bind, e1]
  simp only [Result.andThen_ok, e2, h]
  rfl
theorem cmp_fastI {op : BinOp} {f : Nat → Nat → Bool} (hop : op = .eql ∨ op = .neq ∨ op = .lss ∨ op = .leq ∨ op = .gtr ∨ op = .geq) (h : ∀ (m n : Nat) (c : Int), Op.intCmp op ((m : Int) - c) ((n : Int) - c) = pure (.bool (f m n))) : FastI P op (cmpI (R := R) f) := fun m n =>
  ⟨.c (.b (f m n)), fun k => boolK_eq _ _, fun _ _ => ⟨.bool (f m n), fun β => rfl, runB_cmp (h m n _) hop⟩⟩
theorem cmp_fastW {op : BinOp} {f : Nat → Nat → Bool} (hop : op = .eql ∨ op = .neq ∨ op = .lss ∨ op = .leq ∨ op = .gtr ∨ op = .geq) (h : ∀ (m n : Nat) (c : Int), Op.intCmp op ((m : Int) - c) ((n : Int) - c) = pure (.bool (f m n))) : FastW P op (cmpW (R := R) f) := fun kd m n =>
  ⟨.c (.b (f m n)), fun k no r hh => .inr ⟨by unfold cmpW at hh; rw [boolK_eq] at hh; exact hh, fun _ _ _ => ⟨.bool (f m n), fun β => rfl, runB_cmp (by simpa using h m n 0) hop⟩⟩⟩

noncomputable def fEq (m n : Nat) : Bool := Nat.beq m n
noncomputable def fNe (m n : Nat) : Bool := Bool.rec true false (Nat.beq m n)
noncomputable def fLt (m n : Nat) : Bool := Nat.ble (Nat.succ m) n
noncomputable def fLe (m n : Nat) : Bool := Nat.ble m n
noncomputable def fGt (m n : Nat) : Bool := Nat.ble (Nat.succ n) m
noncomputable def fGe (m n : Nat) : Bool := Nat.ble n m
theorem fEq_ok (m n : Nat) (c : Int) : Op.intCmp .eql ((m : Int) - c) ((n : Int) - c) = pure (.bool (fEq m n)) := by
  simp only [Op.intCmp, fEq, Go.Eb.beqD]
  congr 2
  rw [Bool.eq_iff_iff]; simp <;> omega
theorem fNe_ok (m n : Nat) (c : Int) : Op.intCmp .neq ((m : Int) - c) ((n : Int) - c) = pure (.bool (fNe m n)) := by
  have : fNe m n = !(fEq m n) := by unfold fNe fEq; cases Nat.beq m n <;> rfl
  rw [this]
  simp only [Op.intCmp, fEq, Go.Eb.beqD]
  congr 2
  rw [Bool.eq_iff_iff]; simp <;> omega
theorem fLt_ok (m n : Nat) (c : Int) : Op.intCmp .lss ((m : Int) - c) ((n : Int) - c) = pure (.bool (fLt m n)) := by
  simp only [Op.intCmp, fLt, Go.Eb.bleD]
  congr 2
  rw [Bool.eq_iff_iff]; simp <;> omega
theorem fLe_ok (m n : Nat) (c : Int) : Op.intCmp .leq ((m : Int) - c) ((n : Int) - c) = pure (.bool (fLe m n)) := by
  simp only [Op.intCmp, fLe, Go.Eb.bleD]
  congr 2
  rw [Bool.eq_iff_iff]; simp <;> omega
theorem fGt_ok (m n : Nat) (c : Int) : Op.intCmp .gtr ((m : Int) - c) ((n : Int) - c) = pure (.bool (fGt m n)) := by
  simp only [Op.intCmp, fGt, Go.Eb.bleD]
  congr 2
  rw [Bool.eq_iff_iff]; simp <;> omega
theorem fGe_ok (m n : Nat) (c : Int) : Op.intCmp .geq ((m : Int) - c) ((n : Int) - c) = pure (.bool (fGe m n)) := by
  simp only [Op.intCmp, fGe, Go.Eb.bleD]
  congr 2
  rw [Bool.eq_iff_iff]; simp <;> omega
end
end Go.Ez
namespace Go.Ez
open Go.RowKit
open Go.Eb (aggT sizeT bytesT placesT pr pr_run run_sizeT run_aggT placesT_run add_none)

section
variable {E R : Type} {P : Program} {ρ : E → Operand → AV} {dst : Option Tmp} {ty : TypeId} {pos : String} {after : Array Edge} {guard : Option (Nat × Bool)}

noncomputable def asTn (x : AV) (k : Nat → Nat → Option R) (no : Option R) : Option R := asO x (fun c => C0.rec (motive := fun _ => Option R) (fun _ => no) k (fun _ _ _ => no) (fun _ => no) (fun _ _ => no) c) no
theorem asTn_some {x : AV} {k : Nat → Nat → Option R} {no : Option R} {r : R} (h : asTn x k no = some r) : (∃ l n, x = .c (.o (.t l n)) ∧ k l n = some r) ∨ no = some r := by
  rcases asO_some h with ⟨c, e, h⟩ | h
  · cases c with
    | t l n => exact .inl ⟨l, n, e, h⟩
    | _ => exact .inr h
  · exact .inr h

/-- a sum of texts; else by the model -/
noncomputable def addS (P : Program) (t : TypeId) (x y : Operand) (a b : AV) (k : AV → Option R) : Option R :=
  asTn a (fun l m => asTn b (fun l' n => natK (Nat.add l l') fun s => leK s 9223372036854775807 (natK (Nat.add m (Nat.shiftLeft n (Nat.mul 8 l))) fun q => k (.c (.o (.t s q))))) none) (binS P .add t x y a b k)
theorem addS_ok {t t' : TypeId} {x y : Operand} (fr : E) (H : Hz) (nx : Pa) (k : AV → Option R) (r : R) (h : addS P t x y (ρ fr x) (ρ fr y) k = some r) :
    ∃ z, k z = some r ∧ StepOk P ⟨dst, .binOp .add t x y t', ty, pos, after, guard⟩ (ρ fr) H nx z H nx := by
  unfold addS at h
  rcases asTn_some h with ⟨l, m, e1, h⟩ | h
  · rcases asTn_some h with ⟨l', n, e2, h⟩ | h
    · rw [natK_eq] at h
      obtain ⟨hle, h⟩ := leK_some h
      rw [natK_eq] at h
      refine ⟨_, h, fun β w ρv F hρ hr hF => ?_⟩
      have r1 := hρ x
      have r2 := hρ y
      rw [e1] at r1
      rw [e2] at r2
      obtain ⟨q1, b1⟩ := r1
      obtain ⟨q2, b2⟩ := r2
      refine ok_val hr (v := .string (bytesN l m ++ bytesN l' n)) ?_ ⟨by rw [bytesN_append b1 b2]; rfl, append_lt b1 b2⟩
      have hgt : ¬ ((((bytesN l m).size + (bytesN l' n).size : Nat) : Int) > IntKind.i64.max) := by
        have e : IntKind.i64.max = 9223372036854775807 := by decide
        rw [bytesN_size, bytesN_size, e]
        have : Nat.add l l' = l + l' := rfl
        omega
      simp only [execOp, q1, q2, binOp_string_add, Op.stringOp, hgt, if_false]
      simp [eqGuard]
    · cases h
  · exact binS_ok h

noncomputable def fAnd (m n : Nat) : Bool := Bool.rec false (Nat.beq m n) true

/-- equal: ints, bools, texts, unsigned numbers, pointers; else by the model -/
noncomputable def eqS (P : Program) (neg : Bool) (isB isP isS : Bool) (t : TypeId) (x y : Operand) (a b : AV) (k : AV → Option R) : Option R :=
  asB a (fun p => asB b (fun q => ifK isB (boolK (xor neg (p == q)) k) none) none)
  (asTn a (fun l m => asTn b (fun l' n => boolK (xor neg (Nat.beq l l' && Nat.beq m n)) k) none)
  (asP a (fun h o => asP b (fun h' o' => ifK (Pa.beq h h' && isP) (boolK (xor neg (Nat.beq o o')) k) none) (asO b (fun c => ifK (isP && (match c with | .v (.pointer none) => true | _ => false)) (boolK neg k) none) none))
  (asP b (fun _ _ => asO a (fun c => ifK (isP && (match c with | .v (.pointer none) => true | _ => false)) (boolK neg k) none) none)
  (asS a (fun _ _ _ _ _ => asO b (fun c => ifK (isS && (match c with | .v (.slice none 0 0) => true | _ => false)) (boolK neg k) none) none)
  (binS P (bif neg then .neq else .eql) t x y a b k)))))

theorem runB_neg {a b : Value} {r : Bool} (neg : Bool) (t : TypeId) (x y : Operand) (w : World) (he : ∀ op : BinOp, (eqGuard op t x y a b).run P w = .ok () w) (h1 : (binOp .eql t a b).run P w = .ok (.bool r) w) (h2 : (binOp .neq t a b).run P w = .ok (.bool (!r)) w) :
    ((do eqGuard (bif neg then .neq else .eql) t x y a b; binOp (bif neg then .neq else .eql) t a b) : Sem Value).run P w = .ok (.bool (xor neg r)) w := by
  rw [Sem.run_bind, he]
  simp only [Result.andThen_ok]
  cases neg with
  | true => simpa using h2
  | false => simpa using h1

theorem eqS_ok {neg : Bool} {isB isP isS : Bool} {t t' : TypeId} {x y : Operand} (hB : isB = true → P.underlying t = some .bool) (hP : isP = true → Go.Eb.isPtrT P t = true) (hS : isS = true → ∃ e, P.underlying t = some (.slice e)) (fr : E) (H : Hz) (nx : Pa) (k : AV → Option R) (r : R) (h : eqS P neg isB isP isS t x y (ρ fr x) (ρ fr y) k = some r) :
    ∃ z, k z = some r ∧ StepOk P ⟨dst, .binOp (bif neg then .neq else .eql) t x y t', ty, pos, after, guard⟩ (ρ fr) H nx z H nx := by
  have fin : ∀ (z : AV) (v : Value), k z = some r → (∀ (β : Bz) (w : World) (ρv : Operand → Value), (∀ y, RepA β (ρ fr y) (ρv y)) → ((do eqGuard (bif neg then .neq else .eql) t x y (ρv x) (ρv y); binOp (bif neg then .neq else .eql) t (ρv x) (ρv y)) : Sem Value).run P w = .ok v w) → (∀ β, RepA β z v) →
      ∃ z, k z = some r ∧ StepOk P ⟨dst, .binOp (bif neg then .neq else .eql) t x y t', ty, pos, after, guard⟩ (ρ fr) H nx z H nx := fun z v hz hrun hrep =>
    ⟨z, hz, fun β w ρv F hρ hr hF => ok_val hr (v := v) (by simp only [execOp]; rw [Sem.run_bind, hrun β w ρv hρ]; rfl) (hrep β)⟩
  have ptr : ∀ {β : Bz} {w : World} {a b : Option Addr} {q : Bool}, isP = true → (a = none ∧ q = b.isNone ∨ b = none ∧ q = a.isNone ∨ ∃ c d e, a = some ⟨c, d, none⟩ ∧ b = some ⟨c, e, none⟩ ∧ q = Nat.beq d e) →
      ((do eqGuard (bif neg then .neq else .eql) t x y (.pointer a) (.pointer b); binOp (bif neg then .neq else .eql) t (.pointer a) (.pointer b)) : Sem Value).run P w = .ok (.bool (xor neg q)) w := by
    intro β w a b q hp hab
    have ht := hP hp
    unfold Go.Eb.isPtrT at ht
    split at ht
    · rename_i e hu
      split at ht
      · rename_i s hsz
        have heq : (Op.equal t (.pointer a) (.pointer b)).run P w = .ok q w := by
          rcases hab with ⟨rfl, rfl⟩ | ⟨rfl, rfl⟩ | ⟨c, d, e, rfl, rfl, rfl⟩
          · rw [Op.equal, Op.maxDepth]; unfold Op.equalIn; simp [run_underlying hu]
          · cases a with
            | none => rw [Op.equal, Op.maxDepth]; unfold Op.equalIn; simp [run_underlying hu]
            | some a => rw [Op.equal, Op.maxDepth]; unfold Op.equalIn; simp [run_underlying hu]
          · rw [Op.equal, Op.maxDepth]
            unfold Op.equalIn
            simp [run_underlying hu, run_sizeT hsz, sameAddr, Go.Eb.beqD]
            rw [Bool.eq_iff_iff]
            simp
        exact runB_neg neg t x y w (fun op => by simp [eqGuard]) (by simp [binOp, heq]) (by simp [binOp, heq])
      · cases ht
    · cases ht
  unfold eqS at h
  rcases asB_some h with ⟨p, e1, h⟩ | h
  · rcases asB_some h with ⟨q, e2, h⟩ | h
    · obtain ⟨hb0, h⟩ := ifK_none h
      have hb := hB hb0
      rw [boolK_eq] at h
      refine fin _ (.bool (xor neg (p == q))) h (fun β w ρv hρ => ?_) (fun β => rfl)
      have r1 := hρ x
      have r2 := hρ y
      rw [e1] at r1
      rw [e2] at r2
      rw [show ρv x = .bool p from r1, show ρv y = .bool q from r2]
      have heq : (Op.equal t (.bool p) (.bool q)).run P w = .ok (p == q) w := by
        rw [Op.equal, Op.maxDepth]; unfold Op.equalIn; simp [run_underlying hb]
      exact runB_neg neg t x y w (fun op => by simp [eqGuard]) (by simp [binOp, heq]) (by simp [binOp, heq])
    · cases h
  · rcases asTn_some h with ⟨l, m, e1, h⟩ | h
    · rcases asTn_some h with ⟨l', n, e2, h⟩ | h
      · rw [boolK_eq] at h
        refine fin _ (.bool (xor neg (Nat.beq l l' && Nat.beq m n))) h (fun β w ρv hρ => ?_) (fun β => rfl)
        have r1 := hρ x
        have r2 := hρ y
        rw [e1] at r1
        rw [e2] at r2
        obtain ⟨q1, b1⟩ := r1
        obtain ⟨q2, b2⟩ := r2
        rw [q1, q2]
        have hq : ((bytesN l m).toList == (bytesN l' n).toList) = (Nat.beq l l' && Nat.beq m n) := by
          rw [Bool.eq_iff_iff]
          simp only [Go.Eb.beqD, beq_iff_eq, Bool.and_eq_true, decide_eq_true_eq]
          constructor
          · intro hh
            rw [ByteArray.toList_eq, ByteArray.toList_eq] at hh
            refine bytesN_inj b1 b2 ?_
            rw [← bytesN_pack (bytesN l m), ← bytesN_pack (bytesN l' n), hh]
            congr 1
            have := congrArg List.length hh
            simpa using this
          · rintro ⟨rfl, rfl⟩; rfl
        refine runB_neg neg t x y w (fun op => by simp [eqGuard]) ?_ ?_
        · simp [binOp, Op.stringOp, hq]
        · simp [binOp, Op.stringOp, hq]
      · cases h
    · rcases asP_some h with ⟨p, o, e1, h⟩ | h
      · rcases asP_some h with ⟨p', o', e2, h⟩ | h
        · obtain ⟨hc, h⟩ := ifK_none h
          simp only [Bool.and_eq_true] at hc
          have hpp := (Pa.beq_iff p p').1 hc.1
          rw [boolK_eq] at h
          refine fin _ (.bool (xor neg (Nat.beq o o'))) h (fun β w ρv hρ => ?_) (fun β => rfl)
          have r1 := hρ x
          have r2 := hρ y
          rw [e1] at r1
          rw [e2] at r2
          obtain ⟨b, N, hb, q1⟩ := r1
          obtain ⟨b', N', hb', q2⟩ := r2
          rw [← hpp, hb] at hb'
          cases hb'
          rw [q1, q2]
          exact ptr (β := β) hc.2 (.inr (.inr ⟨_, _, _, rfl, rfl, rfl⟩))
        · rcases asO_some h with ⟨c, e2, h⟩ | h
          · obtain ⟨hc, h9⟩ := ifK_none h
            clear h
            simp only [Bool.and_eq_true] at hc
            obtain ⟨hp, hc⟩ := hc
            split at hc
            · rw [boolK_eq] at h9
              refine fin (.c (.b neg)) (.bool (xor neg false)) h9 (fun β w ρv hρ => ?_) (fun β => by cases neg <;> rfl)
              have r1 := hρ x
              have r2 := hρ y
              rw [e1] at r1
              rw [e2] at r2
              obtain ⟨b, N, hb, q1⟩ := r1
              rw [q1, r2.1]
              exact ptr (β := β) hp (.inr (.inl ⟨rfl, rfl⟩))
            · cases hc
          · cases h
      · rcases asP_some h with ⟨p, o, e2, h⟩ | h
        · rcases asO_some h with ⟨c, e1, h⟩ | h
          · obtain ⟨hc, h9⟩ := ifK_none h
            clear h
            simp only [Bool.and_eq_true] at hc
            obtain ⟨hp, hc⟩ := hc
            split at hc
            · rw [boolK_eq] at h9
              refine fin (.c (.b neg)) (.bool (xor neg false)) h9 (fun β w ρv hρ => ?_) (fun β => by cases neg <;> rfl)
              have r1 := hρ x
              have r2 := hρ y
              rw [e1] at r1
              rw [e2] at r2
              obtain ⟨b, N, hb, q2⟩ := r2
              rw [q2, r1.1]
              exact ptr (β := β) hp (.inl ⟨rfl, rfl⟩)
            · cases hc
          · cases h
        · rcases asS_some h with ⟨p, o, z, l, oc, e1, h⟩ | h
          · rcases asO_some h with ⟨c, e2, h⟩ | h
            · obtain ⟨hc, h9⟩ := ifK_none h
              clear h
              simp only [Bool.and_eq_true] at hc
              obtain ⟨hp, hc⟩ := hc
              split at hc
              · rw [boolK_eq] at h9
                refine fin (.c (.b neg)) (.bool (xor neg false)) h9 (fun β w ρv hρ => ?_) (fun β => by cases neg <;> rfl)
                have r1 := hρ x
                have r2 := hρ y
                rw [e1] at r1
                rw [e2] at r2
                obtain ⟨b, N, cap, hb, q1, _⟩ := r1
                obtain ⟨e, hu⟩ := hS hp
                rw [q1, r2.1]
                have heq : (Op.equal t (.slice (some ⟨b, o, none⟩) l cap) (.slice none 0 0)).run P w = .ok false w := by
                  rw [Op.equal, Op.maxDepth]; unfold Op.equalIn; simp [run_underlying hu]
                exact runB_neg neg t x y w (fun op => by simp [eqGuard]) (by simp [binOp, heq]) (by simp [binOp, heq])
              · cases hc
            · cases h
          · exact binS_ok h

/-! and, shifts, of unsigned numbers -/
noncomputable def andW (kd : IntKind) (m n : Nat) (k : AV → Option R) (_ : Option R) : Option R := natK (Nat.land m n) fun s => k (.c (.o (.w kd s)))
theorem runB_bits {op : BinOp} {k : IntKind} {a b : Int} {v : Value} (h : Op.intBits op k a b = pure v) (hop : op = .and ∨ op = .or ∨ op = .xor ∨ op = .andNot) : RunB P op (.int k a) (.int k b) v := fun t x y w => by
  have e1 : (eqGuard op t x y (.int k a) (.int k b)).run P w = .ok () w := by
    unfold eqGuard
    rcases hop with rfl | rfl | rfl | rfl <;> simp
  have e2 : (binOp op t (.int k a) (.int k b)) = Op.intBits op k a b := by
    rcases hop with rfl | rfl | rfl | rfl <;> simp [binOp]
  rw [Sem.run_bind, e1]
  simp only [Result.andThen_ok, e2, h]
  rfl
theorem andW_fast : FastW P .and (andW (R := R)) := fun kd m n => ⟨.c (.o (.w kd (m &&& n))), fun k no r h => .inr (by
  unfold andW at h
  rw [natK_eq] at h
  refine ⟨h, fun hs hm hn => ?_⟩
  have hlt : m &&& n < 2 ^ kd.bits := Nat.lt_of_le_of_lt Nat.and_le_left hm
  refine ⟨.int kd (m &&& n : Nat), fun β => ⟨rfl, hlt, hs⟩, runB_bits ?_ (.inl rfl)⟩
  have e1 : (BitVec.ofInt kd.bits (m : Int)).toNat = m := by simp [Nat.mod_eq_of_lt hm]
  have e2 : (BitVec.ofInt kd.bits (n : Int)).toNat = n := by simp [Nat.mod_eq_of_lt hn]
  have e3 : (BitVec.ofInt kd.bits (m : Int) &&& BitVec.ofInt kd.bits (n : Int)).toNat = m &&& n := by rw [BitVec.toNat_and, e1, e2]
  simp only [Op.intBits, e3]
  rw [wrapU hs]
  congr 2
  have : ((2 : Int) ^ kd.bits) = ((2 ^ kd.bits : Nat) : Int) := by simp
  rw [this]
  exact Int.emod_eq_of_lt (by omega) (by omega))⟩

/-- by how much is shifted -/
noncomputable def cntK (b : AV) (k : Nat → Option R) (no : Option R) : Option R := asI b (fun n => Bool.rec (motive := fun _ => Option R) no (natK (Nat.sub n half) k) (Nat.ble half n)) (asW b (fun _ n => k n) no)
theorem cntK_some {x : AV} {k : Nat → Option R} {no : Option R} {r : R} (h : cntK x k no = some r) : no = some r ∨ ∃ n, k n = some r ∧ ∀ β v, RepA β x v → ∃ kd, v = .int kd (n : Int) := by
  unfold cntK at h
  rcases asI_some h with ⟨n, e, h⟩ | h
  · cases hb : Nat.ble half n with
    | false => rw [hb] at h; exact .inl h
    | true =>
      rw [hb] at h
      rw [Go.Eb.bleD, decide_eq_true_eq] at hb
      simp only [natK_eq] at h
      refine .inr ⟨_, h, fun β v hv => ?_⟩
      rw [e] at hv
      obtain ⟨_, hv⟩ := hv
      refine ⟨.i64, by rw [hv]; congr 1; have : Nat.sub n half = n - half := rfl; omega⟩
  · rcases asW_some h with ⟨l, n, e, h⟩ | h
    · refine .inr ⟨_, h, fun β v hv => ?_⟩
      rw [e] at hv
      exact ⟨l, hv.1⟩
    · exact .inl h
noncomputable def shC (shr : Bool) (slow : AV → AV → (AV → Option R) → Option R) (g1 g2 : E → (AV → Option R) → Option R) : Cl E R := fun fr H nx k => g1 fr fun a => g2 fr fun b =>
  asW a (fun kd m => cntK b (fun n => ifK (Nat.blt n 64) (Bool.rec (motive := fun _ => Option R) (natK (Nat.mod (Nat.shiftLeft m n) (bitsK kd)) fun s => k (.c (.o (.w kd s))) H nx) (natK (Nat.shiftRight m n) fun s => k (.c (.o (.w kd s))) H nx) shr) (slow a b fun z => k z H nx)) (slow a b fun z => k z H nx)) (slow a b fun z => k z H nx)
theorem sh_sound {shr : Bool} {t t' : TypeId} {x y : Operand} {g1 g2 : E → (AV → Option R) → Option R} (h1 : Gets ρ x g1) (h2 : Gets ρ y g2) (slow : AV → AV → (AV → Option R) → Option R)
    (hslow : ∀ fr H nx k r, slow (ρ fr x) (ρ fr y) k = some r → ∃ z, k z = some r ∧ StepOk P ⟨dst, .binOp (bif shr then .shr else .shl) t x y t', ty, pos, after, guard⟩ (ρ fr) H nx z H nx) :
    Sound P ρ ⟨dst, .binOp (bif shr then .shr else .shl) t x y t', ty, pos, after, guard⟩ (shC shr slow g1 g2) := by
  intro fr H nx k r h
  unfold shC at h
  rw [h1, h2] at h
  have sl : slow (ρ fr x) (ρ fr y) (fun z => k z H nx) = some r → ∃ z H' nx', k z H' nx' = some r ∧ StepOk P ⟨dst, .binOp (bif shr then .shr else .shl) t x y t', ty, pos, after, guard⟩ (ρ fr) H nx z H' nx' := fun h => by
    obtain ⟨z, h, hz⟩ := hslow fr H nx _ _ h
    exact ⟨z, H, nx, h, hz⟩
  rcases asW_some h with ⟨kd, m, e1, h⟩ | h
  · rcases cntK_some h with h | ⟨n, h, hn⟩
    · exact sl h
    · rcases ifK_some h with ⟨hc, h⟩ | ⟨_, h⟩
      · rw [Go.Eb.bltD, decide_eq_true_eq] at hc
        have hb : ∀ kd : IntKind, kd.bits ≤ 64 := fun kd => by cases kd <;> decide
        cases shr with
        | true =>
          have h : natK (Nat.shiftRight m n) (fun s => k (.c (.o (.w kd s))) H nx) = some r := h
          rw [natK_eq] at h
          refine ⟨_, _, _, h, fun β w ρv F hρ hr hF => ?_⟩
          have r1 := hρ x
          rw [e1] at r1
          obtain ⟨q1, l1, s1⟩ := r1
          obtain ⟨kd', q2⟩ := hn β _ (hρ y)
          have ediv : Nat.shiftRight m n = m / 2 ^ (min n kd.bits) := by
            have : Nat.shiftRight m n = m >>> n := rfl
            rw [this, Nat.shiftRight_eq_div_pow]
            rcases Nat.le_total n kd.bits with hle | hle
            · rw [Nat.min_eq_left hle]
            · rw [Nat.min_eq_right hle, Nat.div_eq_of_lt l1]
              exact Nat.div_eq_of_lt (Nat.lt_of_lt_of_le l1 (Nat.pow_le_pow_right (by omega) hle))
          refine ok_val hr (v := .int kd ((m : Int).fdiv (2 ^ (min n kd.bits)))) ?_ ⟨?_, ?_, s1⟩
          · have hn0 : ¬ ((n : Int) < 0) := by omega
            simp [execOp, q1, q2, eqGuard, binOp, Op.shift, hn0]
          · rw [ediv]
            have e2 : ((2 : Int) ^ (min n kd.bits)) = ((2 ^ (min n kd.bits) : Nat) : Int) := by simp
            rw [e2, Int.fdiv_eq_ediv_of_nonneg _ (Int.natCast_nonneg _)]
            simp
          · rw [ediv]; exact Nat.lt_of_le_of_lt (Nat.div_le_self _ _) l1
        | false =>
          have h : natK (Nat.mod (Nat.shiftLeft m n) (bitsK kd)) (fun s => k (.c (.o (.w kd s))) H nx) = some r := h
          rw [natK_eq, bitsK_eq] at h
          refine ⟨_, _, _, h, fun β w ρv F hρ hr hF => ?_⟩
          have r1 := hρ x
          rw [e1] at r1
          obtain ⟨q1, l1, s1⟩ := r1
          obtain ⟨kd', q2⟩ := hn β _ (hρ y)
          refine ok_val hr (v := .int kd (kd.wrap ((m : Int) * 2 ^ (min n kd.bits)))) ?_ ⟨?_, Nat.mod_lt _ (pow_pos' kd), s1⟩
          · have hn0 : ¬ ((n : Int) < 0) := by omega
            simp [execOp, q1, q2, eqGuard, binOp, Op.shift, hn0]
          · rw [wrapU s1]
            congr 1
            have : Nat.shiftLeft m n = m <<< n := rfl
            have hm : ∀ a b : Nat, Nat.mod a b = a % b := fun _ _ => rfl
            rw [hm, this, Nat.shiftLeft_eq]
            rcases Nat.le_total n kd.bits with hle | hle
            · rw [Nat.min_eq_left hle]
              simp
            · rw [Nat.min_eq_right hle]
              have : (2 : Nat) ^ n = 2 ^ kd.bits * 2 ^ (n - kd.bits) := by rw [← Nat.pow_add]; congr 1; omega
              rw [this, ← Nat.mul_assoc, Nat.mul_comm m, Nat.mul_assoc, Nat.mul_mod_right]
              simp
      · exact sl h
  · exact sl h
end
end Go.Ez
namespace Go.Ez
open Go.RowKit
open Go.Eb (aggT sizeT bytesT placesT pr pr_run run_sizeT run_aggT placesT_run add_none)

section
variable {E R : Type} {P : Program} {ρ : E → Operand → AV} {dst : Option Tmp} {ty : TypeId} {pos : String} {after : Array Edge} {guard : Option (Nat × Bool)}

noncomputable def unS (P : Program) (op : UnOp) (a : AV) (k : AV → Option R) : Option R := optK (concA a) fun u => optK (pr P (Op.unary op u)) fun r => outK r k
theorem unS_ok {op : UnOp} {t : TypeId} {x : Operand} {fr : E} {H : Hz} {nx : Pa} {k : AV → Option R} {r : R} (h : unS P op (ρ fr x) k = some r) : ∃ z, k z = some r ∧ StepOk P ⟨dst, .unOp op t x, ty, pos, after, guard⟩ (ρ fr) H nx z H nx := by
  unfold unS at h
  obtain ⟨u, hu, h⟩ := optK_some h
  obtain ⟨q, hq, h⟩ := optK_some h
  obtain ⟨z, h, hz⟩ := outK_some h
  refine ⟨z, h, fun β w ρv F hρ hr hF => ok_val hr (v := q) ?_ (hz β)⟩
  have e1 := concA_eq hu (hρ x)
  simp [execOp, e1, pr_run P _ q hq w]
noncomputable def notC (P : Program) (g : E → (AV → Option R) → Option R) : Cl E R := fun fr H nx k => g fr fun a => asB a (fun b => Bool.rec (motive := fun _ => Option R) (k (.c (.b true)) H nx) (k (.c (.b false)) H nx) b) none
theorem not_sound {t : TypeId} {x : Operand} {g : E → (AV → Option R) → Option R} (hg : Gets ρ x g) : Sound P ρ ⟨dst, .unOp .not t x, ty, pos, after, guard⟩ (notC P g) := fun fr H nx k r h => by
  unfold notC at h
  rw [hg] at h
  rcases asB_some h with ⟨b, e, h⟩ | h
  · have h : k (.c (.b (!b))) H nx = some r := by cases b <;> exact h
    refine ⟨_, _, _, h, fun β w ρv F hρ hr hF => ok_val hr (v := .bool (!b)) ?_ rfl⟩
    have r1 := hρ x
    rw [e] at r1
    rw [show RepA β (.c (.b b)) (ρv x) = (ρv x = .bool b) from rfl] at r1
    simp [execOp, r1, Op.unary]
  · cases h
noncomputable def negC (P : Program) (g : E → (AV → Option R) → Option R) : Cl E R := fun fr H nx k => g fr fun a => asI a (fun n => natK (Nat.mod (Nat.sub full n) full) fun m => k (.c (.i m)) H nx) (unS P .neg a fun z => k z H nx)
theorem neg_sound {t : TypeId} {x : Operand} {g : E → (AV → Option R) → Option R} (hg : Gets ρ x g) : Sound P ρ ⟨dst, .unOp .neg t x, ty, pos, after, guard⟩ (negC P g) := fun fr H nx k r h => by
  unfold negC at h
  rw [hg] at h
  rcases asI_some h with ⟨n, e, h⟩ | h
  · rw [natK_eq] at h
    refine ⟨_, _, _, h, fun β w ρv F hρ hr hF => ?_⟩
    have r1 := hρ x
    rw [e] at r1
    obtain ⟨l1, q1⟩ := r1
    obtain ⟨h1, h2⟩ := wrap_biased ((full - n) % full) (0 - ((n : Int) - half)) (by simp only [half, full] at *; omega)
    exact ok_val hr (v := .int .i64 (IntKind.i64.wrap (0 - ((n : Int) - half)))) (by simp [execOp, q1, Op.unary, Op.intArith]) ⟨h1, by rw [h2]; rfl⟩
  · obtain ⟨z, h, hz⟩ := unS_ok (dst := dst) (ty := ty) (pos := pos) (after := after) (guard := guard) (t := t) (H := H) (nx := nx) h
    exact ⟨z, H, nx, h, hz⟩
noncomputable def unC (P : Program) (op : UnOp) (g : E → (AV → Option R) → Option R) : Cl E R := fun fr H nx k => g fr fun a => unS P op a fun z => k z H nx
theorem un_sound {op : UnOp} {t : TypeId} {x : Operand} {g : E → (AV → Option R) → Option R} (hg : Gets ρ x g) : Sound P ρ ⟨dst, .unOp op t x, ty, pos, after, guard⟩ (unC P op g) := fun fr H nx k r h => by
  unfold unC at h
  rw [hg] at h
  obtain ⟨z, h, hz⟩ := unS_ok (dst := dst) (ty := ty) (pos := pos) (after := after) (guard := guard) (t := t) (H := H) (nx := nx) h
  exact ⟨z, H, nx, h, hz⟩

/-! conversions -/
noncomputable def convS (P : Program) (s t : TypeId) (a : AV) (k : AV → Option R) : Option R := optK (concA a) fun u => optK (pr P (Go.convert s t u)) fun r => outK r k
theorem convS_ok {s t : TypeId} {x : Operand} {fr : E} {H : Hz} {nx : Pa} {k : AV → Option R} {r : R} (h : convS P s t (ρ fr x) k = some r) : ∃ z, k z = some r ∧ StepOk P ⟨dst, .convert s t x, ty, pos, after, guard⟩ (ρ fr) H nx z H nx := by
  unfold convS at h
  obtain ⟨u, hu, h⟩ := optK_some h
  obtain ⟨q, hq, h⟩ := optK_some h
  obtain ⟨z, h, hz⟩ := outK_some h
  refine ⟨z, h, fun β w ρv F hρ hr hF => ok_val hr (v := q) ?_ (hz β)⟩
  have e1 := concA_eq hu (hρ x)
  simp [execOp, e1, pr_run P _ q hq w]
noncomputable def convC (P : Program) (s t : TypeId) (g : E → (AV → Option R) → Option R) : Cl E R := fun fr H nx k => g fr fun a => convS P s t a fun z => k z H nx
theorem conv_sound {s t : TypeId} {x : Operand} {g : E → (AV → Option R) → Option R} (hg : Gets ρ x g) : Sound P ρ ⟨dst, .convert s t x, ty, pos, after, guard⟩ (convC P s t g) := fun fr H nx k r h => by
  unfold convC at h
  rw [hg] at h
  obtain ⟨z, h, hz⟩ := convS_ok (dst := dst) (ty := ty) (pos := pos) (after := after) (guard := guard) (H := H) (nx := nx) h
  exact ⟨z, H, nx, h, hz⟩
/-- between ints -/
noncomputable def cviC (P : Program) (kd : IntKind) (s t : TypeId) (g : E → (AV → Option R) → Option R) : Cl E R := fun fr H nx k => g fr fun a =>
  asI a (fun n => ifK (isKeq kd .i64) (k (.c (.i n)) H nx) (ifK kd.signed (convS P s t a fun z => k z H nx) (natK (Nat.mod (Nat.add n half) (bitsK kd)) fun m => k (.c (.o (.w kd m))) H nx)))
  (asW a (fun kd' m => ifK (isKeq kd .i64) (natK (Nat.mod (Nat.add m half) full) fun n => k (.c (.i n)) H nx) (ifK (isKeq kd kd') (k (.c (.o (.w kd m))) H nx) (convS P s t a fun z => k z H nx))) (convS P s t a fun z => k z H nx))
theorem cvi_sound {kd : IntKind} {s t : TypeId} {ts : TypeDesc} {x : Operand} {g : E → (AV → Option R) → Option R} (hg : Gets ρ x g) (hs : P.underlying s = some ts) (ht : P.underlying t = some (.int kd)) : Sound P ρ ⟨dst, .convert s t x, ty, pos, after, guard⟩ (cviC P kd s t g) := fun fr H nx k r h => by
  unfold cviC at h
  rw [hg] at h
  have sl : convS P s t (ρ fr x) (fun z => k z H nx) = some r → ∃ z H' nx', k z H' nx' = some r ∧ StepOk P ⟨dst, .convert s t x, ty, pos, after, guard⟩ (ρ fr) H nx z H' nx' := fun h => by
    obtain ⟨z, h, hz⟩ := convS_ok (dst := dst) (ty := ty) (pos := pos) (after := after) (guard := guard) (H := H) (nx := nx) h
    exact ⟨z, H, nx, h, hz⟩
  have run : ∀ (w : World) (ρv : Operand → Value) (k' : IntKind) (n : Int), ρv x = .int k' n → (execOp ρv ⟨dst, .convert s t x, ty, pos, after, guard⟩).run P w = .ok (.value (.int kd (kd.wrap n))) w := fun w ρv k' n e => by
    simp [execOp, e, convert, run_underlying hs, run_underlying ht, Conv.intToInt]
  rcases asI_some h with ⟨n, e, h⟩ | h
  · rcases ifK_some h with ⟨hk, h⟩ | ⟨_, h⟩
    · refine ⟨_, _, _, h, fun β w ρv F hρ hr hF => ?_⟩
      have r1 := hρ x
      rw [e] at r1
      obtain ⟨l1, q1⟩ := r1
      refine ok_val hr (run w ρv _ _ q1) ⟨l1, ?_⟩
      rw [isKeq_eq hk, wrap64]
      congr 1
      simp only [half, full] at *; omega
    · rcases ifK_some h with ⟨_, h⟩ | ⟨hsg, h⟩
      · exact sl h
      · rw [natK_eq, bitsK_eq] at h
        refine ⟨_, _, _, h, fun β w ρv F hρ hr hF => ?_⟩
        have r1 := hρ x
        rw [e] at r1
        obtain ⟨l1, q1⟩ := r1
        refine ok_val hr (run w ρv _ _ q1) ⟨?_, Nat.mod_lt _ (pow_pos' kd), hsg⟩
        rw [wrapU hsg]
        congr 1
        have hm : ∀ a b : Nat, Nat.mod a b = a % b := fun _ _ => rfl
        have ha : ∀ a b : Nat, Nat.add a b = a + b := fun _ _ => rfl
        rw [hm, ha]
        cases kd <;> first | (exfalso; revert hsg; decide) | (simp only [IntKind.bits, half, full] at *; omega)
  · rcases asW_some h with ⟨kd', m, e, h⟩ | h
    · rcases ifK_some h with ⟨hk, h⟩ | ⟨_, h⟩
      · rw [natK_eq] at h
        refine ⟨_, _, _, h, fun β w ρv F hρ hr hF => ?_⟩
        have r1 := hρ x
        rw [e] at r1
        obtain ⟨q1, l1, s1⟩ := r1
        obtain ⟨h1, h2⟩ := wrap_biased ((m + half) % full) (m : Int) (by simp)
        exact ok_val hr (run w ρv _ _ q1) ⟨h1, by rw [isKeq_eq hk, h2]; rfl⟩
      · rcases ifK_some h with ⟨hk, h⟩ | ⟨_, h⟩
        · refine ⟨_, _, _, h, fun β w ρv F hρ hr hF => ?_⟩
          have r1 := hρ x
          rw [e] at r1
          obtain ⟨q1, l1, s1⟩ := r1
          rw [← isKeq_eq hk] at q1 l1 s1
          refine ok_val hr (run w ρv _ _ q1) ⟨?_, l1, s1⟩
          rw [wrapU s1]
          congr 1
          have : ((2 : Int) ^ kd.bits) = ((2 ^ kd.bits : Nat) : Int) := by simp
          rw [this]
          exact Int.emod_eq_of_lt (by omega) (by omega)
        · exact sl h
    · exact sl h

/-! lengths -/
noncomputable def goK (n : Nat) (k : AV → Option R) : Option R := ltK n half (natK (Nat.add n half) fun m => k (.c (.i m)))
theorem goK_some {n : Nat} {k : AV → Option R} {r : R} (h : goK n k = some r) : ∃ z, k z = some r ∧ ∀ β, RepA β z (.int .i64 (n : Int)) := by
  unfold goK at h
  obtain ⟨hlt, h⟩ := ltK_some h
  rw [natK_eq] at h
  refine ⟨_, h, fun β => ⟨?_, ?_⟩⟩
  · have : Nat.add n half = n + half := rfl
    rw [this]; simp only [half, full] at *; omega
  · have e : ((Nat.add n half : Nat) : Int) - half = n := by
      have : Nat.add n half = n + half := rfl
      rw [this]; omega
    rw [e]
noncomputable def nilS (x : C0) : Bool := match x with | .v (.slice none 0 0) => true | _ => false
noncomputable def lenSC (g : E → (AV → Option R) → Option R) : Cl E R := fun fr H nx k => g fr fun a => asS a (fun _ _ _ l _ => goK l fun z => k z H nx) (asO a (fun c => ifK (nilS c) (goK 0 fun z => k z H nx) none) none)
theorem nilS_eq {x : C0} (h : nilS x = true) : x = .v (.slice none 0 0) := by
  unfold nilS at h
  split at h
  · rfl
  · cases h
theorem len_run {c : Call} {ρv : Operand → Value} {t : TypeId} {x : Operand} {v : Value} {w : World} (hc : c.callee = .builtin .len) (ht : c.argTypes[0]? = some t) (hx : c.args[0]? = some x) (h : (Builtin.len_ c.argTypes ty (c.args.map ρv)).run P w = .ok v w) :
    (execOp ρv ⟨dst, .call c, ty, pos, after, guard⟩).run P w = .ok (.value v) w := by
  simp [execOp, resolve, hc, invoke, builtin, h]
theorem lenS_sound {c : Call} {t e : TypeId} {x : Operand} {g : E → (AV → Option R) → Option R} (hg : Gets ρ x g) (hc : c.callee = .builtin .len) (ht : c.argTypes[0]? = some t) (hx : c.args[0]? = some x) (hu : P.underlying t = some (.slice e)) : Sound P ρ ⟨dst, .call c, ty, pos, after, guard⟩ (lenSC g) := fun fr H nx k r h => by
  unfold lenSC at h
  rw [hg] at h
  have fin : ∀ (n : Nat) (z : AV), (∀ (β : Bz) (w : World) (ρv : Operand → Value), (∀ y, RepA β (ρ fr y) (ρv y)) → ∃ a cap, ρv x = .slice a n cap) → (∀ β, RepA β z (.int .i64 (n : Int))) → StepOk P ⟨dst, .call c, ty, pos, after, guard⟩ (ρ fr) H nx z H nx := fun n z hv hz β w ρv F hρ hr hF => by
    obtain ⟨a, cap, hv⟩ := hv β w ρv hρ
    refine ok_val hr (v := .int .i64 (n : Int)) (len_run hc ht hx ?_) (hz β)
    simp [Builtin.len_, ht, hx, run_underlying hu, hv, goInt]
  rcases asS_some h with ⟨p, o, z, l, oc, e1, h⟩ | h
  · obtain ⟨q, h, hq⟩ := goK_some h
    refine ⟨_, _, _, h, fin l q (fun β w ρv hρ => ?_) hq⟩
    have r1 := hρ x
    rw [e1] at r1
    obtain ⟨b, N, cap, _, hv, _⟩ := r1
    exact ⟨_, cap, hv⟩
  · rcases asO_some h with ⟨c0, e1, h⟩ | h
    · obtain ⟨hn, h⟩ := ifK_none h
      obtain ⟨q, h, hq⟩ := goK_some h
      refine ⟨_, _, _, h, fin 0 q (fun β w ρv hρ => ?_) hq⟩
      have r1 := hρ x
      rw [e1, nilS_eq hn] at r1
      exact ⟨_, _, r1.1⟩
    · cases h
noncomputable def lenTC (g : E → (AV → Option R) → Option R) : Cl E R := fun fr H nx k => g fr fun a => asT a fun l _ => goK l fun z => k z H nx
theorem lenT_sound {c : Call} {t : TypeId} {x : Operand} {g : E → (AV → Option R) → Option R} (hg : Gets ρ x g) (hc : c.callee = .builtin .len) (ht : c.argTypes[0]? = some t) (hx : c.args[0]? = some x) (hu : P.underlying t = some .string) : Sound P ρ ⟨dst, .call c, ty, pos, after, guard⟩ (lenTC g) := fun fr H nx k r h => by
  unfold lenTC at h
  rw [hg] at h
  obtain ⟨l, n, e1, h⟩ := asT_some h
  obtain ⟨q, h, hq⟩ := goK_some h
  refine ⟨_, _, _, h, fun β w ρv F hρ hr hF => ?_⟩
  have r1 := hρ x
  rw [e1] at r1
  obtain ⟨hv, _⟩ := r1
  refine ok_val hr (v := .int .i64 (l : Int)) (len_run hc ht hx ?_) (hq β)
  simp [Builtin.len_, ht, hx, run_underlying hu, hv, goInt, bytesN_size]
noncomputable def lenAC (n : Nat) : Cl E R := fun _ H nx k => goK n fun z => k z H nx
theorem lenA_sound {c : Call} {t e : TypeId} {n : Nat} {x : Operand} (hc : c.callee = .builtin .len) (ht : c.argTypes[0]? = some t) (hx : c.args[0]? = some x) (hu : P.underlying t = some (.array n e)) : Sound P ρ ⟨dst, .call c, ty, pos, after, guard⟩ (lenAC (E := E) (R := R) n) := fun fr H nx k r h => by
  unfold lenAC at h
  obtain ⟨q, h, hq⟩ := goK_some h
  refine ⟨_, _, _, h, fun β w ρv F hρ hr hF => ?_⟩
  refine ok_val hr (v := .int .i64 (n : Int)) (len_run hc ht hx ?_) (hq β)
  simp [Builtin.len_, ht, hx, run_underlying hu, goInt]

/-! slices -/
noncomputable def bndK (g : Option (E → (AV → Option R) → Option R)) (d : Nat) (fr : E) (k : Nat → Option R) : Option R :=
  Option.rec (motive := fun _ => Option R) (k d) (fun g => g fr fun a => asI a (fun n => posK n k) none) g
def Gets' (ρ : E → Operand → AV) : Option Operand → Option (E → (AV → Option R) → Option R) → Prop
  | none, none => True
  | some x, some g => Gets ρ x g
  | _, _ => False
def Bnd (ρv : Operand → Value) (x : Option Operand) (d n : Nat) : Prop := (x = none ∧ n = d) ∨ ∃ o, x = some o ∧ ρv o = .int .i64 (n : Int)
theorem bndK_some {x : Option Operand} {g : Option (E → (AV → Option R) → Option R)} {d : Nat} {fr : E} {k : Nat → Option R} {r : R} (hg : Gets' ρ x g) (h : bndK g d fr k = some r) :
    ∃ n, k n = some r ∧ ∀ β ρv, (∀ y, RepA β (ρ fr y) (ρv y)) → Bnd ρv x d n := by
  cases g with
  | none =>
    cases x with
    | none => exact ⟨d, h, fun β ρv hρ => .inl ⟨rfl, rfl⟩⟩
    | some x => exact hg.elim
  | some g =>
    cases x with
    | none => exact hg.elim
    | some x =>
      have h : g fr (fun a => asI a (fun n => posK n k) none) = some r := h
      rw [hg] at h
      rcases asI_some h with ⟨n, e, h⟩ | h
      · obtain ⟨m, hm, h⟩ := posK_some h
        refine ⟨m, h, fun β ρv hρ => .inr ⟨x, rfl, ?_⟩⟩
        have r1 := hρ x
        rw [e] at r1
        obtain ⟨_, q1⟩ := r1
        rw [q1, hm]
      · cases h
theorem bounds_run {isSlice : Bool} {len cap : Nat} {lo hi : Option Operand} {l h : Nat} {ρv : Operand → Value} {w : World} (h1 : Bnd ρv lo 0 l) (h2 : Bnd ρv hi len h) (g1 : l ≤ h) (g2 : h ≤ cap) :
    (Instr.sliceBounds isSlice len cap (lo.map ρv) (hi.map ρv) none).run P w = .ok (l, h, cap) w := by
  rcases h2 with ⟨rfl, rfl⟩ | ⟨o, rfl, ho⟩ <;> rcases h1 with ⟨rfl, rfl⟩ | ⟨o', rfl, ho'⟩
  · simp [Instr.sliceBounds]
  · simp [Instr.sliceBounds, Instr.sliceBound, asIntOf, ho', g1]
  · simp [Instr.sliceBounds, Instr.sliceBound, asIntOf, ho, g2]
  · simp [Instr.sliceBounds, Instr.sliceBound, asIntOf, ho, ho', g1, g2]

noncomputable def slTC (g : E → (AV → Option R) → Option R) (glo ghi : Option (E → (AV → Option R) → Option R)) : Cl E R := fun fr H nx k => g fr fun a => asT a fun l s => bndK glo 0 fr fun lo => bndK ghi l fr fun hi => leK lo hi (leK hi l
  (natK (Nat.sub hi lo) fun m => natK (Nat.mod (Nat.shiftRight s (Nat.mul 8 lo)) (Nat.pow 256 m)) fun q => k (.c (.o (.t m q))) H nx))
theorem slT_sound {t : TypeId} {x : Operand} {lo hi : Option Operand} {g : E → (AV → Option R) → Option R} {glo ghi : Option (E → (AV → Option R) → Option R)} (hg : Gets ρ x g) (hlo : Gets' ρ lo glo) (hhi : Gets' ρ hi ghi) (hu : P.underlying t = some .string) :
    Sound P ρ ⟨dst, .slice t x lo hi none, ty, pos, after, guard⟩ (slTC g glo ghi) := fun fr H nx k r h => by
  unfold slTC at h
  rw [hg] at h
  obtain ⟨l, s, e, h⟩ := asT_some h
  obtain ⟨a, h, ha⟩ := bndK_some hlo h
  obtain ⟨b, h, hb⟩ := bndK_some hhi h
  obtain ⟨h1, h⟩ := leK_some h
  obtain ⟨h2, h⟩ := leK_some h
  rw [natK_eq, natK_eq] at h
  refine ⟨_, _, _, h, fun β w ρv F hρ hr hF => ?_⟩
  have r1 := hρ x
  rw [e] at r1
  obtain ⟨q1, b1⟩ := r1
  have hrun := bounds_run (P := P) (isSlice := false) (w := w) (ha β ρv hρ) (hb β ρv hρ) h1 (cap := l) h2
  refine ok_val hr (v := .string ((bytesN l s).extract a b)) ?_ ⟨by rw [bytesN_extract b1 h1 h2]; rfl, Nat.mod_lt _ (Nat.pow_pos (by omega))⟩
  simp [execOp, Instr.sliceAt, run_underlying hu, Instr.slice, q1, bytesN_size, hrun]

/-- a slice of a slice; an empty rest of one whose room is not known stays out -/
noncomputable def slSC (sz : Nat) (g : E → (AV → Option R) → Option R) (glo ghi : Option (E → (AV → Option R) → Option R)) : Cl E R := fun fr H nx k => g fr fun a =>
  asS a (fun p off z l oc => ifK (Nat.beq z sz) (bndK glo 0 fr fun lo => bndK ghi l fr fun hi => leK lo hi (leK hi l
    (natK (Nat.sub hi lo) fun m => Option.rec (motive := fun _ => Option R)
      (ifK (Nat.ble (Nat.succ lo) l || Nat.beq lo 0) (natK (Nat.add off (Nat.mul lo sz)) fun o => k (.c (.s p o z m none)) H nx) none)
      (fun c => natK (Nat.sub c lo) fun c' => Bool.rec (motive := fun _ => Option R) (natK (Nat.add off (Nat.mul lo sz)) fun o => k (.c (.s p o z m (some c'))) H nx) (k (.c (.s p off z m (some c'))) H nx) (Nat.beq c lo)) oc))) none)
  (asO a (fun c => ifK (nilS c) (bndK glo 0 fr fun lo => bndK ghi 0 fr fun hi => leK lo hi (leK hi 0 (k (.c (.o (.v (.slice none 0 0)))) H nx))) none) none)
theorem slS_sound {t e : TypeId} {sz : Nat} {x : Operand} {lo hi : Option Operand} {g : E → (AV → Option R) → Option R} {glo ghi : Option (E → (AV → Option R) → Option R)} (hg : Gets ρ x g) (hlo : Gets' ρ lo glo) (hhi : Gets' ρ hi ghi) (hu : P.underlying t = some (.slice e)) (hsz : sizeT P e = some sz) :
    Sound P ρ ⟨dst, .slice t x lo hi none, ty, pos, after, guard⟩ (slSC sz g glo ghi) := fun fr H nx k r h => by
  unfold slSC at h
  rw [hg] at h
  rcases asS_some h with ⟨p, off, z, l, oc, e1, h⟩ | h
  · obtain ⟨hz, h⟩ := ifK_none h
    have hz := Nat.eq_of_beq_eq_true hz
    obtain ⟨a, h, ha⟩ := bndK_some hlo h
    obtain ⟨b, h, hb⟩ := bndK_some hhi h
    obtain ⟨h1, h⟩ := leK_some h
    obtain ⟨h2, h⟩ := leK_some h
    rw [natK_eq] at h
    have run : ∀ (w : World) (ρv : Operand → Value) (ad : Option Addr) (cap : Nat) (β : Bz), (∀ y, RepA β (ρ fr y) (ρv y)) → ρv x = .slice ad l cap → l ≤ cap →
        (execOp ρv ⟨dst, .slice t x lo hi none, ty, pos, after, guard⟩).run P w = .ok (.value (.slice (if cap = a then ad else ad.map (·.add (a * sz))) (b - a) (cap - a))) w := fun w ρv ad cap β hρ hv hle => by
      have hrun := bounds_run (P := P) (isSlice := true) (w := w) (ha β ρv hρ) (hb β ρv hρ) h1 (cap := cap) (by omega)
      simp [execOp, Instr.sliceAt, run_underlying hu, Instr.slice, hv, hrun, run_sizeT hsz]
    cases oc with
    | none =>
      obtain ⟨hc, h⟩ := ifK_none (x := natK _ _) h
      rw [natK_eq] at h
      have hc : a < l ∨ a = 0 := by
        simp only [Bool.or_eq_true, Go.Eb.bleD, Go.Eb.beqD, decide_eq_true_eq] at hc
        omega
      refine ⟨_, _, _, h, fun β w ρv F hρ hr hF => ?_⟩
      have r1 := hρ x
      rw [e1] at r1
      obtain ⟨bb, N, cap, hbb, hv, hle, _, hn⟩ := r1
      refine ok_val hr (run w ρv _ cap β hρ hv hle) ⟨bb, N, cap - a, hbb, ?_, by have : Nat.sub b a = b - a := rfl; omega, (fun c hc => by cases hc), fun _ => ?_⟩
      · by_cases hca : cap = a
        · have ha0 : a = 0 := by omega
          subst ha0
          simp [hca] <;> rfl
        · rw [if_neg hca]
          simp only [Option.map_some, add_none]
          rfl
      · have := hn rfl
        have hm : cap * sz = a * sz + (cap - a) * sz := by rw [← Nat.add_mul]; congr 1; omega
        have e2 : Nat.add off (Nat.mul a sz) = off + a * sz := rfl
        rw [e2, hz]
        rw [hz] at this
        omega
    | some c =>
      have h : natK (Nat.sub c a) (fun c' => Bool.rec (motive := fun _ => Option R) (natK (Nat.add off (Nat.mul a sz)) fun o => k (.c (.s p o z (Nat.sub b a) (some c'))) H nx) (k (.c (.s p off z (Nat.sub b a) (some c'))) H nx) (Nat.beq c a)) = some r := h
      rw [natK_eq] at h
      cases hca : Nat.beq c a with
      | true =>
        rw [hca] at h
        have hca := Nat.eq_of_beq_eq_true hca
        refine ⟨_, _, _, h, fun β w ρv F hρ hr hF => ?_⟩
        have r1 := hρ x
        rw [e1] at r1
        obtain ⟨bb, N, cap, hbb, hv, hle, hcc, _⟩ := r1
        have hcap := hcc c rfl
        refine ok_val hr (run w ρv _ cap β hρ hv hle) ⟨bb, N, cap - a, hbb, ?_, by have : Nat.sub b a = b - a := rfl; omega, (fun c' hc' => by cases hc'; rw [hcap]; rfl), fun hc' => by cases hc'⟩
        rw [if_pos (by omega)]; rfl
      | false =>
        rw [hca] at h
        simp only [natK_eq] at h
        rw [Go.Eb.beqD, decide_eq_false_iff_not] at hca
        refine ⟨_, _, _, h, fun β w ρv F hρ hr hF => ?_⟩
        have r1 := hρ x
        rw [e1] at r1
        obtain ⟨bb, N, cap, hbb, hv, hle, hcc, _⟩ := r1
        have hcap := hcc c rfl
        refine ok_val hr (run w ρv _ cap β hρ hv hle) ⟨bb, N, cap - a, hbb, ?_, by have : Nat.sub b a = b - a := rfl; omega, (fun c' hc' => by cases hc'; rw [hcap]; rfl), fun hc' => by cases hc'⟩
        rw [if_neg (by omega)]
        simp only [Option.map_some, add_none]
        rfl
  · rcases asO_some h with ⟨c0, e1, h⟩ | h
    · obtain ⟨hn, h⟩ := ifK_none h
      obtain ⟨a, h, ha⟩ := bndK_some hlo h
      obtain ⟨b, h, hb⟩ := bndK_some hhi h
      obtain ⟨h1, h⟩ := leK_some h
      obtain ⟨h2, h⟩ := leK_some h
      refine ⟨_, _, _, h, fun β w ρv F hρ hr hF => ?_⟩
      have r1 := hρ x
      rw [e1, nilS_eq hn] at r1
      have hv := r1.1
      have hrun := bounds_run (P := P) (isSlice := true) (w := w) (ha β ρv hρ) (hb β ρv hρ) h1 (cap := 0) h2
      have ha0 : a = 0 := by omega
      have hb0 : b = 0 := by omega
      subst ha0 hb0
      exact ok_val hr (v := .slice none 0 0) (by simp [execOp, Instr.sliceAt, run_underlying hu, Instr.slice, hv, hrun, run_sizeT hsz]) ⟨rfl, rfl⟩
    · cases h

/-- a slice of an array -/
noncomputable def slAC (n sz : Nat) (g : E → (AV → Option R) → Option R) (glo ghi : Option (E → (AV → Option R) → Option R)) : Cl E R := fun fr H nx k => g fr fun a =>
  asP a (fun p off => bndK glo 0 fr fun lo => bndK ghi n fr fun hi => leK lo hi (leK hi n (natK (Nat.sub hi lo) fun m => natK (Nat.sub n lo) fun c => Bool.rec (motive := fun _ => Option R) (natK (Nat.add off (Nat.mul lo sz)) fun o => k (.c (.s p o sz m (some c))) H nx) (k (.c (.s p off sz m (some c))) H nx) (Nat.beq n lo)))) none
theorem slA_sound {t e : TypeId} {n sz : Nat} {x : Operand} {lo hi : Option Operand} {g : E → (AV → Option R) → Option R} {glo ghi : Option (E → (AV → Option R) → Option R)} (hg : Gets ρ x g) (hlo : Gets' ρ lo glo) (hhi : Gets' ρ hi ghi) (hu : P.underlying t = some (.array n e)) (hsz : sizeT P e = some sz) :
    Sound P ρ ⟨dst, .slice t x lo hi none, ty, pos, after, guard⟩ (slAC n sz g glo ghi) := fun fr H nx k r h => by
  unfold slAC at h
  rw [hg] at h
  rcases asP_some h with ⟨p, off, e1, h⟩ | h
  · obtain ⟨a, h, ha⟩ := bndK_some hlo h
    obtain ⟨b, h, hb⟩ := bndK_some hhi h
    obtain ⟨h1, h⟩ := leK_some h
    obtain ⟨h2, h⟩ := leK_some h
    rw [natK_eq, natK_eq] at h
    have run : ∀ (w : World) (ρv : Operand → Value) (ad : Addr) (β : Bz), (∀ y, RepA β (ρ fr y) (ρv y)) → ρv x = .pointer (some ad) →
        (execOp ρv ⟨dst, .slice t x lo hi none, ty, pos, after, guard⟩).run P w = .ok (.value (.slice (some (if n = a then ad else ad.add (a * sz))) (b - a) (n - a))) w := fun w ρv ad β hρ hv => by
      have hrun := bounds_run (P := P) (isSlice := false) (w := w) (ha β ρv hρ) (hb β ρv hρ) h1 (cap := n) h2
      simp [execOp, Instr.sliceAt, run_underlying hu, hv, Instr.sureAddr, hrun, run_sizeT hsz]
    cases hca : Nat.beq n a with
    | true =>
      rw [hca] at h
      have hca := Nat.eq_of_beq_eq_true hca
      refine ⟨_, _, _, h, fun β w ρv F hρ hr hF => ?_⟩
      have r1 := hρ x
      rw [e1] at r1
      obtain ⟨bb, N, hbb, hv⟩ := r1
      refine ok_val hr (run w ρv _ β hρ hv) ⟨bb, N, n - a, hbb, ?_, by have : Nat.sub b a = b - a := rfl; omega, (fun c' hc' => by cases hc'; rfl), fun hc' => by cases hc'⟩
      rw [if_pos (by omega)]; rfl
    | false =>
      rw [hca] at h
      simp only [natK_eq] at h
      rw [Go.Eb.beqD, decide_eq_false_iff_not] at hca
      refine ⟨_, _, _, h, fun β w ρv F hρ hr hF => ?_⟩
      have r1 := hρ x
      rw [e1] at r1
      obtain ⟨bb, N, hbb, hv⟩ := r1
      refine ok_val hr (run w ρv _ β hρ hv) ⟨bb, N, n - a, hbb, ?_, by have : Nat.sub b a = b - a := rfl; omega, (fun c' hc' => by cases hc'; rfl), fun hc' => by cases hc'⟩
      rw [if_neg (by omega)]
      simp only [add_none]
      rfl
  · cases h
end
end Go.Ez
namespace Go.Ez
open Go.RowKit
open Go.Eb (aggT sizeT bytesT placesT pr pr_run run_sizeT run_aggT placesT_run add_none)

section
variable {E R : Type} {P : Program} {ρ : E → Operand → AV} {dst : Option Tmp} {ty : TypeId} {pos : String} {after : Array Edge} {guard : Option (Nat × Bool)}

/-- cells put over others -/
noncomputable def splK (r : List CV) : Nat → List CV → (List CV → Option R) → Option R :=
  List.rec (motive := fun _ => Nat → List CV → (List CV → Option R) → Option R)
    (fun off new k => Nat.rec (motive := fun _ => Option R) (List.rec (motive := fun _ => Option R) (k []) (fun _ _ _ => none) new) (fun _ _ => none) off)
    (fun c r ih off new k => Nat.rec (motive := fun _ => Option R) (List.rec (motive := fun _ => Option R) (k (c :: r)) (fun d new' _ => ih 0 new' fun r' => k (d :: r')) new) (fun m _ => ih m new fun r' => k (c :: r')) off) r
theorem splK_some : ∀ {r : List CV} {off : Nat} {new : List CV} {k : List CV → Option R} {res : R}, splK r off new k = some res → off + new.length ≤ r.length ∧ k (r.take off ++ new ++ r.drop (off + new.length)) = some res
  | [], 0, [], k, res, h => ⟨by simp, h⟩
  | [], 0, d :: new, k, res, h => by cases h
  | [], off + 1, new, k, res, h => by cases h
  | c :: r, 0, [], k, res, h => ⟨by simp, h⟩
  | c :: r, 0, d :: new, k, res, h => by
    have h' : splK r 0 new (fun r' => k (d :: r')) = some res := h
    obtain ⟨h1, h2⟩ := splK_some h'
    refine ⟨by simp at h1 ⊢; omega, ?_⟩
    simpa using h2
  | c :: r, off + 1, new, k, res, h => by
    have h' : splK r off new (fun r' => k (c :: r')) = some res := h
    obtain ⟨h1, h2⟩ := splK_some h'
    refine ⟨by simp; omega, ?_⟩
    have e : off + 1 + new.length = (off + new.length) + 1 := by omega
    rw [e]
    simpa using h2
/-- a row is turned -/
noncomputable def updK (sz : Nat) (rows : List (List CV)) : Nat → List CV → (List (List CV) → Option R) → Option R :=
  List.rec (motive := fun _ => Nat → List CV → (List (List CV) → Option R) → Option R) (fun _ _ _ => none)
    (fun r rest ih off new k => Bool.rec (motive := fun _ => Option R) (splK r off new fun r' => k (r' :: rest)) (natK (Nat.sub off sz) fun o => ih o new fun rest' => k (r :: rest')) (Nat.ble sz off)) rows
theorem updK_some {sz : Nat} : ∀ {rows : List (List CV)} {off : Nat} {new : List CV} {k : List (List CV) → Option R} {res : R}, updK sz rows off new k = some res →
    ∃ i r j, rows[i]? = some r ∧ off = i * sz + j ∧ j < sz ∧ j + new.length ≤ r.length ∧ k (rows.set i (r.take j ++ new ++ r.drop (j + new.length))) = some res
  | [], off, new, k, res, h => by cases h
  | r :: rest, off, new, k, res, h => by
    have h' : Bool.rec (motive := fun _ => Option R) (splK r off new fun r' => k (r' :: rest)) (natK (Nat.sub off sz) fun o => updK sz rest o new fun rest' => k (r :: rest')) (Nat.ble sz off) = some res := h
    cases hb : Nat.ble sz off with
    | false =>
      rw [hb] at h'
      rw [Go.Eb.bleD, decide_eq_false_iff_not] at hb
      obtain ⟨h1, h2⟩ := splK_some h'
      exact ⟨0, r, off, rfl, by omega, by omega, h1, h2⟩
    | true =>
      rw [hb] at h'
      rw [Go.Eb.bleD, decide_eq_true_eq] at hb
      simp only [natK_eq] at h'
      obtain ⟨i, r', j, h1, h2, h3, h4, h5⟩ := updK_some h'
      refine ⟨i + 1, r', j, h1, ?_, h3, h4, h5⟩
      rw [Nat.succ_mul]
      have : Nat.sub off sz = off - sz := rfl
      omega

theorem splice_get {α : Type} {cs new : List α} {off : Nat} (hle : off + new.length ≤ cs.length) (i : Nat) :
    (cs.take off ++ new ++ cs.drop (off + new.length))[i]? = if i < off then cs[i]? else if i < off + new.length then new[i - off]? else cs[i]? := Go.Eb.splice_get hle i

/-- cells of a block are written -/
theorem write_ok {β : Bz} {H : Hz} {F : Pa → Prop} {w : World} {p : Pa} {t : TypeId} {sz i j : Nat} {rows : List (List CV)} {r new : List CV} {us : List Value} {b N : Nat} (h : Rel β H F w) (hp : H.get p = some (.cells false t sz rows)) (hb : β p = some (b, N))
    (hi : rows[i]? = some r) (hj : j + new.length ≤ r.length) (hnew : RepL β new us) :
    ∃ w', (storeCells ⟨b, i * sz + j, none⟩ us).run P w = .ok () w' ∧ Rel β (H.set (some (.cells false t sz (rows.set i (r.take j ++ new ++ r.drop (j + new.length))))) p) F w' ∧ Ext β H w β (H.set (some (.cells false t sz (rows.set i (r.take j ++ new ++ r.drop (j + new.length))))) p) w' := by
  obtain ⟨b', N', vs, fz, hb', hw, hfz, hN, hle, hrep⟩ := h.blk p _ hp
  rw [hb] at hb'
  cases hb'
  have hfz := hfz rfl
  subst hfz
  obtain ⟨hrl, hrc⟩ := hrep i r hi
  have hlt : i < rows.length := (List.getElem?_eq_some_iff.1 hi).1
  have hrow := row_le hlt hle
  have hlu := hnew.1
  have hl : i * sz + j + us.length ≤ vs.toList.length := by simp; omega
  have hrun := run_storeCells_at P b (i * sz + j) t us 0 vs w hw (by simpa using hl) hnew.ones
  simp only [Nat.add_zero] at hrun
  have hsize : (vs.toList.take (i * sz + j) ++ us ++ vs.toList.drop (i * sz + j + us.length)).toArray.size = vs.size := by simp at hl ⊢; omega
  have hget := setRow_heap w b vs (vs.toList.take (i * sz + j) ++ us ++ vs.toList.drop (i * sz + j + us.length)).toArray t (0, 0) hw
  refine ⟨_, hrun, h.turn hp rfl hb rfl rfl rfl (by simp [World.setRow]) (fun x hx => setRow_other w b x _ hx) ⟨b, N, _, (_, 0, 0), hb, hget, fun _ => rfl, by rw [hsize, hN], by simpa using hle, fun q r' hq => ?_⟩ rfl⟩
  rw [List.getElem?_set] at hq
  by_cases hqi : i = q
  · subst hqi
    rw [if_pos rfl, if_pos hlt] at hq
    simp at hq
    subst hq
    refine ⟨by simp; omega, fun jj c v hc hv => ?_⟩
    have hc : (r.take j ++ new ++ r.drop (j + new.length))[jj]? = some c := by simpa using hc
    have hjl : jj < r.length := by
      have := (List.getElem?_eq_some_iff.1 hc).1
      simp at this; omega
    rw [splice_get hj] at hc
    have hv : (vs.toList.take (i * sz + j) ++ us ++ vs.toList.drop (i * sz + j + us.length))[i * sz + jj]? = some v := by simpa using hv
    rw [splice_get hl] at hv
    by_cases c1 : jj < j
    · rw [if_pos c1] at hc
      rw [if_pos (by omega)] at hv
      exact hrc jj c v hc (by simpa using hv)
    · rw [if_neg c1] at hc
      rw [if_neg (by omega)] at hv
      by_cases c2 : jj < j + new.length
      · rw [if_pos c2] at hc
        rw [if_pos (by omega), show i * sz + jj - (i * sz + j) = jj - j by omega] at hv
        exact hnew.2 _ c v hc hv
      · rw [if_neg c2] at hc
        rw [if_neg (by omega)] at hv
        exact hrc jj c v hc (by simpa using hv)
  · rw [if_neg hqi] at hq
    obtain ⟨h1, h2⟩ := hrep q r' hq
    refine ⟨h1, fun jj c v hc hv => h2 jj c v hc ?_⟩
    have hjj : jj < sz := by rw [← h1]; exact (List.getElem?_eq_some_iff.1 hc).1
    have hv : (vs.toList.take (i * sz + j) ++ us ++ vs.toList.drop (i * sz + j + us.length))[q * sz + jj]? = some v := by simpa using hv
    rw [splice_get hl] at hv
    rcases Nat.lt_or_gt_of_ne hqi with hlt' | hlt'
    · have := Nat.mul_le_mul_right sz hlt'
      rw [Nat.succ_mul] at this
      rw [if_neg (by omega), if_neg (by omega)] at hv
      simpa using hv
    · have := Nat.mul_le_mul_right sz hlt'
      rw [Nat.succ_mul] at this
      rw [if_pos (by omega)] at hv
      simpa using hv

noncomputable def wrK (H : Hz) (p : Pa) (off : Nat) (new : List CV) (k : Hz → Option R) : Option R :=
  optK (H.get p) fun B => cellsOfK B fun ro t sz rows => ifK ro none (updK sz rows off new fun rows' => Tr.setK (some (.cells false t sz rows')) p H k)
theorem wrK_some {H : Hz} {p : Pa} {off : Nat} {new : List CV} {k : Hz → Option R} {res : R} (h : wrK H p off new k = some res) :
    ∃ t sz rows i r j, H.get p = some (.cells false t sz rows) ∧ rows[i]? = some r ∧ off = i * sz + j ∧ j + new.length ≤ r.length ∧ k (H.set (some (.cells false t sz (rows.set i (r.take j ++ new ++ r.drop (j + new.length))))) p) = some res := by
  unfold wrK at h
  obtain ⟨B, hB, h⟩ := optK_some h
  obtain ⟨ro, t, sz, rows, rfl, h⟩ := cellsOfK_some h
  rcases ifK_some h with ⟨_, h⟩ | ⟨rfl, h⟩
  · cases h
  · obtain ⟨i, r, j, h1, h2, _, h3, h4⟩ := updK_some h
    rw [Tr.setK_eq] at h4
    exact ⟨t, sz, rows, i, r, j, hB, h1, h2, h3, h4⟩

noncomputable def lenIs (cs : List CV) : Nat → Bool :=
  List.rec (motive := fun _ => Nat → Bool) (fun n => Nat.rec (motive := fun _ => Bool) true (fun _ _ => false) n) (fun _ _ ih n => Nat.rec (motive := fun _ => Bool) false (fun m _ => ih m) n) cs
theorem lenIs_eq : ∀ {cs : List CV} {n : Nat}, lenIs cs n = true → cs.length = n
  | [], 0, _ => rfl
  | [], n + 1, h => by cases h
  | c :: r, 0, h => by cases h
  | c :: r, n + 1, h => by
    have h' : lenIs r n = true := h
    simp [lenIs_eq h']
noncomputable def storeC (n : Nat) (ga gx : E → (AV → Option R) → Option R) : Cl E R := fun fr H nx k => ga fr fun a => gx fr fun x => asP a (fun p off => cellsK x fun cs => ifK (lenIs cs n) (wrK H p off cs fun H' => k .u H' nx) none) none
theorem store_sound {t : TypeId} {y z : Operand} {n : Nat} {ga gx : E → (AV → Option R) → Option R} (ha : Gets ρ y ga) (hx : Gets ρ z gx) (hsz : sizeT P t = some n) : Sound P ρ ⟨dst, .store t y z, ty, pos, after, guard⟩ (storeC n ga gx) := fun fr H nx k r h => by
  unfold storeC at h
  rw [ha, hx] at h
  rcases asP_some h with ⟨p, off, e, h⟩ | h
  · obtain ⟨cs, hcs, h⟩ := cellsK_some h
    obtain ⟨hl, h⟩ := ifK_none h
    have hl := lenIs_eq hl
    obtain ⟨t', sz, rows, i, r', j, hp, hi, rfl, hj, h⟩ := wrK_some h
    refine ⟨_, _, _, h, fun β w ρv F hρ hr hF => ?_⟩
    have hv := hρ y
    rw [e] at hv
    obtain ⟨b, N, hb, hv⟩ := hv
    have hrep := cellsA_rep hcs (hρ z)
    obtain ⟨w', hrun, hrel, hext⟩ := write_ok (P := P) hr hp hb hi hj hrep
    refine ⟨.skip, w', β, F, ?_, .inr ⟨rfl, rfl⟩, hrel, hext, fun _ hp _ => hp, .inl rfl⟩
    have hc : (ρv z).cells.size = n := by have := hrep.1; simp at this; omega
    simp [execOp, Instr.storeAt, Instr.sureAddr, hv, storeVar, run_sizeT hsz, hc, hrun]
  · cases h

/-! structs and arrays -/
noncomputable def fillK : List (Nat × Nat × (E → (AV → Option R) → Option R)) → List CV → E → (List CV → Option R) → Option R
  | [], cs, _, k => k cs
  | (off, size, g) :: rest, cs, fr, k => g fr fun x => cellsK x fun new => ifK (lenIs new size) (splK cs off new fun cs' => fillK rest cs' fr k) none
theorem fillK_some {place : Nat → Option (Nat × Nat)} {fr : E} : ∀ {parts : List (Nat × Operand)} {gs : List (Nat × Nat × (E → (AV → Option R) → Option R))} {cs : List CV} {k : List CV → Option R} {r : R},
    All2 (fun p g => place p.1 = some (g.1, g.2.1) ∧ Gets ρ p.2 g.2.2) parts gs → fillK gs cs fr k = some r →
    ∃ cs', k cs' = some r ∧ cs'.length = cs.length ∧ ∀ (β : Bz) (ρv : Operand → Value) (vs : Array Value), (∀ y, RepA β (ρ fr y) (ρv y)) → RepL β cs vs.toList → ∃ us, Instr.fill place vs (parts.map fun p => (p.1, ρv p.2)) = some us ∧ RepL β cs' us.toList
  | [], _, cs, k, r, hf, h => by
    cases hf
    exact ⟨cs, h, rfl, fun β ρv vs _ hr => ⟨vs, rfl, hr⟩⟩
  | (i, o) :: rest, _, cs, k, r, hf, h => by
    cases hf with
    | cons h1 h2 =>
      rename_i g gs
      obtain ⟨off, size, g⟩ := g
      obtain ⟨hpl, hg⟩ := h1
      have hpl : place i = some (off, size) := hpl
      have hg : Gets ρ o g := hg
      simp only [fillK] at h
      rw [hg] at h
      obtain ⟨new, hnew, h⟩ := cellsK_some h
      obtain ⟨hln, h⟩ := ifK_none h
      have hln := lenIs_eq hln
      obtain ⟨hle, h⟩ := splK_some h
      obtain ⟨cs', h, hlen, hall⟩ := fillK_some h2 h
      refine ⟨cs', h, by rw [hlen]; simp; omega, fun β ρv vs hρ hr => ?_⟩
      have hrep := cellsA_rep hnew (hρ o)
      have hl : new.length = (ρv o).cells.size := by have := hrep.1; simpa using this
      have hlc : cs.length = vs.size := by have := hr.1; simpa using this
      have e : (ρv o).cells.zipIdx.foldl (fun cs (p : Value × Nat) => cs.setIfInBounds (off + p.2) p.1) vs = (vs.toList.take off ++ (ρv o).cells.toList ++ vs.toList.drop (off + (ρv o).cells.toList.length)).toArray := by
        rw [← Array.foldl_toList, Array.toList_zipIdx]
        have := Go.Eb.foldl_set (ρv o).cells.toList vs off 0 (by simp; omega)
        simpa using this
      have hsp : RepL β (cs.take off ++ new ++ cs.drop (off + new.length)) (vs.toList.take off ++ (ρv o).cells.toList ++ vs.toList.drop (off + (ρv o).cells.toList.length)) := by
        refine ⟨by simp; omega, fun q c v hc hv => ?_⟩
        rw [splice_get hle] at hc
        rw [splice_get (by simp; omega)] at hv
        by_cases c1 : q < off
        · rw [if_pos c1] at hc hv; exact hr.2 q c v hc hv
        · rw [if_neg c1] at hc hv
          by_cases c2 : q < off + new.length
          · rw [if_pos c2] at hc
            rw [if_pos (by simp; omega)] at hv
            exact hrep.2 _ c v hc hv
          · rw [if_neg c2] at hc
            rw [if_neg (by simp; omega)] at hv
            exact hr.2 q c v hc hv
      obtain ⟨us, hus, hru⟩ := hall β ρv (vs.toList.take off ++ (ρv o).cells.toList ++ vs.toList.drop (off + (ρv o).cells.toList.length)).toArray hρ (by simpa using hsp)
      refine ⟨us, ?_, hru⟩
      simp only [List.map_cons, Instr.fill, hpl]
      rw [if_neg (by simp; omega)]
      rw [← hus]
      congr 1
noncomputable def buildC (z : List CV) (gs : List (Nat × Nat × (E → (AV → Option R) → Option R))) : Cl E R := fun fr H nx k => fillK gs z fr fun cs => k (.a cs) H nx
theorem buildS_sound {t : TypeId} {parts : Array (Nat × Operand)} {fields : Array Field} {ps : List (Nat × Nat)} {z : List CV} {gs : List (Nat × Nat × (E → (AV → Option R) → Option R))} (hu : P.underlying t = some (.struct fields)) (hz : zeroT P t = some z) (hps : placesT P fields.toList = some ps)
    (hf : All2 (fun p g => ps[p.1]? = some (g.1, g.2.1) ∧ Gets ρ p.2 g.2.2) parts.toList gs) : Sound P ρ ⟨dst, .build t parts, ty, pos, after, guard⟩ (buildC z gs) := fun fr H nx k r h => by
  unfold buildC at h
  obtain ⟨cs, h, _, hall⟩ := fillK_some (place := fun i => ps[i]?) hf h
  refine ⟨_, _, _, h, fun β w ρv F hρ hr hF => ?_⟩
  obtain ⟨zv, hzv, hzr⟩ := zeroT_run (β := β) hz
  obtain ⟨us, hus, hru⟩ := hall β ρv zv.cells hρ hzr
  refine ok_val hr (v := .agg us) ?_ ⟨us, rfl, hru⟩
  have hm : (fields.mapM fun f => do pure (f.offset, ← sizeOf f.type) : Sem (Array (Nat × Nat))).run P w = .ok ps.toArray w := by
    rw [Array.mapM_eq_mapM_toList, Sem.run_map, placesT_run hps]
    rfl
  simp only [execOp, Instr.build, Sem.run_bind, hzv, Result.andThen_ok, run_underlying hu, hm]
  have e : (parts.map fun (p : Nat × Operand) => (p.1, ρv p.2)).toList = parts.toList.map fun p => (p.1, ρv p.2) := by simp
  have e2 : (fun i : Nat => ps.toArray[i]?) = (fun i : Nat => ps[i]?) := by funext i; simp
  rw [e, e2, hus]
  rfl
theorem buildA_sound {t e : TypeId} {n s : Nat} {parts : Array (Nat × Operand)} {z : List CV} {gs : List (Nat × Nat × (E → (AV → Option R) → Option R))} (hu : P.underlying t = some (.array n e)) (hz : zeroT P t = some z) (hsz : sizeT P e = some s)
    (hf : All2 (fun p g => (some (p.1 * s, s) : Option (Nat × Nat)) = some (g.1, g.2.1) ∧ Gets ρ p.2 g.2.2) parts.toList gs) : Sound P ρ ⟨dst, .build t parts, ty, pos, after, guard⟩ (buildC z gs) := fun fr H nx k r h => by
  unfold buildC at h
  obtain ⟨cs, h, _, hall⟩ := fillK_some (place := fun i => some (i * s, s)) hf h
  refine ⟨_, _, _, h, fun β w ρv F hρ hr hF => ?_⟩
  obtain ⟨zv, hzv, hzr⟩ := zeroT_run (β := β) hz
  obtain ⟨us, hus, hru⟩ := hall β ρv zv.cells hρ hzr
  refine ok_val hr (v := .agg us) ?_ ⟨us, rfl, hru⟩
  simp only [execOp, Instr.build, Sem.run_bind, hzv, Result.andThen_ok, run_underlying hu, run_sizeT hsz]
  have e : (parts.map fun (p : Nat × Operand) => (p.1, ρv p.2)).toList = parts.toList.map fun p => (p.1, ρv p.2) := by simp
  rw [e, hus]
  rfl

/-! slices that are made -/
/-- rows out of cells -/
noncomputable def chunkK (sz : Nat) (n : Nat) : List CV → (List (List CV) → Option R) → Option R :=
  Nat.rec (motive := fun _ => List CV → (List (List CV) → Option R) → Option R) (fun _ k => k []) (fun _ ih cs k => takeK cs sz fun r => dropK cs sz fun rest => ih rest fun rows => k (r :: rows)) n
theorem chunkK_some {sz : Nat} : ∀ {n : Nat} {cs : List CV} {k : List (List CV) → Option R} {res : R}, chunkK sz n cs k = some res → n * sz ≤ cs.length ∧ ∃ rows, k rows = some res ∧ rows.length = n ∧ ∀ (i : Nat) r, rows[i]? = some r → r.length = sz ∧ ∀ (j : Nat), j < sz → r[j]? = cs[i * sz + j]?
  | 0, cs, k, res, h => ⟨by simp, [], h, rfl, fun i r hr => by simp at hr⟩
  | n + 1, cs, k, res, h => by
    have h' : takeK cs sz (fun r => dropK cs sz fun rest => chunkK sz n rest fun rows => k (r :: rows)) = some res := h
    obtain ⟨h1, h2⟩ := takeK_some h'
    obtain ⟨_, h3⟩ := dropK_some h2
    obtain ⟨h4, rows, h5, h6, h7⟩ := chunkK_some h3
    simp at h4
    refine ⟨by rw [Nat.succ_mul]; omega, _, h5, by simp [h6], fun i r hr => ?_⟩
    cases i with
    | zero =>
      simp at hr; subst hr
      refine ⟨by simp; omega, fun j hj => ?_⟩
      rw [List.getElem?_take, if_pos hj]; simp
    | succ i =>
      simp at hr
      obtain ⟨h8, h9⟩ := h7 i r hr
      refine ⟨h8, fun j hj => ?_⟩
      rw [h9 j hj, List.getElem?_drop, Nat.succ_mul]
      congr 1; omega
theorem chunk_rows {β : Bz} {sz n : Nat} {cs : List CV} {vs : List Value} {rows : List (List CV)} (hr : RepL β cs vs) (h : ∀ (i : Nat) r, rows[i]? = some r → r.length = sz ∧ ∀ (j : Nat), j < sz → r[j]? = cs[i * sz + j]?) :
    ∀ (i : Nat) r, rows[i]? = some r → r.length = sz ∧ ∀ (j : Nat) c v, r[j]? = some c → vs[i * sz + j]? = some v → Rep β c v := fun i r hi => by
  obtain ⟨h1, h2⟩ := h i r hi
  refine ⟨h1, fun j c v hc hv => hr.2 _ c v ?_ hv⟩
  rw [← h2 j (by rw [← h1]; exact (List.getElem?_eq_some_iff.1 hc).1)]
  exact hc

noncomputable def bslC (e : TypeId) (s len : Nat) (z : List CV) (gs : List (Nat × Nat × (E → (AV → Option R) → Option R))) : Cl E R := fun fr H nx k => fillK gs z fr fun cs => chunkK s len cs fun rows => newK (.cells false e s rows) (fun p => .c (.s p 0 s len (some len))) H nx k
theorem bsl_sound {t e : TypeId} {s len : Nat} {parts : Array (Nat × Operand)} {z : List CV} {gs : List (Nat × Nat × (E → (AV → Option R) → Option R))} (hu : P.underlying t = some (.slice e)) (hz : zeroT P e = some z) (hsz : sizeT P e = some (s + 1)) (hzl : z.length = s + 1) (hfit : len * (s + 1) ≤ 2 ^ 24)
    (hf : All2 (fun p g => (some (p.1 * (s + 1), s + 1) : Option (Nat × Nat)) = some (g.1, g.2.1) ∧ Gets ρ p.2 g.2.2) parts.toList gs) : Sound P ρ ⟨dst, .buildSlice t len parts, ty, pos, after, guard⟩ (bslC e (s + 1) len (List.replicate len z).flatten gs) := fun fr H nx k r h => by
  unfold bslC at h
  obtain ⟨cs, h, hlen, hall⟩ := fillK_some (place := fun i => some (i * (s + 1), s + 1)) hf h
  obtain ⟨hle, rows, h, hrl, hrows⟩ := chunkK_some h
  rw [newK_eq] at h
  refine ⟨_, _, _, h, fun β w ρv F hρ hr hF => ?_⟩
  obtain ⟨zv, hzv, hzr⟩ := zeroT_run (β := β) hz
  have hzs : zv.cells.size = s + 1 := by have := hzr.1; simp at this; omega
  have hinit : RepL β (List.replicate len z).flatten ((Array.range (len * (s + 1))).map (zv.cells[· % zv.cells.size]!)).toList := by
    refine ⟨by rw [Go.Eb.replicate_flat, hzl]; simp, fun i c v h1 h2 => ?_⟩
    have hlt : i < len * (s + 1) := by
      have := (List.getElem?_eq_some_iff.1 h1).1
      rw [Go.Eb.replicate_flat, hzl] at this
      exact this
    rw [Go.Eb.flat_get (by omega) _ _ (by rw [hzl]; exact hlt), hzl] at h1
    have hm : i % (s + 1) < zv.cells.size := by rw [hzs]; exact Nat.mod_lt _ (by omega)
    simp [hlt] at h2
    refine hzr.2 (i % (s + 1)) c v h1 ?_
    rw [hzs] at h2
    rw [← h2]
    simp [hm]
  obtain ⟨us, hus, hru⟩ := hall β ρv _ hρ hinit
  have e1 : (parts.map fun (p : Nat × Operand) => (p.1, ρv p.2)).toList = parts.toList.map fun p => (p.1, ρv p.2) := by simp
  have hus2 : us.size = len * (s + 1) := by
    have := hru.1
    simp only [Array.length_toList] at this
    rw [← this, hlen, Go.Eb.replicate_flat, hzl]
  refine ok_new hr hF (vs := us) (v := .slice (some ⟨w.heap.size, 0, none⟩) len len) (by rw [hrl, hus2]; exact Nat.le_refl _) (fun i r hi => ?_) ?_ ⟨w.heap.size, us.size, len, ext1_self _ _ _, rfl, Nat.le_refl _, (fun c hc => by cases hc; rfl), fun hc => by cases hc⟩
  · obtain ⟨h1, h2⟩ := chunk_rows (n := len) hru hrows i r hi
    exact ⟨h1, fun j c v hc hv => h2 j c v hc (by simpa using hv)⟩
  · have hle : ¬ (len * (s + 1) > 2 ^ 24) := by omega
    by_cases hz0 : len * (s + 1) = 0
    · have hl0 : len = 0 := by
        rcases Nat.mul_eq_zero.1 hz0 with h1 | h1
        · exact h1
        · omega
      subst hl0
      have e0 : ∀ g : Nat → Value, Array.map g (Array.range 0) = #[] := fun g => by apply Array.ext'; simp
      have hus' : Instr.fill (fun i => some (i * (s + 1), s + 1)) #[] (parts.toList.map fun p => (p.1, ρv p.2)) = some us := by rw [Nat.zero_mul, e0] at hus; exact hus
      simp [execOp, Instr.buildSlice, run_underlying hu, run_sizeT hsz, e0, hus', newRow]
    · simp only [execOp, Instr.buildSlice, Sem.run_bind, run_underlying hu, Result.andThen_ok, run_sizeT hsz, hle, if_false, Sem.run_pure, hz0, hzv]
      rw [e1, hus]
      simp [newRow]
end
end Go.Ez
