/-
  Numbers of the ring of twelfth roots of unity as four integers; sums of a window's samples times roots; tests one after the other. No condition.
-/
import Derived.Test.YtihcidopklhikaaGreatDoorZTy
import Derived.Test.YtihcidopklhikaaGreatDoorZNu
namespace Go.Eb
open Go.RowKit

abbrev I4 := Int × Int × Int × Int
def iD (n : Int) : D := .v (.int .i64 n)
def cyA (a : I4) : AV := .agg [.d (iD a.1), .d (iD a.2.1), .d (iD a.2.2.1), .d (iD a.2.2.2)]
def cyO (a : I4) (e : Int) : AV := .tup [(true, [.d (iD a.1), .d (iD a.2.1), .d (iD a.2.2.1), .d (iD a.2.2.2)]), (false, [.d (iD e)])]
/-- both ways within a limit -/
def inI (n : Int) (x : Int) : Bool := decide (-n ≤ x) && decide (x ≤ n)
theorem inI_iff {n x : Int} : inI n x = true ↔ -n ≤ x ∧ x ≤ n := by unfold inI; simp
def in4 (n : Int) (a : I4) : Bool := inI n a.1 && (inI n a.2.1 && (inI n a.2.2.1 && inI n a.2.2.2))
theorem in4_iff {n : Int} {a : I4} : in4 n a = true ↔ (-n ≤ a.1 ∧ a.1 ≤ n) ∧ (-n ≤ a.2.1 ∧ a.2.1 ≤ n) ∧ (-n ≤ a.2.2.1 ∧ a.2.2.1 ≤ n) ∧ -n ≤ a.2.2.2 ∧ a.2.2.2 ≤ n := by unfold in4; simp only [Bool.and_eq_true, inI_iff]
/-- out of a limit, as it is asked -/
def outI (n : Int) (x : Int) : Bool := bif decide (x < -n) then true else decide (x > n)
theorem outI_eq (n x : Int) : outI n x = !inI n x := by
  unfold outI inI
  by_cases h1 : x < -n
  · rw [decide_eq_true h1, decide_eq_false (by omega : ¬ -n ≤ x)]; rfl
  · rw [decide_eq_false h1, decide_eq_true (by omega : -n ≤ x)]
    by_cases h2 : x > n
    · rw [decide_eq_true h2, decide_eq_false (by omega : ¬ x ≤ n)]; rfl
    · rw [decide_eq_false h2, decide_eq_true (by omega : x ≤ n)]; rfl
def add4 (a b : I4) : I4 := (a.1 + b.1, a.2.1 + b.2.1, a.2.2.1 + b.2.2.1, a.2.2.2 + b.2.2.2)
def mul4 (a : I4) (k : Int) : I4 := (a.1 * k, a.2.1 * k, a.2.2.1 * k, a.2.2.2 * k)
/-- the roots z^-k -/
def rtab : List I4 := [(1, 0, 0, 0), (0, 1, 0, -1), (1, 0, -1, 0), (0, 0, 0, -1), (0, 0, -1, 0), (0, -1, 0, 0), (-1, 0, 0, 0), (0, -1, 0, 1), (-1, 0, 1, 0), (0, 0, 0, 1), (0, 0, 1, 0), (0, 1, 0, 0)]
def rt (k : Nat) : I4 := rtab.getD k (0, 0, 0, 0)
/-- the first k terms -/
def hs (x : Nat → Int) : Nat → I4
  | 0 => (0, 0, 0, 0)
  | k + 1 => add4 (hs x k) (mul4 (rt k) (x k))
theorem rt_in : ∀ k, k < 12 → in4 1 (rt k) = true := fun k h => by
  match k, h with
  | 0, _ | 1, _ | 2, _ | 3, _ | 4, _ | 5, _ | 6, _ | 7, _ | 8, _ | 9, _ | 10, _ | 11, _ => rfl
theorem one_mul_in {r x m : Int} (hr : -1 ≤ r ∧ r ≤ 1) (hx : -m ≤ x ∧ x ≤ m) : -m ≤ r * x ∧ r * x ≤ m := by
  have : r = -1 ∨ r = 0 ∨ r = 1 := by omega
  rcases this with rfl | rfl | rfl <;> omega
theorem hs_in {x : Nat → Int} {m : Int} (hm : 0 ≤ m) (hx : ∀ k, k < 12 → -m ≤ x k ∧ x k ≤ m) : ∀ k : Nat, k ≤ 12 → in4 (k * m) (hs x k) = true
  | 0, _ => by simp only [hs, in4, inI]; simp
  | k + 1, h => by
    have ih := in4_iff.1 (hs_in hm hx k (by omega))
    have r := in4_iff.1 (rt_in k (by omega))
    have hk := hx k (by omega)
    rw [in4_iff]
    have e : ((k + 1 : Nat) : Int) * m = k * m + m := by rw [Int.natCast_add, Int.add_mul]; simp
    rw [e]
    obtain ⟨a1, a2, a3, a4⟩ := ih
    obtain ⟨r1, r2, r3, r4⟩ := r
    have b1 := one_mul_in r1 hk
    have b2 := one_mul_in r2 hk
    have b3 := one_mul_in r3 hk
    have b4 := one_mul_in r4 hk
    simp only [hs, add4, mul4]
    generalize (k : Int) * m = q at *
    refine ⟨⟨?_, ?_⟩, ⟨?_, ?_⟩, ⟨?_, ?_⟩, ?_, ?_⟩ <;> omega
/-- tests one after the other -/
def tst {β : Type} (p : Nat → Bool) (q : Nat → Bool) (B G : β) : List Nat → β
  | [] => G
  | i :: r => bif p i then B else bif q i then B else tst p q B G r
theorem tst_eq {β : Type} (p q : Nat → Bool) (B G : β) : ∀ l : List Nat, tst p q B G l = bif l.all (fun i => !(p i || q i)) then G else B
  | [] => rfl
  | i :: r => by
    simp only [tst, tst_eq p q B G r, List.all_cons]
    cases p i <;> cases q i <;> rfl
/-- a window -/
def winD (x : Nat → Int) : D := .sl 1 12 fun i => [iD (x i)]
def winOk (x : Nat → Int) : Bool := (List.range 12).all fun i => !(decide (x i < -16383) || decide (x i > 16383))
theorem winOk_iff {x : Nat → Int} : winOk x = true ↔ ∀ i, i < 12 → -16383 ≤ x i ∧ x i ≤ 16383 := by
  unfold winOk
  rw [List.all_eq_true]
  constructor
  · intro h i hi
    have := h i (by simpa using hi)
    simp at this
    omega
  · intro h i hi
    have := h i (by simpa using hi)
    simp
    omega
end Go.Eb
