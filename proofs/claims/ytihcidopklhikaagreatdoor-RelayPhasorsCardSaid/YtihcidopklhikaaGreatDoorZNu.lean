/-
  Small laws on numbers and places. No condition.
-/
import Derived.Test.YtihcidopklhikaaGreatDoorEc
namespace Go.Eb
open Go.RowKit

theorem wrap_id {n : Int} (h0 : -9223372036854775808 ≤ n) (h1 : n ≤ 9223372036854775807) : IntKind.wrap IntKind.i64 n = n := by
  have e : IntKind.wrap IntKind.i64 n = (n + 9223372036854775808) % 18446744073709551616 - 9223372036854775808 := by
    unfold IntKind.wrap; simp [IntKind.signed, IntKind.bits]; omega
  rw [e]; omega
theorem lt1 {k n : Nat} (h : k < n) : decide ((k : Int) < (n : Int)) = true := by simp; omega
theorem lt0 {k n : Nat} (h : ¬ k < n) : decide ((k : Int) < (n : Int)) = false := by simp; omega
theorem ge0 (k : Nat) : decide ((0 : Int) ≤ (k : Int)) = true := by simp
theorem tn (k : Nat) : Int.toNat (k : Int) = k := by simp
theorem nx {k n : Nat} (h : k < n) (hn : n ≤ 9223372036854775807) : IntKind.wrap IntKind.i64 ((k : Int) + 1) = ((k + 1 : Nat) : Int) := by rw [wrap_id (by omega) (by omega)]; omega
theorem drop_at' {α : Type} {T : List α} {d : α} {a : Nat} (h : a < T.length) : T.drop a = T.getD a d :: T.drop (a + 1) := by
  rw [List.drop_eq_getElem_cons h]; simp [List.getD, h]

/-- equal lists -/
def eqL {β : Type} (eq : β → β → Bool) : List β → List β → Bool
  | [], [] => true
  | a :: r, b :: r' => eq a b && eqL eq r r'
  | _, _ => false
/-- a loop that compares element by element -/
theorem eq_loop {β : Type} {L : Nat → Int → Option (T (AV × Hp))} {l r : List β} {d : β} {eq : β → β → Bool}
    (hst : ∀ (m : Nat) (i : Int), L (m + 1) i = bif decide (i < (l.length : Int)) then (bif decide (0 ≤ i) && decide (i < (l.length : Int)) then (bif decide (0 ≤ i) && decide (i < (r.length : Int)) then
      (bif !eq (l.getD i.toNat d) (r.getD i.toNat d) then some (.leaf (vB false, [])) else L m (IntKind.wrap IntKind.i64 (i + 1))) else none) else none) else some (.leaf (vB true, [])))
    (hl : l.length = r.length) (hb : l.length ≤ 9223372036854775807) : ∀ (m k : Nat), k ≤ l.length → l.length - k < m → L m k = some (.leaf (vB (eqL eq (l.drop k) (r.drop k)), [])) := by
  intro m
  induction m with
  | zero => intro k _ h; omega
  | succ m ih =>
    intro k hk h
    rw [hst]
    by_cases hlt : k < l.length
    · have hlt' : k < r.length := by omega
      have i1 := ih (k + 1) (by omega) (by omega)
      rw [drop_at' (d := d) hlt, drop_at' (d := d) hlt']
      simp only [lt1 hlt, lt1 hlt', ge0, tn, Bool.and_self, cond_true, nx hlt hb, i1, eqL]
      cases eq (l.getD k d) (r.getD k d) <;> rfl
    · rw [lt0 hlt, List.drop_of_length_le (by omega), List.drop_of_length_le (by omega)]
      rfl
theorem eqL_ne {β : Type} (eq : β → β → Bool) : ∀ (l r : List β), l.length ≠ r.length → eqL eq l r = false
  | [], [], h => absurd rfl h
  | [], _ :: _, _ => rfl
  | _ :: _, [], _ => rfl
  | a :: r, b :: r', h => by simp only [eqL, eqL_ne eq r r' (by simpa using h), Bool.and_false]
theorem lenne {n m : Nat} : ((n : Int) != (m : Int)) = !decide (n = m) := by
  by_cases h : n = m
  · subst h; simp
  · have h2 : ((n : Int) == (m : Int)) = false := beq_eq_false_iff_ne.2 (by omega)
    simp only [bne, h2, h, decide_false]
/-- slices.Equal -/
theorem eq_whole {β : Type} {L : Nat → Int → Option (T (AV × Hp))} {l r : List β} {d : β} {eq : β → β → Bool} {g : Nat}
    (hst : ∀ (m : Nat) (i : Int), L (m + 1) i = bif decide (i < (l.length : Int)) then (bif decide (0 ≤ i) && decide (i < (l.length : Int)) then (bif decide (0 ≤ i) && decide (i < (r.length : Int)) then
      (bif !eq (l.getD i.toNat d) (r.getD i.toNat d) then some (.leaf (vB false, [])) else L m (IntKind.wrap IntKind.i64 (i + 1))) else none) else none) else some (.leaf (vB true, [])))
    (hb : l.length ≤ 9223372036854775807) (hg : l.length < g) : (bif ((l.length : Int) != (r.length : Int)) then some (T.leaf (vB false, ([] : Hp))) else L g 0) = some (.leaf (vB (eqL eq l r), [])) := by
  rw [lenne]
  by_cases h : l.length = r.length
  · have := eq_loop hst h hb g 0 (by omega) (by omega)
    simp only [h, decide_true, Bool.not_true, cond_false]
    exact this
  · rw [eqL_ne eq l r h]
    simp only [h, decide_false, Bool.not_false, cond_true]
end Go.Eb
