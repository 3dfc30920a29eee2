/-
  Lists of a relay: their first error, in plain form. No condition.
-/
import Derived.Test.YtihcidopklhikaaGreatDoorZOs
import Derived.Test.YtihcidopklhikaaGreatDoorZRe
namespace Go.Eb
open Go.RowKit

abbrev lN (n : Int) : Option (T (AV × Hp)) := some (.leaf (vI n, []))
/-- the first error of a list: names that are not valid, names that were there, the rest -/
def listErr {α : Type} (valid : α → Bool) (key : α → ByteArray) (rest : α → Int) (seen : List ByteArray) : List α → Int
  | [] => 0
  | x :: r => bif !valid x then 7 else bif inB seen (key x) then 8 else bif rest x != 0 then rest x else listErr valid key rest (seen ++ [key x]) r
theorem seen_loop {α : Type} {valid : α → Bool} {key : α → ByteArray} {rest : α → Int} {l : List α} {d0 : α} {L : Nat → List (Value × Value) → Int → Option (T (AV × Hp))}
    (hst : ∀ (m k : Nat) (seen : List ByteArray), k < l.length → L (m + 1) (mapOf seen) k = bif !valid (l.getD k d0) then lN 7 else bif inB seen (key (l.getD k d0)) then lN 8 else bif rest (l.getD k d0) != 0 then lN (rest (l.getD k d0)) else L m (mapOf (seen ++ [key (l.getD k d0)])) ((k + 1 : Nat) : Int))
    (hend : ∀ m mp, L (m + 1) mp l.length = lN 0) : ∀ (m k : Nat) (seen : List ByteArray), k ≤ l.length → l.length - k < m → L m (mapOf seen) k = lN (listErr valid key rest seen (l.drop k))
  | 0, k, _, _, h => by omega
  | m + 1, k, seen, hk, h => by
    by_cases e : k = l.length
    · subst e
      rw [hend, List.drop_of_length_le (Nat.le_refl _)]
      rfl
    · have hlt : k < l.length := by omega
      rw [hst m k seen hlt, seen_loop hst hend m (k + 1) _ (by omega) (by omega), drop_at' (d := d0) hlt]
      simp only [listErr]
      cases valid (l.getD k d0) with
      | false => rfl
      | true =>
        cases inB seen (key (l.getD k d0)) with
        | true => rfl
        | false =>
          cases (rest (l.getD k d0) != 0) <;> rfl
/-- the first place with a property -/
def idxP {α : Type} (p : α → Bool) : Nat → List α → Int
  | _, [] => -1
  | i, x :: r => bif p x then (i : Int) else idxP p (i + 1) r
theorem idxP_ge {α : Type} (p : α → Bool) : ∀ (l : List α) (i : Nat), decide (idxP p i l ≥ 0) = l.any p
  | [], i => rfl
  | x :: r, i => by
    have ih := idxP_ge p r (i + 1)
    have e : idxP p i (x :: r) = bif p x then (i : Int) else idxP p (i + 1) r := rfl
    rw [List.any_cons, ← ih, Bool.eq_iff_iff, Bool.or_eq_true, decide_eq_true_eq, decide_eq_true_eq, e]
    cases p x with
    | true => simp
    | false => simp
theorem idx_loop {α : Type} {p : α → Bool} {l : List α} {d0 : α} {L : Nat → Int → Option (T (AV × Hp))}
    (hst : ∀ (m k : Nat), k < l.length → L (m + 1) k = bif p (l.getD k d0) then lN k else L m ((k + 1 : Nat) : Int)) (hend : ∀ m, L (m + 1) l.length = lN (-1)) :
    ∀ (m k : Nat), k ≤ l.length → l.length - k < m → L m k = lN (idxP p k (l.drop k))
  | 0, k, _, h => by omega
  | m + 1, k, hk, h => by
    by_cases e : k = l.length
    · subst e
      rw [hend, List.drop_of_length_le (Nat.le_refl _)]
      rfl
    · have hlt : k < l.length := by omega
      rw [hst m k hlt, idx_loop hst hend m (k + 1) (by omega) (by omega), drop_at' (d := d0) hlt]
      simp only [idxP]
      cases p (l.getD k d0) <;> rfl

/-- a loop that puts names into a map -/
theorem name_loop {α : Type} {nm : α → ByteArray} {l : List α} {d0 : α} {L : Nat → List (Value × Value) → Int → Option (T (AV × Hp))} {NX : List (Value × Value) → Option (T (AV × Hp))}
    (hst : ∀ (m k : Nat) (N : List ByteArray), k < l.length → L (m + 1) (mapOf N) k = L m (mapOf (N ++ [nm (l.getD k d0)])) ((k + 1 : Nat) : Int)) (hend : ∀ m mp, L (m + 1) mp l.length = NX mp) :
    ∀ (m k : Nat) (N : List ByteArray), k ≤ l.length → l.length - k < m → L m (mapOf N) k = NX (mapOf (N ++ (l.drop k).map nm))
  | 0, k, _, _, h => by omega
  | m + 1, k, N, hk, h => by
    by_cases e : k = l.length
    · subst e
      rw [hend, List.drop_of_length_le (Nat.le_refl _)]
      simp
    · have hlt : k < l.length := by omega
      rw [hst m k N hlt, name_loop hst hend m (k + 1) _ (by omega) (by omega), drop_at' (d := d0) hlt]
      simp

/-- bytes of a rule's text -/
def badByte (c : UInt8) : Bool := decide ((c.toNat : Int) < 32) || (decide ((c.toNat : Int) > 126) || (c.toNat : Int) == 34)
def textErr (s : ByteArray) : Int := bif decide (120 < s.size) then 4 else bif s.data.toList.any badByte then 5 else 0

def okSet (x : SSet) : Bool := lenOk x.sigs
def okRel (r : SRel) : Bool := lenOk r.rules && (lenOk r.sets && (lenOk r.pubs && (lenOk r.subs && r.sets.all okSet)))
theorem okRel_len {r : SRel} (h : okRel r = true) : r.rules.length ≤ 9223372036854775807 ∧ r.sets.length ≤ 9223372036854775807 ∧ r.pubs.length ≤ 9223372036854775807 ∧ r.subs.length ≤ 9223372036854775807 ∧ r.sets.all okSet = true := by
  unfold okRel lenOk at h
  simp only [Bool.and_eq_true, decide_eq_true_eq] at h
  exact h
theorem all_getD {α : Type} {p : α → Bool} {l : List α} {d : α} (h : l.all p = true) (hd : p d = true) (i : Nat) : p (l.getD i d) = true := by
  by_cases hi : i < l.length
  · rw [List.all_eq_true] at h
    exact h _ (by simp [List.getD, hi])
  · have : l.getD i d = d := by simp [List.getD, hi]
    rw [this]; exact hd
end Go.Eb
