/-
  Rows that stand for lists; answers that take two ways; small laws on trees of tests. No condition.
-/
import Derived.Test.YtihcidopklhikaaGreatDoorZNu
namespace Go.Eb
open Go.RowKit

section
variable {β : Type} {c : β → List D} {d0 : β}

/-- a row stands for a list -/
structure RL (c : β → List D) (d0 : β) (n : Nat) (f : Nat → List D) (l : List β) : Prop where
  len : n = l.length
  le : ∀ i, i < n → DEs (f i) (c (l.getD i d0))
  ge : ∀ i, i < n → DEs (c (l.getD i d0)) (f i)

theorem RL.de {n sz : Nat} {f : Nat → List D} {l : List β} (h : RL c d0 n f l) : DE (.sl sz n f) (listD sz c d0 l) := by
  obtain ⟨rfl, h1, _⟩ := h
  exact .sls h1
theorem RL.ed {n sz : Nat} {f : Nat → List D} {l : List β} (h : RL c d0 n f l) : DE (listD sz c d0 l) (.sl sz n f) := by
  obtain ⟨rfl, _, h2⟩ := h
  exact .sls h2
theorem RL.nil (f : Nat → List D) : RL c d0 0 f [] := ⟨rfl, fun i h => by omega, fun i h => by omega⟩
theorem RL.data (l : List β) : RL c d0 l.length (fun i => c (l.getD i d0)) l := ⟨rfl, fun i _ => .refl _, fun i _ => .refl _⟩
theorem RL.eq {n : Nat} {f : Nat → List D} {l : List β} (hn : n = l.length) (h : ∀ i, i < n → f i = c (l.getD i d0)) : RL c d0 n f l := ⟨hn, fun i hi => by rw [h i hi]; exact .refl _, fun i hi => by rw [h i hi]; exact .refl _⟩
theorem getD_app_lt {l l' : List β} {i : Nat} (h : i < l.length) : (l ++ l').getD i d0 = l.getD i d0 := by
  rw [List.getD_eq_getElem?_getD, List.getElem?_append_left h, ← List.getD_eq_getElem?_getD]
theorem getD_app_ge {l l' : List β} {i : Nat} (h : l.length ≤ i) : (l ++ l').getD i d0 = l'.getD (i - l.length) d0 := by
  rw [List.getD_eq_getElem?_getD, List.getElem?_append_right h, ← List.getD_eq_getElem?_getD]
/-- two rows, one behind the other -/
theorem RL.cat {n m : Nat} {f g : Nat → List D} {l l' : List β} (h : RL c d0 n f l) (k : RL c d0 m g l') : RL c d0 (n + m) (appF n f g) (l ++ l') := by
  have hf : ∀ i, i < n + m → (i < n ∧ appF n f g i = f i ∧ (l ++ l').getD i d0 = l.getD i d0) ∨ (n ≤ i ∧ appF n f g i = g (i - n) ∧ (l ++ l').getD i d0 = l'.getD (i - n) d0) := fun i hi => by
    unfold appF
    rw [bltD]
    by_cases e : i < n
    · left; rw [decide_eq_true e]; exact ⟨e, rfl, getD_app_lt (by rw [← h.len]; exact e)⟩
    · right; rw [decide_eq_false e]; exact ⟨by omega, rfl, by rw [getD_app_ge (by rw [← h.len]; omega), ← h.len]⟩
  refine ⟨by rw [h.len, k.len, List.length_append], fun i hi => ?_, fun i hi => ?_⟩
  · rcases hf i hi with ⟨h1, h2, h3⟩ | ⟨h1, h2, h3⟩
    · rw [h2, h3]; exact h.le i h1
    · rw [h2, h3]; exact k.le (i - n) (by omega)
  · rcases hf i hi with ⟨h1, h2, h3⟩ | ⟨h1, h2, h3⟩
    · rw [h2, h3]; exact h.ge i h1
    · rw [h2, h3]; exact k.ge (i - n) (by omega)
theorem RL.one {sz : Nat} {ds : List D} {x : β} (hs : ds.length = sz) (h1 : DEs ds (c x)) (h2 : DEs (c x) ds) : RL c d0 1 (chunk ds sz) [x] := by
  have e : ∀ i, i < 1 → chunk ds sz i = ds ∧ [x].getD i d0 = x := fun i hi => by
    obtain rfl : i = 0 := by omega
    refine ⟨?_, rfl⟩
    unfold chunk
    simp [← hs]
  exact ⟨rfl, fun i hi => by rw [(e i hi).1, (e i hi).2]; exact h1, fun i hi => by rw [(e i hi).1, (e i hi).2]; exact h2⟩
/-- one more element -/
theorem RL.app {n sz : Nat} {f : Nat → List D} {l : List β} {ds : List D} {x : β} (h : RL c d0 n f l) (hs : ds.length = sz) (h1 : DEs ds (c x)) (h2 : DEs (c x) ds) : RL c d0 (n + 1) (appF n f (chunk ds sz)) (l ++ [x]) := h.cat (.one hs h1 h2)
theorem RL.app' {n sz : Nat} {f : Nat → List D} {l : List β} {x : β} (h : RL c d0 n f l) (hs : (c x).length = sz) : RL c d0 (n + 1) (appF n f (chunk (c x) sz)) (l ++ [x]) := h.app hs (.refl _) (.refl _)

theorem RL.ble {n sz : Nat} {t : TypeId} {f : Nat → List D} {l : List β} (h : RL c d0 n f l) : Ble (.row n f sz t) (.row l.length (fun i => c (l.getD i d0)) sz t) := ⟨h.len, rfl, rfl, h.le⟩
theorem RL.bel {n sz : Nat} {t : TypeId} {f : Nat → List D} {l : List β} (h : RL c d0 n f l) : Ble (.row l.length (fun i => c (l.getD i d0)) sz t) (.row n f sz t) := ⟨h.len.symm, rfl, rfl, fun i hi => h.ge i (by rw [h.len]; exact hi)⟩
end

section
variable {β : Type} {c : β → List D} {d0 : β} {sz : Nat}
/-- what a row stands for -/
theorem RL.the (hc : ∀ a b, DEs (c a) (c b) → a = b) {n : Nat} {f : Nat → List D} {l : List β} (h : RL c d0 n f l) : okE (listD sz c d0) (.sl sz n f) = true ∧ theE (listD sz c d0) (.sl sz n f) = l :=
  theE_of (listD_inj hc) h.de h.ed
theorem the_list (hc : ∀ a b, DEs (c a) (c b) → a = b) (l : List β) : okE (listD sz c d0) (listD sz c d0 l) = true ∧ theE (listD sz c d0) (listD sz c d0 l) = l := theE_of (listD_inj hc) (.refl _) (.refl _)
theorem nilE {l : List β} (h : DE (.v (.slice none 0 0)) (listD sz c d0 l)) : l = [] := by
  generalize hy : listD sz c d0 l = y at h
  cases h with
  | v => unfold listD at hy; cases hy
  | nil s f =>
    unfold listD at hy
    injection hy with _ h2 _
    exact List.eq_nil_of_length_eq_zero h2
theorem okE_nil : okE (listD sz c d0) (.v (.slice none 0 0)) = true := okE_iff.2 ⟨[], by unfold listD; exact .nil _ _⟩
theorem theE_nil : theE (listD sz c d0) (.v (.slice none 0 0)) = [] := nilE (theE_de okE_nil)
/-- a row of which it is known that it stands for a list -/
theorem RL.of_ok {n : Nat} {f : Nat → List D} (h : okE (listD sz c d0) (.sl sz n f) = true) : n = (theE (listD sz c d0) (.sl sz n f)).length ∧ ∀ i, i < n → DEs (f i) (c ((theE (listD sz c d0) (.sl sz n f)).getD i d0)) := by
  have := theE_de h
  generalize theE (listD sz c d0) (.sl sz n f) = l at this
  unfold listD at this
  generalize hy : D.sl sz l.length (fun i => c (l.getD i d0)) = y at this
  cases this with
  | sl _ _ _ g h1 h2 =>
    injection hy with _ e1 e2
    subst e2
    exact ⟨e1.symm, fun i hi => ⟨h1 i hi, fun j d e hd he => h2 i j d e hi hd he⟩⟩
theorem ble_of_ok {n : Nat} {t : TypeId} {f : Nat → List D} (h : okE (listD sz c d0) (.sl sz n f) = true) : Ble (.row n f sz t) (.row (theE (listD sz c d0) (.sl sz n f)).length (fun i => c ((theE (listD sz c d0) (.sl sz n f)).getD i d0)) sz t) :=
  ⟨(RL.of_ok h).1, rfl, rfl, (RL.of_ok h).2⟩
end

/-- an answer by form, that takes one of two ways -/
def ansB {A : Type} (d : Dec (List AV × Hp) A) (c b : A → Bool) (r : A → AV) (H' : A → Hp) (r2 : A → AV) (H2 : A → Hp) : (R : Type) → List AV → Hp → (AV → Hp → Option (T R)) → Option (T R) := fun _ args H k =>
  match d.dec (args, H) with
  | some a => bif c a then (bif b a then k (r a) (H' a) else k (r2 a) (H2 a)) else none
  | none => none
theorem AnsS.b {P : Program} {f : FuncId} {A : Type} {d : Dec (List AV × Hp) A} {c b : A → Bool} {r : A → AV} {H' : A → Hp} {r2 : A → AV} {H2 : A → Hp} (hc : ∀ a, c a = true → b a = true → CX P f (d.enc a).1 (d.enc a).2 (r a) (H' a))
    (hc2 : ∀ a, c a = true → b a = false → CX P f (d.enc a).1 (d.enc a).2 (r2 a) (H2 a)) : AnsS P f (ansB d c b r H' r2 H2) := by
  refine ⟨fun R args H k t h => ?_, fun args H => ?_⟩
  · unfold ansB at h
    cases hd : d.dec (args, H) with
    | none => rw [hd] at h; cases h
    | some a =>
      rw [hd] at h
      simp only [] at h
      cases hca : c a with
      | false => rw [hca] at h; cases h
      | true =>
        rw [hca] at h
        simp only [cond_true] at h
        have e := d.ok _ _ hd
        cases hb : b a with
        | true =>
          rw [hb] at h
          have := hc a hca hb
          rw [← e] at this
          exact ⟨_, _, h, this⟩
        | false =>
          rw [hb] at h
          have := hc2 a hca hb
          rw [← e] at this
          exact ⟨_, _, h, this⟩
  · unfold ansB
    cases d.dec (args, H) with
    | none => exact .no fun R k => rfl
    | some a => exact .bif _ (.bif _ (.one _ _ fun R k => rfl) (.one _ _ fun R k => rfl)) (.no fun R k => rfl)

namespace Dec
def mp (h : Nat) : Dec C Unit := ⟨fun x => match x with | .mp k => bif Nat.beq k h then some () else none | _ => none, fun _ => .mp h, fun x a e => by
  split at e
  · rename_i k
    cases hb : Nat.beq k h with
    | true => rw [Nat.eq_of_beq_eq_true hb]
    | false => rw [hb] at e; cases e
  · cases e⟩
def mapB (kd : Nat) : Dec Blk (List (Value × Value)) := ⟨fun x => match x with | .map k l => bif Nat.beq k kd then some l else none | _ => none, fun l => .map kd l, fun x a e => by
  split at e
  · rename_i k l
    cases hb : Nat.beq k kd with
    | true => rw [hb] at e; simp only [cond_true, Option.some.injEq] at e; rw [Nat.eq_of_beq_eq_true hb, e]
    | false => rw [hb] at e; cases e
  · cases e⟩
/-- a closure of one method of a block -/
def meth (f : FuncId) : Dec C Unit := ⟨fun x => match x with | .fn g [.ptr 0 0] [] => bif Nat.beq g f then some () else none | _ => none, fun _ => .fn f [.ptr 0 0] [], fun x a e => by
  split at e
  · rename_i g
    cases hb : Nat.beq g f with
    | true => rw [Nat.eq_of_beq_eq_true hb]
    | false => rw [hb] at e; cases e
  · cases e⟩
end Dec

/-! equality, as a test -/
noncomputable def same {α : Type} (a b : α) : Bool := @decide (a = b) (Classical.propDecidable _)
theorem same_iff {α : Type} {a b : α} : same a b = true ↔ a = b := by unfold same; simp
theorem same_refl {α : Type} (a : α) : same a a = true := same_iff.2 rfl
theorem same_ne {α : Type} {a b : α} (h : a ≠ b) : same a b = false := by
  cases e : same a b with
  | false => rfl
  | true => exact absurd (same_iff.1 e) h
theorem strEq (a b : ByteArray) : (a.toList == b.toList) = same a b := by
  rw [Bool.eq_iff_iff, same_iff, beq_iff_eq]
  refine ⟨fun h => ?_, fun h => by rw [h]⟩
  rw [ByteArray.toList_eq, ByteArray.toList_eq] at h
  cases a; cases b
  simp only [ByteArray.mk.injEq]
  exact Array.toList_inj.1 h
theorem intEq (a b : Int) : (a == b) = same a b := by rw [Bool.eq_iff_iff, same_iff, beq_iff_eq]
theorem boolEq (a b : Bool) : (a == b) = same a b := by rw [Bool.eq_iff_iff, same_iff, beq_iff_eq]
theorem eqL_same {β : Type} {eq : β → β → Bool} (h : ∀ a b, eq a b = same a b) : ∀ (l r : List β), eqL eq l r = same l r
  | [], [] => (same_refl _).symm
  | [], _ :: _ => (same_ne (by simp)).symm
  | _ :: _, [] => (same_ne (by simp)).symm
  | a :: r, b :: r' => by
    simp only [eqL, h, eqL_same h r r']
    rw [Bool.eq_iff_iff, Bool.and_eq_true, same_iff, same_iff, same_iff]
    simp

/-! trees of tests -/
abbrev lB (b : Bool) : Option (T (AV × Hp)) := some (.leaf (vB b, []))
theorem bAnd (a b : Bool) : (bif a then lB b else lB false) = lB (a && b) := by cases a <;> rfl
theorem bNot (a b : Bool) : (bif !a then lB false else lB b) = lB (a && b) := by cases a <;> rfl
theorem cAnd (a b : Bool) (L : Option (T (AV × Hp))) : (bif a then (bif !b then lB false else L) else lB false) = bif !(a && b) then lB false else L := by cases a <;> rfl
theorem dNot (a b : Bool) (L : Option (T (AV × Hp))) : (bif !a then lB false else (bif !b then lB false else L)) = bif !(a && b) then lB false else L := by cases a <;> rfl
theorem fNot {α : Type} (b : Bool) (X Y : α) : (bif !b then X else Y) = bif b then Y else X := by cases b <;> rfl
theorem fAnd {α : Type} (a b : Bool) (X Y : α) : (bif a then (bif b then Y else X) else X) = bif (a && b) then Y else X := by cases a <;> rfl
theorem fOr {α : Type} (a b : Bool) (X Y : α) : (bif a then X else (bif b then X else Y)) = bif (a || b) then X else Y := by cases a <;> rfl
theorem neN (a b : Int) : (a != b) = !(a == b) := rfl

/-- a loop over places 0, 1, ..: rounds by a law, then the end -/
theorem scan_loop {ρ σ : Type} {L : Nat → Nat → σ → ρ} {n : Nat} (F : Nat → σ → ρ) (hst : ∀ (m k : Nat) (s : σ), k < n → (∀ s', L m (k + 1) s' = F (k + 1) s') → L (m + 1) k s = F k s) (hend : ∀ m s, L (m + 1) n s = F n s) :
    ∀ (m k : Nat) (s : σ), k ≤ n → n - k < m → L m k s = F k s
  | 0, k, s, _, h => by omega
  | m + 1, k, s, hk, h => by
    by_cases e : k = n
    · subst e; exact hend m s
    · exact hst m k s (by omega) fun s' => scan_loop F hst hend m (k + 1) s' (by omega) (by omega)
end Go.Eb
