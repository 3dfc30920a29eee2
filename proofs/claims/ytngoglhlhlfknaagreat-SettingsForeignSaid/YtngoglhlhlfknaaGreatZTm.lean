/-
  Answers at typed arguments and memory: what they stand for, by their spelling. No condition.
-/
import Derived.Test.YtngoglhlhlfknaaGreatZTy
namespace Go.Eb
open Go.RowKit

/-- an answer by the arguments and the memory themselves -/
def ansM (ok : List AV → Hp → Bool) (r : List AV → Hp → AV) (H' : List AV → Hp → Hp) : (R : Type) → List AV → Hp → (AV → Hp → Option (T R)) → Option (T R) := fun _ args H k =>
  bif ok args H then k (r args H) (H' args H) else none
theorem AnsS.mg {P : Program} {f : FuncId} {ok : List AV → Hp → Bool} {r : List AV → Hp → AV} {H' : List AV → Hp → Hp} (hc : ∀ x H, ok x H = true → CX P f x H (r x H) (H' x H)) : AnsS P f (ansM ok r H') := by
  refine ⟨fun R args H k t h => ?_, fun args H => ?_⟩
  · unfold ansM at h
    cases hb : ok args H with
    | false => rw [hb] at h; cases h
    | true => rw [hb] at h; exact ⟨_, _, h, hc args H hb⟩
  · unfold ansM
    exact .bif _ (.one _ _ fun R k => rfl) (.no fun R k => rfl)
section
variable {α : Type} [Inhabited α]
noncomputable def okY (enc : α → List AV × Hp) (x : List AV) (H : Hp) : Bool := @decide (∃ a, Asle x (enc a).1 ∧ Hle H (enc a).2) (Classical.propDecidable _)
noncomputable def theY (enc : α → List AV × Hp) (x : List AV) (H : Hp) : α := @dite _ (∃ a, Asle x (enc a).1 ∧ Hle H (enc a).2) (Classical.propDecidable _) (fun h => Classical.choose h) (fun _ => default)
omit [Inhabited α] in
theorem okY_iff {enc : α → List AV × Hp} {x : List AV} {H : Hp} : okY enc x H = true ↔ ∃ a, Asle x (enc a).1 ∧ Hle H (enc a).2 := by unfold okY; simp
theorem theY_le {enc : α → List AV × Hp} {x : List AV} {H : Hp} (h : okY enc x H = true) : Asle x (enc (theY enc x H)).1 ∧ Hle H (enc (theY enc x H)).2 := by
  have h' := okY_iff.1 h
  unfold theY
  rw [dif_pos h']
  exact Classical.choose_spec h'
def InjY (enc : α → List AV × Hp) : Prop := ∀ a b, Asle (enc a).1 (enc b).1 → Hle (enc a).2 (enc b).2 → a = b
noncomputable def okZ (enc : α → List AV × Hp) (c : α → Bool) (x : List AV) (H : Hp) : Bool := okY enc x H && c (theY enc x H)
omit [Inhabited α] in
theorem okY_enc {enc : α → List AV × Hp} (a : α) : okY enc (enc a).1 (enc a).2 = true := okY_iff.2 ⟨a, .refl _, .refl _⟩
theorem theY_enc {enc : α → List AV × Hp} (inj : InjY enc) (a : α) : theY enc (enc a).1 (enc a).2 = a := (inj _ _ (theY_le (okY_enc a)).1 (theY_le (okY_enc a)).2).symm
theorem okZ_enc {enc : α → List AV × Hp} (inj : InjY enc) {c : α → Bool} (a : α) (h : c a = true) : okZ enc c (enc a).1 (enc a).2 = true := by
  unfold okZ; rw [okY_enc, theY_enc inj, h]; rfl
theorem AnsS.m {P : Program} {f : FuncId} {enc : α → List AV × Hp} {c : α → Bool} {r : α → AV} {H' : α → Hp} (hc : ∀ a, c a = true → CX P f (enc a).1 (enc a).2 (r a) (H' a)) :
    AnsS P f (ansM (okZ enc c) (fun x H => r (theY enc x H)) fun x H => H' (theY enc x H)) := .mg fun x H h => by
  unfold okZ at h
  simp only [Bool.and_eq_true] at h
  exact (hc _ h.2).ge (theY_le h.1).1 (theY_le h.1).2
end

/-- memory, block by block -/
theorem hle_look {H K : Hp} (h : Hle H K) (n : Nat) {a b : Blk} (h1 : look H n = some a) (h2 : look K n = some b) : Ble a b := by
  have := h n
  rw [h1, h2] at this
  exact this
theorem ble_map {a b : Nat} {l l' : List (Value × Value)} (h : Ble (.map a l) (.map b l')) : l = l' := by
  have h : Blk.map a l = Blk.map b l' := h
  injection h
theorem ble_cells {a b : List C} {t u : TypeId} (h : Ble (.cells a t) (.cells b u)) : Csle a b := h.2

/-! numbers in a map -/
def mapIn (l : List Int) : List (Value × Value) := l.reverse.map fun n => (.int .i64 n, .bool true)
theorem mapIn_app (l : List Int) (n : Int) : mapIn (l ++ [n]) = (.int .i64 n, .bool true) :: mapIn l := by simp [mapIn]
theorem assoc_mapIn (l : List Int) (n : Int) : boolOf (assoc (mapIn l) (.int .i64 n)) = l.any fun m => n == m := by
  have key : ∀ l : List Int, boolOf (assoc (l.map fun n => (Value.int .i64 n, Value.bool true)) (.int .i64 n)) = l.any fun m => n == m := by
    intro l
    induction l with
    | nil => rfl
    | cons m r ih =>
      simp only [List.map_cons, assoc, sameK, List.any_cons]
      cases (n == m) with
      | true => rfl
      | false => simp only [cond_false, Bool.false_or]; exact ih
  unfold mapIn
  rw [key, List.any_reverse]
theorem mapIn_inj {a b : List Int} (h : mapIn a = mapIn b) : a = b := by
  unfold mapIn at h
  have h2 := (List.map_inj_right (f := fun n : Int => (Value.int .i64 n, Value.bool true)) (fun x y e => by simpa using e)).1 h
  exact List.reverse_inj.1 h2
end Go.Eb
