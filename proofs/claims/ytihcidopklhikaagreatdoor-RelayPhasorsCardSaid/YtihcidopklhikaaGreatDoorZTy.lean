/-
  Answers at typed arguments: what arguments stand for, by their spelling. No condition.
-/
import Derived.Test.YtihcidopklhikaaGreatDoorZRl
namespace Go.Eb
open Go.RowKit

theorem bLeaf (c a b : Bool) : (bif c then some (T.leaf (vB a, ([] : Hp))) else some (T.leaf (vB b, []))) = some (T.leaf (vB (bif c then a else b), [])) := by cases c <;> rfl
theorem iLeaf (c : Bool) (a b : Int) : (bif c then some (T.leaf (vI a, ([] : Hp))) else some (T.leaf (vI b, []))) = some (T.leaf (vI (bif c then a else b), [])) := by cases c <;> rfl
theorem tt : (true && true) = true := rfl

/-- an answer by the arguments themselves; no memory -/
def ansG (ok : List AV → Bool) (r : List AV → AV) : (R : Type) → List AV → Hp → (AV → Hp → Option (T R)) → Option (T R) := fun _ args H k => match H with
  | [] => bif ok args then k (r args) [] else none
  | _ :: _ => none

section
variable {α : Type} [Inhabited α]
noncomputable def okX (enc : α → List AV) (x : List AV) : Bool := @decide (∃ a, Asle x (enc a)) (Classical.propDecidable _)
noncomputable def theT (enc : α → List AV) (x : List AV) : α := @dite _ (∃ a, Asle x (enc a)) (Classical.propDecidable _) (fun h => Classical.choose h) (fun _ => default)
omit [Inhabited α] in
theorem okX_iff {enc : α → List AV} {x : List AV} : okX enc x = true ↔ ∃ a, Asle x (enc a) := by unfold okX; simp
theorem theT_le {enc : α → List AV} {x : List AV} (h : okX enc x = true) : Asle x (enc (theT enc x)) := by
  have h' := okX_iff.1 h
  unfold theT
  rw [dif_pos h']
  exact Classical.choose_spec h'
def InjT (enc : α → List AV) : Prop := ∀ a b, Asle (enc a) (enc b) → a = b
omit [Inhabited α] in
theorem okX_enc {enc : α → List AV} (a : α) : okX enc (enc a) = true := okX_iff.2 ⟨a, .refl _⟩
theorem theT_enc {enc : α → List AV} (inj : InjT enc) (a : α) : theT enc (enc a) = a := (inj _ _ (theT_le (okX_enc a))).symm

/-- the condition, at typed arguments -/
noncomputable def okG (enc : α → List AV) (c : α → Bool) (x : List AV) : Bool := okX enc x && c (theT enc x)
theorem okG_enc {enc : α → List AV} (inj : InjT enc) {c : α → Bool} (a : α) (h : c a = true) : okG enc c (enc a) = true := by
  unfold okG; rw [okX_enc, theT_enc inj, h]; rfl

theorem AnsS.g {P : Program} {f : FuncId} {ok : List AV → Bool} {r : List AV → AV} (hc : ∀ x, ok x = true → CX P f x [] (r x) []) : AnsS P f (ansG ok r) := by
  refine ⟨fun R args H k t h => ?_, fun args H => ?_⟩
  · unfold ansG at h
    cases H with
    | cons b H => cases h
    | nil =>
      simp only [] at h
      cases hb : ok args with
      | false => rw [hb] at h; cases h
      | true => rw [hb] at h; exact ⟨_, _, h, hc args hb⟩
  · unfold ansG
    cases H with
    | cons b H => exact .no fun R k => rfl
    | nil => exact .bif _ (.one _ _ fun R k => rfl) (.no fun R k => rfl)
theorem AnsS.t {P : Program} {f : FuncId} {enc : α → List AV} {c : α → Bool} {r : List AV → AV} (hc : ∀ a, c a = true → CX P f (enc a) [] (r (enc a)) []) (hr : ∀ x, okG enc c x = true → r x = r (enc (theT enc x))) : AnsS P f (ansG (okG enc c) r) := .g fun x h => by
  rw [hr x h]
  unfold okG at h
  simp only [Bool.and_eq_true] at h
  exact (hc _ h.2).ge (theT_le h.1) (.refl _)
/-- the answer is a function of what the arguments stand for -/
theorem AnsS.t' {P : Program} {f : FuncId} {enc : α → List AV} {c : α → Bool} {r : α → AV} (hc : ∀ a, c a = true → CX P f (enc a) [] (r a) []) : AnsS P f (ansG (okG enc c) fun x => r (theT enc x)) := .g fun x h => by
  unfold okG at h
  simp only [Bool.and_eq_true] at h
  exact (hc _ h.2).ge (theT_le h.1) (.refl _)
end

/-! spellings of one argument, and of several -/
def InjA {α : Type} (e : α → AV) : Prop := ∀ a b, Ale (e a) (e b) → a = b
theorem asle_cons {x y : AV} {a b : List AV} (h : Asle (x :: a) (y :: b)) : Ale x y ∧ Asle a b := by
  refine ⟨h.2 0 x y rfl rfl, by simpa using h.1, fun i p q h1 h2 => h.2 (i + 1) p q (by simpa using h1) (by simpa using h2)⟩
section
variable {α β γ δ : Type} {e : α → AV} {f : β → AV} {g : γ → AV} {k : δ → AV}
def en1 (e : α → AV) : α → List AV := fun a => [e a]
def en2 (e : α → AV) (f : β → AV) : α × β → List AV := fun a => [e a.1, f a.2]
def en3 (e : α → AV) (f : β → AV) (g : γ → AV) : α × β × γ → List AV := fun a => [e a.1, f a.2.1, g a.2.2]
def en4 (e : α → AV) (f : β → AV) (g : γ → AV) (k : δ → AV) : α × β × γ × δ → List AV := fun a => [e a.1, f a.2.1, g a.2.2.1, k a.2.2.2]
theorem en1_inj (h : InjA e) : InjT (en1 e) := fun a b x => h _ _ (asle_cons x).1
theorem en2_inj (h : InjA e) (h2 : InjA f) : InjT (en2 e f) := fun a b x => by
  obtain ⟨x1, x⟩ := asle_cons x
  obtain ⟨x2, x⟩ := asle_cons x
  exact Prod.ext (h _ _ x1) (h2 _ _ x2)
theorem en3_inj (h : InjA e) (h2 : InjA f) (h3 : InjA g) : InjT (en3 e f g) := fun a b x => by
  obtain ⟨x1, x⟩ := asle_cons x
  obtain ⟨x2, x⟩ := asle_cons x
  obtain ⟨x3, x⟩ := asle_cons x
  exact Prod.ext (h _ _ x1) (Prod.ext (h2 _ _ x2) (h3 _ _ x3))
theorem en4_inj (h : InjA e) (h2 : InjA f) (h3 : InjA g) (h4 : InjA k) : InjT (en4 e f g k) := fun a b x => by
  obtain ⟨x1, x⟩ := asle_cons x
  obtain ⟨x2, x⟩ := asle_cons x
  obtain ⟨x3, x⟩ := asle_cons x
  obtain ⟨x4, x⟩ := asle_cons x
  exact Prod.ext (h _ _ x1) (Prod.ext (h2 _ _ x2) (Prod.ext (h3 _ _ x3) (h4 _ _ x4)))
end
def en5 {α β γ δ ε : Type} (e : α → AV) (f : β → AV) (g : γ → AV) (k : δ → AV) (l : ε → AV) : α × β × γ × δ × ε → List AV := fun a => [e a.1, f a.2.1, g a.2.2.1, k a.2.2.2.1, l a.2.2.2.2]
theorem en5_inj {α β γ δ ε : Type} {e : α → AV} {f : β → AV} {g : γ → AV} {k : δ → AV} {l : ε → AV} (h : InjA e) (h2 : InjA f) (h3 : InjA g) (h4 : InjA k) (h5 : InjA l) : InjT (en5 e f g k l) := fun a b x => by
  obtain ⟨x1, x⟩ := asle_cons x
  obtain ⟨x2, x⟩ := asle_cons x
  obtain ⟨x3, x⟩ := asle_cons x
  obtain ⟨x4, x⟩ := asle_cons x
  obtain ⟨x5, x⟩ := asle_cons x
  exact Prod.ext (h _ _ x1) (Prod.ext (h2 _ _ x2) (Prod.ext (h3 _ _ x3) (Prod.ext (h4 _ _ x4) (h5 _ _ x5))))
/-- data of one cell -/
def aD {α : Type} (e : α → D) : α → AV := fun a => .c (.d (e a))
/-- data of many cells -/
def aG {α : Type} (e : α → List D) : α → AV := fun a => .agg ((e a).map .d)
theorem ale_c {x y : D} (h : Ale (.c (.d x)) (.c (.d y))) : DE x y := h
theorem ale_agg {x y : List D} (h : Ale (.agg (x.map .d)) (.agg (y.map .d))) : DEs x y := by
  have h : Csle (x.map .d) (y.map .d) := h
  refine ⟨by simpa using h.1, fun j d e hd he => ?_⟩
  exact h.2 j (.d d) (.d e) (by rw [List.getElem?_map, hd]; rfl) (by rw [List.getElem?_map, he]; rfl)
theorem aD_inj {α : Type} {e : α → D} (h : ∀ a b, DE (e a) (e b) → a = b) : InjA (aD e) := fun a b x => h a b (ale_c x)
theorem aG_inj {α : Type} {e : α → List D} (h : ∀ a b, DEs (e a) (e b) → a = b) : InjA (aG e) := fun a b x => h a b (ale_agg x)
theorem vI_inj : InjA vI := fun a b x => by have := dv_inj (ale_c x); simpa using this
def vN (n : Nat) : AV := vI n
theorem vN_inj : InjA vN := fun a b x => by have := vI_inj _ _ x; omega
theorem vB_inj : InjA vB := fun a b x => by have := dv_inj (ale_c x); simpa using this
theorem vS_inj : InjA vS := fun a b x => by have := dv_inj (ale_c x); simpa using this
instance : Inhabited ByteArray := ⟨⟨#[]⟩⟩

/-! arguments, opened -/
theorem list_of {α : Type} (d : α) (R : Nat → α → Prop) : ∀ (n : Nat), (∀ i, i < n → ∃ x, R i x) → ∃ l : List α, l.length = n ∧ ∀ i, i < n → R i (l.getD i d)
  | 0, _ => ⟨[], rfl, fun i h => by omega⟩
  | n + 1, h => by
    obtain ⟨l, hl, hr⟩ := list_of d R n (fun i hi => h i (by omega))
    obtain ⟨x, hx⟩ := h n (by omega)
    refine ⟨l ++ [x], by simp [hl], fun i hi => ?_⟩
    by_cases e : i < n
    · have := hr i e
      rwa [List.getD_eq_getElem?_getD, List.getElem?_append_left (by omega), ← List.getD_eq_getElem?_getD]
    · have : i = n := by omega
      subst this
      rw [List.getD_eq_getElem?_getD, List.getElem?_append_right (by omega), hl]
      simpa using hx
def lenOk {α : Type} (l : List α) : Bool := decide (l.length ≤ 9223372036854775807)
theorem lenOk_le {α : Type} {l : List α} (h : lenOk l = true) : l.length ≤ 9223372036854775807 := by unfold lenOk at h; simpa using h
theorem maxLen_le : maxLen ≤ 9223372036854775807 := by unfold maxLen; omega
theorem shp_list {P : Program} {t e : TypeId} {ds : List D} {β : Type} {c : β → List D} {d0 : β} {sz : Nat} {ok : β → Bool} (hu : P.underlying t = some (.slice e)) (hc : P.cellsOf e = sz)
    (ho : ∀ ds, Shp P e ds → ∃ x, DEs ds (c x) ∧ ok x = true) (h : Shp P t ds) : ∃ (d : D) (l : List β), ds = [d] ∧ DE d (listD sz c d0 l) ∧ lenOk l = true ∧ l.all ok = true := by
  obtain ⟨n, f, rfl, hn, hf⟩ := h.sl_inv hu
  obtain ⟨l, hl, hr⟩ := list_of d0 (fun i x => DEs (f i) (c x) ∧ ok x = true) n (fun i hi => ho _ (hf i hi))
  subst hl
  have hM := maxLen_le
  refine ⟨_, l, rfl, ?_, ?_, ?_⟩
  · rw [hc]; exact .sls fun i hi => (hr i hi).1
  · unfold lenOk; rw [decide_eq_true (by omega)]
  · rw [List.all_eq_true]
    intro x hx
    obtain ⟨i, hi, he⟩ := List.getElem_of_mem hx
    have := (hr i hi).2
    rwa [List.getD_eq_getElem?_getD, List.getElem?_eq_getElem hi, he] at this
theorem DEs.app {a b a' b' : List D} (h : DEs a a') (k : DEs b b') : DEs (a ++ b) (a' ++ b') := by
  refine ⟨by simp [h.1, k.1], fun j d e hd he => ?_⟩
  by_cases hj : j < a.length
  · rw [List.getElem?_append_left hj] at hd
    rw [List.getElem?_append_left (by rw [← h.1]; exact hj)] at he
    exact h.2 j d e hd he
  · rw [List.getElem?_append_right (by omega)] at hd
    rw [List.getElem?_append_right (by rw [← h.1]; omega), ← h.1] at he
    exact k.2 _ d e hd he
theorem ale_of_des {a b : List D} (h : DEs a b) : Ale (.agg (a.map .d)) (.agg (b.map .d)) := by
  show Csle _ _
  refine ⟨by simpa using h.1, fun j d e hd he => ?_⟩
  rw [List.getElem?_map] at hd he
  cases h1 : a[j]? with
  | none => rw [h1] at hd; cases hd
  | some x =>
    cases h2 : b[j]? with
    | none => rw [h2] at he; cases he
    | some y => rw [h1] at hd; rw [h2] at he; cases hd; cases he; exact h.2 j x y h1 h2
theorem int_rng {n : Int} (h : (Lit.int .i64 n).wf = true) : -9223372036854775808 ≤ n ∧ n ≤ 9223372036854775807 := by
  have h : (decide (IntKind.i64.min ≤ n) && decide (n ≤ IntKind.i64.max)) = true := h
  simp only [Bool.and_eq_true, decide_eq_true_eq] at h
  have e1 : IntKind.i64.min = -9223372036854775808 := by decide
  have e2 : IntKind.i64.max = 9223372036854775807 := by decide
  rw [e1, e2] at h
  exact h
end Go.Eb
