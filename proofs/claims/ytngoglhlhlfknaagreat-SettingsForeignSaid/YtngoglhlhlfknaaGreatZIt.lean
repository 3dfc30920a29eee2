/-
  Statements and words as data: their abstract form, and back. No condition.
-/
import Derived.Test.YtngoglhlhlfknaaGreatEc
namespace Go.Eb
open Go.RowKit

structure Wd where
  text : ByteArray
  q : Bool

inductive It where
  | mk (line : Int) (words : List Wd) (block : Bool) (kids : List It)

namespace It
def line : It → Int | mk l _ _ _ => l
def words : It → List Wd | mk _ w _ _ => w
def block : It → Bool | mk _ _ b _ => b
def kids : It → List It | mk _ _ _ k => k
theorem eta (x : It) : x = mk x.line x.words x.block x.kids := by cases x; rfl
end It

def w0 : Wd := ⟨ByteArray.mk #[], false⟩
def i0 : It := .mk 0 [] false []

def wcells (w : Wd) : List D := [.v (.string w.text), .v (.bool w.q)]
def wordsD (l : List Wd) : D := .sl 2 l.length fun i => wcells (l.getD i w0)

def kidF : List It → Nat → List D
  | [], _ => []
  | .mk l w b k :: _, 0 => [.v (.int .i64 l), wordsD w, .v (.bool b), .sl 4 k.length (kidF k)]
  | _ :: r, i + 1 => kidF r i
/-- a statement's own statements -/
def kidsD (x : It) : D := .sl 4 x.kids.length (kidF x.kids)

def icells (x : It) : List D := [.v (.int .i64 x.line), wordsD x.words, .v (.bool x.block), kidsD x]
def itemsD (l : List It) : D := .sl 4 l.length fun i => icells (l.getD i i0)

theorem kidF_eq : ∀ (l : List It) (i : Nat), i < l.length → kidF l i = icells (l.getD i i0)
  | [], i, h => by simp at h
  | .mk a b c k :: r, 0, _ => by simp only [kidF, List.getD_cons_zero, icells, kidsD, It.line, It.words, It.block, It.kids]
  | x :: r, i + 1, h => by simp only [kidF, List.getD_cons_succ]; exact kidF_eq r i (by simpa using h)

theorem kidsD_de (x : It) : DE (kidsD x) (itemsD x.kids) := by
  exact .sl_eq fun i hi => kidF_eq x.kids i hi
theorem itemsD_de (x : It) : DE (itemsD x.kids) (kidsD x) := by
  exact .sl_eq fun i hi => (kidF_eq x.kids i hi).symm

theorem de_v {a b : Value} (h : DE (.v a) (.v b)) : a = b := by cases h; rfl
theorem de_sl {sz n sz' m : Nat} {f g : Nat → List D} (h : DE (.sl sz n f) (.sl sz' m g)) : sz = sz' ∧ n = m ∧ ∀ i, i < n → DEs (f i) (g i) := by
  cases h with
  | sl _ _ _ _ h1 h2 => exact ⟨rfl, rfl, fun i hi => ⟨h1 i hi, fun j d e hd he => h2 i j d e hi hd he⟩⟩

theorem wcells_inj {a b : Wd} (h : DEs (wcells a) (wcells b)) : a = b := by
  have h1 := de_v (h.2 0 _ _ rfl rfl)
  have h2 := de_v (h.2 1 _ _ rfl rfl)
  cases a; cases b
  simp at h1 h2
  rw [h1, h2]

theorem list_ext {α : Type} {d : α} : ∀ {l l' : List α}, l.length = l'.length → (∀ i, i < l.length → l.getD i d = l'.getD i d) → l = l'
  | [], [], _, _ => rfl
  | x :: r, y :: r', hl, h => by
    have h0 := h 0 (by simp)
    simp at h0
    rw [h0, list_ext (l := r) (l' := r') (by simpa using hl) (fun i hi => by have := h (i + 1) (by simpa using hi); simpa using this)]
  | [], _ :: _, hl, _ => by simp at hl
  | _ :: _, [], hl, _ => by simp at hl

theorem wordsD_inj {l l' : List Wd} (h : DE (wordsD l) (wordsD l')) : l = l' := by
  obtain ⟨_, hl, hf⟩ := de_sl h
  exact list_ext hl fun i hi => wcells_inj (hf i hi)

theorem kidF_inj : ∀ (l l' : List It), l.length = l'.length → (∀ i, i < l.length → DEs (kidF l i) (kidF l' i)) → l = l'
  | [], [], _, _ => rfl
  | .mk a b c k :: r, .mk a' b' c' k' :: r', hl, h => by
    have h0 := h 0 (by simp)
    simp only [kidF] at h0
    have e1 := de_v (h0.2 0 _ _ rfl rfl)
    have e2 := wordsD_inj (h0.2 1 _ _ rfl rfl)
    have e3 := de_v (h0.2 2 _ _ rfl rfl)
    obtain ⟨_, hl4, hf4⟩ := de_sl (h0.2 3 _ _ rfl rfl)
    have e4 := kidF_inj k k' hl4 hf4
    have er := kidF_inj r r' (by simpa using hl) (fun i hi => by have := h (i + 1) (by simpa using hi); simpa [kidF] using this)
    simp at e1 e3
    rw [e1, e2, e3, e4, er]
  | [], _ :: _, hl, _ => by simp at hl
  | _ :: _, [], hl, _ => by simp at hl
theorem kidsD_inj (x y : It) (h : DE (kidsD x) (kidsD y)) : x.kids = y.kids := by
  obtain ⟨_, hl, hf⟩ := de_sl h
  exact kidF_inj x.kids y.kids hl hf

theorem itemsD_inj {l l' : List It} (h : DE (itemsD l) (itemsD l')) : l = l' := by
  have h1 : DE (kidsD (.mk 0 [] false l)) (kidsD (.mk 0 [] false l')) := (kidsD_de (.mk 0 [] false l)).trans (h.trans (itemsD_de (.mk 0 [] false l')))
  exact kidsD_inj _ _ h1

/-- data that is a list of statements, of words -/
noncomputable def okI (x : D) : Bool := @decide (∃ l, DE x (itemsD l)) (Classical.propDecidable _)
noncomputable def theI (x : D) : List It := @dite _ (∃ l, DE x (itemsD l)) (Classical.propDecidable _) (fun h => Classical.choose h) (fun _ => [])
noncomputable def okW (x : D) : Bool := @decide (∃ l, DE x (wordsD l)) (Classical.propDecidable _)
noncomputable def theW (x : D) : List Wd := @dite _ (∃ l, DE x (wordsD l)) (Classical.propDecidable _) (fun h => Classical.choose h) (fun _ => [])

theorem okI_iff {x : D} : okI x = true ↔ ∃ l, DE x (itemsD l) := by unfold okI; simp
theorem theI_de {x : D} (h : okI x = true) : DE x (itemsD (theI x)) := by
  have h' := okI_iff.1 h
  unfold theI
  rw [dif_pos h']
  exact Classical.choose_spec h'
theorem okW_iff {x : D} : okW x = true ↔ ∃ l, DE x (wordsD l) := by unfold okW; simp
theorem theW_de {x : D} (h : okW x = true) : DE x (wordsD (theW x)) := by
  have h' := okW_iff.1 h
  unfold theW
  rw [dif_pos h']
  exact Classical.choose_spec h'

theorem theI_of {x : D} {l : List It} (h1 : DE x (itemsD l)) (h2 : DE (itemsD l) x) : okI x = true ∧ theI x = l := by
  have h := okI_iff.2 ⟨l, h1⟩
  exact ⟨h, (itemsD_inj (h2.trans (theI_de h))).symm⟩
theorem theW_of {x : D} {l : List Wd} (h1 : DE x (wordsD l)) (h2 : DE (wordsD l) x) : okW x = true ∧ theW x = l := by
  have h := okW_iff.2 ⟨l, h1⟩
  exact ⟨h, (wordsD_inj (h2.trans (theW_de h))).symm⟩
theorem okI_items (l : List It) : okI (itemsD l) = true := (theI_of (.refl _) (.refl _)).1
theorem theI_items (l : List It) : theI (itemsD l) = l := (theI_of (.refl _) (.refl _)).2
theorem okI_kF (k : List It) : okI (.sl 4 k.length (kidF k)) = true := (theI_of (kidsD_de (.mk 0 [] false k)) (itemsD_de (.mk 0 [] false k))).1
theorem theI_kF (k : List It) : theI (.sl 4 k.length (kidF k)) = k := (theI_of (kidsD_de (.mk 0 [] false k)) (itemsD_de (.mk 0 [] false k))).2
theorem okW_sl (l : List Wd) : okW (.sl 2 l.length fun i => wcells (l.getD i w0)) = true := (theW_of (.refl (wordsD l)) (.refl _)).1
theorem theW_sl (l : List Wd) : theW (.sl 2 l.length fun i => wcells (l.getD i w0)) = l := (theW_of (.refl (wordsD l)) (.refl _)).2
theorem okI_kids (x : It) : okI (kidsD x) = true := (theI_of (kidsD_de x) (itemsD_de x)).1
theorem theI_kids (x : It) : theI (kidsD x) = x.kids := (theI_of (kidsD_de x) (itemsD_de x)).2
theorem okW_words (l : List Wd) : okW (wordsD l) = true := (theW_of (.refl _) (.refl _)).1
theorem theW_words (l : List Wd) : theW (wordsD l) = l := (theW_of (.refl _) (.refl _)).2
theorem nil_items {l : List It} (h : DE (.v (.slice none 0 0)) (itemsD l)) : l = [] := by
  generalize hy : itemsD l = y at h
  cases h with
  | v => unfold itemsD at hy; cases hy
  | nil sz f =>
    unfold itemsD at hy
    injection hy with _ h2 _
    exact List.eq_nil_of_length_eq_zero h2
theorem de_nil : DE (.v (.slice none 0 0)) (itemsD []) := .nil _ _
theorem okI_nil : okI (.v (.slice none 0 0)) = true := okI_iff.2 ⟨[], de_nil⟩
theorem theI_nil : theI (.v (.slice none 0 0)) = [] := nil_items (theI_de okI_nil)
theorem nil_words {l : List Wd} (h : DE (.v (.slice none 0 0)) (wordsD l)) : l = [] := by
  generalize hy : wordsD l = y at h
  cases h with
  | v => unfold wordsD at hy; cases hy
  | nil sz f =>
    unfold wordsD at hy
    injection hy with _ h2 _
    exact List.eq_nil_of_length_eq_zero h2

/-- how deep statements are nested -/
def dep : List It → Nat
  | [] => 0
  | .mk _ _ _ k :: r => max (dep k + 1) (dep r)

theorem dep_get : ∀ (l : List It) (i : Nat), i < l.length → dep (l.getD i i0).kids < dep l
  | [], i, h => by simp at h
  | .mk a b c k :: r, 0, _ => by simp [dep, It.kids]; omega
  | .mk a b c k :: r, i + 1, h => by
    have := dep_get r i (by simpa using h)
    simp only [List.getD_cons_succ, dep]
    omega

/-- lengths that fit a machine's integer -/
def fits : List It → Bool
  | [] => true
  | .mk _ w _ k :: r => decide (k.length ≤ 9223372036854775807) && decide (w.length ≤ 9223372036854775807) && w.all (fun x => decide (x.text.size ≤ 9223372036854775807)) && fits k && fits r
def okL (l : List It) : Bool := decide (l.length ≤ 9223372036854775807) && fits l
def okWs (w : List Wd) : Bool := decide (w.length ≤ 9223372036854775807) && w.all fun x => decide (x.text.size ≤ 9223372036854775807)

theorem fits_get : ∀ (l : List It) (i : Nat), i < l.length → fits l = true → okL (l.getD i i0).kids = true ∧ okWs (l.getD i i0).words = true
  | [], i, h, _ => by simp at h
  | .mk a b c k :: r, 0, _, hf => by
    simp only [fits, Bool.and_eq_true] at hf
    obtain ⟨⟨⟨⟨h1, h2⟩, h3⟩, h4⟩, h5⟩ := hf
    simp only [List.getD_cons_zero, It.kids, It.words, okL, okWs, h1, h2, h3, h4, Bool.and_self, and_self]
  | .mk a b c k :: r, i + 1, h, hf => by
    simp only [fits, Bool.and_eq_true] at hf
    simp only [List.getD_cons_succ]
    exact fits_get r i (by simpa using h) hf.2
theorem okL_len {l : List It} (h : okL l = true) : l.length ≤ 9223372036854775807 := by unfold okL at h; simp at h; exact h.1
theorem okL_fits {l : List It} (h : okL l = true) : fits l = true := by unfold okL at h; simp at h; exact h.2
theorem okL_get {l : List It} (h : okL l = true) {i : Nat} (hi : i < l.length) : okL (l.getD i i0).kids = true ∧ okWs (l.getD i i0).words = true := fits_get l i hi (okL_fits h)
theorem okWs_len {l : List Wd} (h : okWs l = true) : l.length ≤ 9223372036854775807 := by unfold okWs at h; simp at h; exact h.1

/-- a function of one list of statements, under a condition -/
def ans1 (c : D → Bool) (g : D → AV) : (R : Type) → List AV → Hp → (AV → Hp → Option (T R)) → Option (T R) := fun _ args H k => match H, args with
  | [], [.c (.d x)] => bif c x then k (g x) [] else none
  | _, _ => none
/-- of two -/
def ans2 (c : D → D → Bool) (g : D → D → AV) : (R : Type) → List AV → Hp → (AV → Hp → Option (T R)) → Option (T R) := fun _ args H k => match H, args with
  | [], [.c (.d x), .c (.d y)] => bif c x y then k (g x y) [] else none
  | _, _ => none
/-- of two, with a function -/
def ans2f (f : FuncId) (c : D → D → Bool) (g : D → D → AV) : (R : Type) → List AV → Hp → (AV → Hp → Option (T R)) → Option (T R) := fun _ args H k => match H, args with
  | [], [.c (.d x), .c (.d y), .c (.d (.v (.func (.func h) ⟨[]⟩ ⟨[]⟩)))] => bif Nat.beq h f then (bif c x y then k (g x y) [] else none) else none
  | _, _ => none

theorem ans1_ok {P : Program} {f0 : FuncId} {c : D → Bool} {g : D → AV} (hc : ∀ x, c x = true → CX P f0 [.c (.d x)] [] (g x) []) :
    ∀ (R : Type) args H (k : AV → Hp → Option (T R)) t, ans1 c g R args H k = some t → ∃ x H', k x H' = some t ∧ CX P f0 args H x H' := fun R args H k t h => by
  unfold ans1 at h
  split at h
  · rename_i x
    cases hx : c x with
    | true => rw [hx] at h; exact ⟨_, _, h, hc x hx⟩
    | false => rw [hx] at h; cases h
  · simp at h
theorem ans2_ok {P : Program} {f0 : FuncId} {c : D → D → Bool} {g : D → D → AV} (hc : ∀ x y, c x y = true → CX P f0 [.c (.d x), .c (.d y)] [] (g x y) []) :
    ∀ (R : Type) args H (k : AV → Hp → Option (T R)) t, ans2 c g R args H k = some t → ∃ x H', k x H' = some t ∧ CX P f0 args H x H' := fun R args H k t h => by
  unfold ans2 at h
  split at h
  · rename_i x y
    cases hx : c x y with
    | true => rw [hx] at h; exact ⟨_, _, h, hc x y hx⟩
    | false => rw [hx] at h; cases h
  · simp at h
theorem ans2f_ok {P : Program} {f0 f : FuncId} {c : D → D → Bool} {g : D → D → AV} (hc : ∀ x y, c x y = true → CX P f0 [.c (.d x), .c (.d y), .c (.d (.v (.func (.func f) #[] #[])))] [] (g x y) []) :
    ∀ (R : Type) args H (k : AV → Hp → Option (T R)) t, ans2f f c g R args H k = some t → ∃ x H', k x H' = some t ∧ CX P f0 args H x H' := fun R args H k t h => by
  unfold ans2f at h
  split at h
  · rename_i x y fh
    cases hf : Nat.beq fh f with
    | false => rw [hf] at h; cases h
    | true =>
      rw [hf] at h
      have := Nat.eq_of_beq_eq_true hf
      subst this
      simp only [cond_true] at h
      cases hx : c x y with
      | true => rw [hx] at h; exact ⟨_, _, h, hc x y hx⟩
      | false => rw [hx] at h; cases h
  · simp at h

theorem ale_d {x y : D} (h : DE x y) : Ale (.c (.d x)) (.c (.d y)) := h
theorem asle1 {x y : D} (h : DE x y) : Asle [.c (.d x)] [.c (.d y)] := .cons (ale_d h) .nil
theorem asle2 {x y x' y' : D} (h : DE x y) (h' : DE x' y') : Asle [.c (.d x), .c (.d x')] [.c (.d y), .c (.d y')] := .cons (ale_d h) (.cons (ale_d h') .nil)
abbrev aI (l : List It) : AV := .c (.d (itemsD l))
abbrev aW (l : List Wd) : AV := .c (.d (wordsD l))
abbrev aT (x : It) : AV := .agg ((icells x).map .d)
end Go.Eb
