/-
  The fundamentals of three windows, by the program and by the reference: the contracts. No condition.
-/
import Derived.Test.YtihcidopklhikaaGreatDoorZLd
import Derived.Test.YtihcidopklhikaaGreatDoorPe
import Derived.Test.YtihcidopklhikaaGreatDoorPf
namespace Go.Proofs.YtihcidopklhikaaGreatDoor.ph
open Go.RowKit Go.Eb
set_option maxRecDepth 100000

def gl (l : List Int) (i : Nat) : Int := l.getD i 0
def lst (X : Nat → Int) (n : Nat) : List Int := (List.range 12).map fun i => X (12 * n + i)
theorem lst_len (X : Nat → Int) (n : Nat) : (lst X n).length = 12 := by simp [lst]
theorem lst_at (X : Nat → Int) (n : Nat) {i : Nat} (h : i < 12) : gl (lst X n) i = X (12 * n + i) := by simp [gl, lst, h]
def intsD (l : List Int) : D := .sl 1 l.length fun i => [iD (l.getD i 0)]
def encL (l : List Int) : List AV := [.c (.d (intsD l)), vI 1]
theorem iD_inj {a b : Int} (h : DE (iD a) (iD b)) : a = b := by have := dv_inj h; simpa using this
theorem intsD_inj (a b : List Int) (h : DE (intsD a) (intsD b)) : a = b := listD_inj (c := fun n => [iD n]) (d0 := 0) (sz := 1) (fun x y hx => iD_inj (hx.2 0 (iD x) (iD y) rfl rfl)) a b h
theorem encL_inj : InjT encL := fun a b h => intsD_inj _ _ (ale_c (asle_cons h).1)
def cL (l : List Int) : Bool := decide (l.length = 12)
theorem intsD_win {l : List Int} (h : l.length = 12) : intsD l = winD (gl l) := by unfold intsD; rw [h]; rfl
noncomputable def okW : List AV → Bool := okG encL cL
noncomputable def hW (x : List AV) : I4 := h12 (gl (theT encL x))
noncomputable def eW (x : List AV) : Int := e12 (gl (theT encL x))
noncomputable abbrev oPW (f : FuncId) : Orc := oPh f okW (fun x => (hW x).1) (fun x => (hW x).2.1) (fun x => (hW x).2.2.1) (fun x => (hW x).2.2.2) eW
theorem oPW_s {f : FuncId} (h : ∀ x, CX Tryz.prog f [.c (.d (winD x)), vI 1] [] (cyO (h12 x) (e12 x)) []) : OrcS Tryz.prog (oPW f) :=
  .cons (.t' (enc := encL) (c := cL) (r := fun l => cyO (h12 (gl l)) (e12 (gl l))) fun l hl => by
    unfold cL at hl
    unfold encL
    rw [intsD_win (of_decide_eq_true hl)]
    exact h (gl l)) .nil
theorem wA_de (X : Nat → Int) (n : Nat) : DE (.sl 1 12 (chunk ((List.range 12).map fun i => iD (X (12 * n + i))) 1)) (intsD (lst X n)) ∧ DE (intsD (lst X n)) (.sl 1 12 (chunk ((List.range 12).map fun i => iD (X (12 * n + i))) 1)) := by
  have e : intsD (lst X n) = .sl 1 12 fun i => [iD ((lst X n).getD i 0)] := by unfold intsD; rw [lst_len]
  rw [e]
  have f : ∀ i, i < 12 → chunk ((List.range 12).map fun i => iD (X (12 * n + i))) 1 i = [iD ((lst X n).getD i 0)] := fun i hi => by
    match i, hi with
    | 0, _ | 1, _ | 2, _ | 3, _ | 4, _ | 5, _ | 6, _ | 7, _ | 8, _ | 9, _ | 10, _ | 11, _ => rfl
  exact ⟨.sl_eq f, .sl_eq fun i hi => (f i hi).symm⟩
theorem wA_a1 (X : Nat → Int) (n : Nat) : Asle (wA X n) (encL (lst X n)) := .cons (wA_de X n).1 (.cons (.refl _) .nil)
theorem wA_a2 (X : Nat → Int) (n : Nat) : Asle (encL (lst X n)) (wA X n) := .cons (wA_de X n).2 (.cons (.refl _) .nil)
theorem okW_at (X : Nat → Int) (n : Nat) : okW (wA X n) = true := okG_of encL_inj (wA_a1 X n) (wA_a2 X n) (by unfold cL; rw [lst_len]; rfl)
def W (X : Nat → Int) (n : Nat) : Nat → Int := gl (lst X n)
theorem hW_at (X : Nat → Int) (n : Nat) : hW (wA X n) = h12 (W X n) := by unfold hW; rw [theT_of encL_inj (wA_a1 X n) (wA_a2 X n)]; rfl
theorem eW_at (X : Nat → Int) (n : Nat) : eW (wA X n) = e12 (W X n) := by unfold eW; rw [theT_of encL_inj (wA_a1 X n) (wA_a2 X n)]; rfl
/-- are all samples in range? -/
def ok36 (X : Nat → Int) : Bool := (List.range 36).all fun i => !(decide (X i < -16383) || decide (X i > 16383))
theorem ok36_eq (X : Nat → Int) : ok36 X = (winOk (W X 0) && (winOk (W X 1) && winOk (W X 2))) := by
  rw [Bool.eq_iff_iff]
  simp only [Bool.and_eq_true, winOk_iff]
  unfold ok36
  rw [List.all_eq_true]
  have key : ∀ n i, i < 12 → W X n i = X (12 * n + i) := fun n i hi => lst_at X n hi
  constructor
  · intro h
    have h' : ∀ i, i < 36 → -16383 ≤ X i ∧ X i ≤ 16383 := fun i hi => by
      have := h i (by simpa using hi)
      simp at this
      omega
    exact ⟨fun i hi => by rw [key 0 i hi]; exact h' _ (by omega), fun i hi => by rw [key 1 i hi]; exact h' _ (by omega), fun i hi => by rw [key 2 i hi]; exact h' _ (by omega)⟩
  · rintro ⟨h0, h1, h2⟩ i hi
    have hi' : i < 36 := by simpa using hi
    have : -16383 ≤ X i ∧ X i ≤ 16383 := by
      by_cases a : i < 12
      · have := h0 i a; rw [key 0 i a] at this; simpa using this
      · by_cases b : i < 24
        · have := h1 (i - 12) (by omega); rw [key 1 _ (by omega)] at this; rwa [show 12 * 1 + (i - 12) = i by omega] at this
        · have := h2 (i - 24) (by omega); rw [key 2 _ (by omega)] at this; rwa [show 12 * 2 + (i - 24) = i by omega] at this
    simp
    omega
/-- the answer -/
def phP (X : Nat → Int) (n : Nat) : I4 := bif ok36 X then hs (W X n) 12 else (0, 0, 0, 0)
def phE (X : Nat → Int) : Int := bif ok36 X then 0 else 2
def cell4 (a : I4) : List C := [.d (iD a.1), .d (iD a.2.1), .d (iD a.2.2.1), .d (iD a.2.2.2)]
def phO (X : Nat → Int) : AV := .tup [(true, cell4 (phP X 0) ++ (cell4 (phP X 1) ++ cell4 (phP X 2))), (false, [.d (iD (phE X))])]
theorem cPh (X : Nat → Int) : CX Tryz.prog 5 [ints X 36] [] (phO X) [] := by
  refine cx_of (oPW_s cHa).ok Tryz.func5 (by kernel_rfl) rfl ((evPh _ _ _ _ _ _ X).trans ?_)
  simp only [okW_at, hW_at, eW_at, cond_true]
  unfold phO phP phE
  rw [ok36_eq]
  unfold e12 h12
  cases winOk (W X 0) with
  | false => rfl
  | true =>
    cases winOk (W X 1) with
    | false => rfl
    | true =>
      cases winOk (W X 2) with
      | false => rfl
      | true => rfl
def prO (X : Nat → Int) : AV := .agg (cell4 (h12 (W X 0)) ++ (cell4 (h12 (W X 1)) ++ cell4 (h12 (W X 2))))
theorem cPr (X : Nat → Int) : CX Tryz.prog 7 [ints X 36] [] (prO X) [] := by
  refine cx_of (oPW_s cHr).ok Tryz.func7 (by kernel_rfl) rfl ((evPr _ _ _ _ _ _ X).trans ?_)
  simp only [okW_at, hW_at, cond_true]
  rfl
end Go.Proofs.YtihcidopklhikaaGreatDoor.ph
