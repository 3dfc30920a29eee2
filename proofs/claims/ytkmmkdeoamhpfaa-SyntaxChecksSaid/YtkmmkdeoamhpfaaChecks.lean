/-
  SyntaxChecks returns true for every two lists of statements. No condition.
-/
import Derived.Test.YtkmmkdeoamhpfaaCa
import Derived.Test.YtkmmkdeoamhpfaaRows
namespace Go.Proofs.Ytkmmkdeoamhpfaa.checks
open Go.ChangeShapes Go.WideShapes Go.ChangeAt Go.RowKit
open Go.Eb Go.Proofs.Ytkmmkdeoamhpfaa.wd

noncomputable def okA (x : D) : Bool := okI x && okL (theI x)
noncomputable def K0 : KP := ⟨fun x n => ck.deepB (theI x) n, fun x => ck.chk (theI x), fun x => fo.fmtK (theI x), fun x => ct.cnt (theI x), fun x y => ct.same (theI x) (theI y), okA, fun x y => okA x && okA y, fun x _ => okA x⟩

theorem one {f : FuncId} {g : List It → AV} (hc : ∀ l, okL l = true → CX Try.prog f [aI l] [] (g l) []) : ∀ x, okA x = true → CX Try.prog f [.c (.d x)] [] (g (theI x)) [] := fun x hx => by
  unfold okA at hx
  simp only [Bool.and_eq_true] at hx
  exact (hc (theI x) hx.2).ge (asle1 (theI_de hx.1)) (.refl _)
theorem two {f : FuncId} {g : List It → List It → AV} (hc : ∀ l l', okL l = true → okL l' = true → CX Try.prog f [aI l, aI l'] [] (g l l') []) : ∀ x y, (okA x && okA y) = true → CX Try.prog f [.c (.d x), .c (.d y)] [] (g (theI x) (theI y)) [] := fun x y hx => by
  unfold okA at hx
  simp only [Bool.and_eq_true] at hx
  exact (hc (theI x) (theI y) hx.1.2 hx.2.2).ge (asle2 (theI_de hx.1.1) (theI_de hx.2.1)) (.refl _)

theorem ok6 : OrcOk Try.prog (o6 K0) := by
  refine Orc.cons_ok (Orc.cons_ok (Orc.cons_ok (Orc.cons_ok (Orc.cons_ok (Orc.cons_ok (Orc.cons_ok (Orc.cons_ok (Orc.cons_ok (Orc.cons_ok (Orc.nil_ok _)
    (ans2_ok (two fun l l' h h' => ct.c21 (dep l + 1) l l' (by omega) h h'))) (ans2_ok (two fun l l' h h' => ct.c10 (dep l + 1) l l' (by omega) h h')))
    (ans1_ok (one fun l h => ct.c20 (dep l + 1) l (by omega) h))) (ans1_ok (one fun l h => ct.c9 (dep l + 1) l (by omega) h)))
    (ans1_ok (one fo.c19))) (ans1_ok (one fo.c15))) (ans1_ok (one ck.c18))) (ans1_ok (one ck.c16))) ?_) (ansP_ok dec0_ok c7)
  intro R args H k t h
  split at h
  · rename_i x n
    cases hx : okA x with
    | false => rw [show K0.okd x n = okA x from rfl, hx] at h; cases h
    | true =>
      rw [show K0.okd x n = okA x from rfl, hx] at h
      unfold okA at hx
      simp only [Bool.and_eq_true] at hx
      exact ⟨_, _, h, (ck.c17 (dep (theI x) + 1) (theI x) n (by omega) hx.2).ge (.cons (ale_d (theI_de hx.1)) (.refl _)) (.refl _)⟩
  · simp at h

theorem eqW_refl : ∀ l : List Wd, ct.eqW l l = true
  | [] => by simp [ct.eqW]
  | w :: r => by simp [ct.eqW, ct.eqW1, eqW_refl r]
theorem same_refl (N : Nat) : ∀ l : List It, dep l < N → ct.same l l = true := by
  induction N with
  | zero => intro l h; omega
  | succ N ih =>
    intro l
    induction l with
    | nil => intro _; simp [ct.same]
    | cons x r ihr =>
      intro h
      rw [fo.dep_cons] at h
      rw [ct.same_cons, ihr (by omega)]
      unfold ct.same1
      rw [ih x.kids (by omega), eqW_refl]
      simp

theorem c6 (a b : List It) (ha : okL a = true) (hb : okL b = true) : CR Try.prog 6 [aI a, aI b] [] (vB true) [] := by
  refine cr_of ok6 Try.func6 b6 rfl ((ev6 K0 a b).trans ?_)
  have ea : okA (itemsD a) = true := by unfold okA; rw [okI_items, theI_items, ha]; rfl
  have eb : okA (itemsD b) = true := by unfold okA; rw [okI_items, theI_items, hb]; rfl
  have k1 : ∀ x n, K0.okd x n = okA x := fun _ _ => rfl
  have k2 : ∀ x, K0.ok x = okA x := fun _ => rfl
  have k3 : ∀ x y, K0.ok2 x y = (okA x && okA y) := fun _ _ => rfl
  have k4 : K0.sm (itemsD a) (itemsD a) = true := by show ct.same (theI (itemsD a)) (theI (itemsD a)) = true; rw [theI_items]; exact same_refl (dep a + 1) a (by omega)
  simp only [k1, k2, k3, ea, eb, k4, Bool.and_self, cond_true, beq_self_eq_true]
  cases K0.dp (itemsD a) 12
  · cases K0.dp (itemsD b) 12 <;> rfl
  · rfl

/-! arguments -/
theorem list_of {α : Type} (d : α) (R : Nat → α → Prop) : ∀ (n : Nat), (∀ i, i < n → ∃ x, R i x) → ∃ l : List α, l.length = n ∧ ∀ i, i < n → R i (l.getD i d)
  | 0, _ => ⟨[], rfl, fun i h => by omega⟩
  | n + 1, h => by
    obtain ⟨l, hl, hr⟩ := list_of d R n (fun i hi => h i (by omega))
    obtain ⟨x, hx⟩ := h n (by omega)
    refine ⟨l ++ [x], by simp [hl], fun i hi => ?_⟩
    by_cases e : i < n
    · have := hr i e
      rwa [List.getD_eq_getElem?_getD, List.getElem?_append_left (by omega), ← List.getD_eq_getElem?_getD]
    · have : i = n := by omega
      subst this
      rw [List.getD_eq_getElem?_getD, List.getElem?_append_right (by omega), hl]
      simpa using hx
theorem fits_of : ∀ l : List It, (∀ i, i < l.length → okL (l.getD i i0).kids = true ∧ okWs (l.getD i i0).words = true) → fits l = true
  | [], _ => by simp only [fits]
  | .mk a w b k :: r, h => by
    have h0 := h 0 (by simp)
    have hr := fits_of r (fun i hi => by have := h (i + 1) (by simpa using hi); simpa using this)
    simp only [List.getD_cons_zero, It.kids, It.words, okL, okWs, Bool.and_eq_true] at h0
    simp only [fits, h0.1.1, h0.1.2, h0.2.1, h0.2.2, hr, Bool.and_self]

def Mot (t : TypeId) (ds : List D) : Prop :=
  (t = 45 → ∃ w : Wd, ds = wcells w ∧ w.text.size ≤ 9223372036854775807) ∧
  (t = 36 → ∃ (l : List Wd) (d : D), ds = [d] ∧ DE d (wordsD l) ∧ okWs l = true) ∧
  (t = 38 → ∃ x : It, DEs ds (icells x) ∧ okL x.kids = true ∧ okWs x.words = true) ∧
  (t = 23 → ∃ (l : List It) (d : D), ds = [d] ∧ DE d (itemsD l) ∧ okL l = true)

theorem cells45 : Try.prog.cellsOf 45 = 2 := by kernel_rfl
theorem cells38 : Try.prog.cellsOf 38 = 4 := by kernel_rfl
theorem maxLen_le : maxLen ≤ 9223372036854775807 := by unfold maxLen; omega

theorem mot_no {t : TypeId} {ds : List D} (h45 : t ≠ 45) (h36 : t ≠ 36) (h38 : t ≠ 38) (h23 : t ≠ 23) : Mot t ds :=
  ⟨fun e => absurd e h45, fun e => absurd e h36, fun e => absurd e h38, fun e => absurd e h23⟩

theorem shp_open {t : TypeId} {ds : List D} (h : Shp Try.prog t ds) : Mot t ds := by
  have hM := maxLen_le
  induction h with
  | bool hu b => refine mot_no ?_ ?_ ?_ ?_ <;> (rintro rfl; first | (rw [Try.underlying45] at hu; cases hu; done) | (rw [Try.underlying36] at hu; cases hu; done) | (rw [Try.underlying38] at hu; cases hu; done) | (rw [Try.underlying23] at hu; cases hu; done))
  | int hu n hw => refine mot_no ?_ ?_ ?_ ?_ <;> (rintro rfl; first | (rw [Try.underlying45] at hu; cases hu; done) | (rw [Try.underlying36] at hu; cases hu; done) | (rw [Try.underlying38] at hu; cases hu; done) | (rw [Try.underlying23] at hu; cases hu; done))
  | str hu s hs => refine mot_no ?_ ?_ ?_ ?_ <;> (rintro rfl; first | (rw [Try.underlying45] at hu; cases hu; done) | (rw [Try.underlying36] at hu; cases hu; done) | (rw [Try.underlying38] at hu; cases hu; done) | (rw [Try.underlying23] at hu; cases hu; done))
  | array hu ps hl hp => refine mot_no ?_ ?_ ?_ ?_ <;> (rintro rfl; first | (rw [Try.underlying45] at hu; cases hu; done) | (rw [Try.underlying36] at hu; cases hu; done) | (rw [Try.underlying38] at hu; cases hu; done) | (rw [Try.underlying23] at hu; cases hu; done))
  | sl hu n f hn hf ih =>
    refine ⟨?_, ?_, ?_, ?_⟩
    · rintro rfl; rw [Try.underlying45] at hu; cases hu
    · rintro rfl
      rw [Try.underlying36] at hu
      simp only [Option.some.injEq, TypeDesc.slice.injEq] at hu
      subst hu
      obtain ⟨l, hl, hr⟩ := list_of w0 (fun i w => f i = wcells w ∧ w.text.size ≤ 9223372036854775807) n (fun i hi => (ih i hi).1 rfl)
      subst hl
      refine ⟨l, _, rfl, ?_, ?_⟩
      · rw [cells45]
        exact .sl_eq fun i hi => (hr i hi).1
      · unfold okWs
        rw [decide_eq_true (by omega), Bool.true_and, List.all_eq_true]
        intro w hw
        obtain ⟨i, hi, he⟩ := List.getElem_of_mem hw
        have := (hr i hi).2
        rw [List.getD_eq_getElem?_getD, List.getElem?_eq_getElem hi, he] at this
        exact decide_eq_true this
    · rintro rfl; rw [Try.underlying38] at hu; cases hu
    · rintro rfl
      rw [Try.underlying23] at hu
      simp only [Option.some.injEq, TypeDesc.slice.injEq] at hu
      subst hu
      obtain ⟨l, hl, hr⟩ := list_of i0 (fun i x => DEs (f i) (icells x) ∧ okL x.kids = true ∧ okWs x.words = true) n (fun i hi => (ih i hi).2.2.1 rfl)
      subst hl
      refine ⟨l, _, rfl, ?_, ?_⟩
      · rw [cells38]
        exact .sls fun i hi => (hr i hi).1
      · unfold okL
        rw [decide_eq_true (by omega), fits_of l fun i hi => (hr i hi).2]
        rfl
  | struct hu ps hl hp ih =>
    refine ⟨?_, ?_, ?_, ?_⟩
    · rintro rfl
      rw [Try.underlying45] at hu
      simp only [Option.some.injEq, TypeDesc.struct.injEq] at hu
      subst hu
      obtain ⟨p0, p1, rfl⟩ : ∃ p0 p1, ps = [p0, p1] := by
        match ps, hl with
        | [p0, p1], _ => exact ⟨p0, p1, rfl⟩
      obtain ⟨s, rfl, hs⟩ := (hp 0 _ p0 rfl rfl).str_inv Try.underlying9
      obtain ⟨q, rfl⟩ := (hp 1 _ p1 rfl rfl).bool_inv Try.underlying4
      exact ⟨⟨s, q⟩, rfl, by show s.size ≤ _; omega⟩
    · rintro rfl; rw [Try.underlying36] at hu; cases hu
    · rintro rfl
      rw [Try.underlying38] at hu
      simp only [Option.some.injEq, TypeDesc.struct.injEq] at hu
      subst hu
      obtain ⟨p0, p1, p2, p3, rfl⟩ : ∃ p0 p1 p2 p3, ps = [p0, p1, p2, p3] := by
        match ps, hl with
        | [p0, p1, p2, p3], _ => exact ⟨p0, p1, p2, p3, rfl⟩
      obtain ⟨n, rfl, _⟩ := (hp 0 _ p0 rfl rfl).int_inv Try.underlying3
      obtain ⟨w, d1, rfl, hd1, hw⟩ := (ih 1 _ p1 rfl rfl).2.1 rfl
      obtain ⟨q, rfl⟩ := (hp 2 _ p2 rfl rfl).bool_inv Try.underlying4
      obtain ⟨l, d3, rfl, hd3, hL⟩ := (ih 3 _ p3 rfl rfl).2.2.2 rfl
      exact ⟨.mk n w q l, .cons (.refl _) (.cons hd1 (.cons (.refl _) (.cons (hd3.trans (itemsD_de (.mk n w q l))) .nil))), hL, hw⟩
    · rintro rfl; rw [Try.underlying23] at hu; cases hu

theorem own : ownKnob Try.prog.godebug = none := by kernel_rfl
theorem laidOut : laidOutB Try.prog = true := by kernel_rfl
theorem okS : [23, 38, 36, 45, 3, 4, 9].all (okT Try.prog [23, 38, 36, 45, 3, 4, 9]) = true := by kernel_rfl

set_option maxRecDepth 100000 in
theorem lifted (os : Os) (started : os.Started) (H : Type) (enc : TypeId × Value → H) :
    ReturnsInHanded {} Try.checked os 6 .any (Rows.syntaxChecksSpec.pre6 enc Try.prog Try.f6 Rows.syntaxChecksRow.domain false) (Rows.syntaxChecksSpec.post enc Try.prog Try.f6 false true false false) := by
  refine returnsInHanded_of_change (C := Try.checked) own started (by kernel_rfl) Try.func6
    (ChangeSpec.witness6 (enc := enc) (C := Try.checked) false ⟨#[], #[.slice none 0 0, .slice none 0 0], []⟩ 8 (by kernel_rfl) (by kernel_rfl) (by kernel_rfl) (by kernel_rfl)) ?_
  intro W base args ds gs before hval hW hcnd _
  have hW' := hW
  obtain ⟨p, q, hA0, hV, rfl, hfz, hnd⟩ := hW
  have hA : DataW.TrodAll enc Try.prog W 0 (fun _ => true) true Try.f6.params.toList args.toList ds p := hA0
  rw [Try.params6] at hA hval
  have hA1 := hA
  obtain ⟨v0, vs0, d0, ds0, p0, q0, hargs, rfl, rfl, h0, r0⟩ := trodAll_cons hA
  obtain ⟨v1, vs1, d1, ds1, p1, q1, hargs1, rfl, rfl, h1, r1⟩ := trodAll_cons r0
  obtain ⟨rfl, rfl, rfl⟩ := trodAll_nil r1
  obtain rfl : args = #[v0, v1] := by cases args; simp_all
  obtain ⟨rfl, rfl⟩ := trodVars_none hV
  have f0 : aggT Try.prog 23 = some false := by simp [aggT, Try.underlying23]
  obtain ⟨e0, a0, hr0, hs0, hk0⟩ := arg_open (β := fun _ => .free) okS (by kernel_rfl) (hval 0 23 v0 rfl rfl) h0
  simp only [f0, Option.some.injEq, Bool.false_eq_true, false_and, false_or, true_and] at hk0
  obtain ⟨x, rfl, rfl⟩ := hk0
  obtain ⟨e1, a1, hr1, hs1, hk1⟩ := arg_open (β := fun _ => .free) okS (by kernel_rfl) (hval 1 23 v1 rfl rfl) h1
  simp only [f0, Option.some.injEq, Bool.false_eq_true, false_and, false_or, true_and] at hk1
  obtain ⟨y, rfl, rfl⟩ := hk1
  obtain ⟨l, x', hx, hl, hL⟩ := (shp_open hs0).2.2.2 rfl
  obtain ⟨l', y', hy, hl', hL'⟩ := (shp_open hs1).2.2.2 rfl
  obtain rfl : x = x' := by simpa using hx
  obtain rfl : y = y' := by simpa using hy
  have hcalls := calls_of_cr (w := W) (vs := #[v0, v1]) rfl ((c6 l l' hL hL').ge (asle2 hl hl') (.refl _)) ⟨rfl, fun i x v hx hv => by
    match i, hx, hv with
    | 0, hx, hv => simp at hx hv; subst hx hv; exact hr0
    | 1, hx, hv => simp at hx hv; subst hx hv; exact hr1
    | i + 2, hx, hv => simp at hx⟩
  refine hcalls.mono fun e W' ⟨he, bel⟩ => ?_
  subst he
  exact ⟨_, rfl, _, _, _, [], _, [], hW', trodAll_mk1 (shut_bool Try.underlying4 _), trodAll_stays laidOut bel (by
    intro t ht
    have : t = 23 := by simpa using ht
    subst this
    exact ⟨by kernel_rfl, of_decide_eq_true (by kernel_rfl)⟩) hA1, rfl, bel.frame _, fun h => by cases h⟩

theorem proved : Rows.SyntaxChecksSaid :=
  OpenClaim.holds_of_wide 6 Try.f6 rfl rfl rfl rfl rfl rfl rfl ⟨rfl, rfl, rfl, rfl, rfl⟩ rfl rfl rfl rfl rfl (by kernel_rfl) Try.func6 (by kernel_rfl)
    (of_decide_eq_true (by kernel_rfl)) (by unfold Func.isWrapper; first | (rw [if_pos (by decide +kernel)]; kernel_rfl) | (rw [if_neg (by decide +kernel)]; exact ⟨rfl, rfl⟩))
    (fun os started H enc _ => lifted os started H enc)
end Go.Proofs.Ytkmmkdeoamhpfaa.checks
