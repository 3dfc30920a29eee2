/-
  SyntaxConcatenates returns true for every two texts. No condition.
-/
import Derived.Test.YtkmmkdeoamhpfaaZCc
import Derived.Test.YtkmmkdeoamhpfaaCd
import Derived.Test.YtkmmkdeoamhpfaaRows
namespace Go.Proofs.Ytkmmkdeoamhpfaa.conc
open Go.ChangeShapes Go.WideShapes Go.ChangeAt Go.RowKit
open Go.Eb Go.Proofs.Ytkmmkdeoamhpfaa.wd
open Go.Proofs.Ytkmmkdeoamhpfaa.ps (rP c8)

noncomputable def okA (x : D) : Bool := okI x && okL (theI x)
noncomputable def K0 : KP := ⟨parseP, fun x => ct.cnt (theI x), fun x y => ct.same (theI x) (theI y), okA, fun x y => okA x && okA y⟩

theorem one {f : FuncId} {g : List It → AV} (hc : ∀ l, okL l = true → CX Try.prog f [aI l] [] (g l) []) : ∀ x, okA x = true → CX Try.prog f [.c (.d x)] [] (g (theI x)) [] := fun x hx => by
  unfold okA at hx
  simp only [Bool.and_eq_true] at hx
  exact (hc (theI x) hx.2).ge (asle1 (theI_de hx.1)) (.refl _)

theorem ok3 : OrcOk Try.prog (o3 K0) := by
  refine Orc.cons_ok (Orc.cons_ok (Orc.cons_ok (Orc.cons_ok (Orc.nil_ok _) ?_) (ans1_ok (one fun l h => ct.c9 (dep l + 1) l (by omega) h))) (ansP_ok decS_ok c8)) (ansP_ok dec0_ok c7)
  intro R args H k t h
  split at h
  · rename_i x n m f
    cases hx : K0.ok2 x (.sl 4 n f) with
    | false => rw [hx] at h; cases h
    | true =>
      rw [hx] at h
      refine ⟨_, _, h, ?_⟩
      have hx : (okA x && okA (.sl 4 n f)) = true := hx
      unfold okA at hx
      simp only [Bool.and_eq_true] at hx
      have key := (ct.c10 (dep (theI x) + 1) (theI x) (theI (.sl 4 n f)) (by omega) hx.1.2 hx.2.2).ge (asle2 (theI_de hx.1.1) (theI_de hx.2.1)) (.refl _)
      have kr : CR Try.prog 10 [.c (.d x), .c (.d (.sl 4 n f))] [] (vB (ct.same (theI x) (theI (.sl 4 n f)))) [] := by
        unfold CX at key
        rw [Try.func10] at key
        simpa only [ct.b10, Option.isNone_some, Bool.false_eq_true, if_false] using key
      exact .of_cr Try.func10 ct.b10 (kr.lend rfl)
  · simp at h

theorem wrapN {n : Nat} (h : n ≤ 1000000) : IntKind.wrap IntKind.i64 (n : Int) = n := wrap_id (by omega) (by omega)
theorem cntA_eq : ∀ (l : List It) (n : Nat), n + cntN l ≤ 1000000 + l.length → l.length ≤ n → n ≤ 1000000 → ct.cntA l n = ((n + cntN l - l.length : Nat) : Int)
  | [], n, h, _, _ => by simp [ct.cntA, cntN]
  | .mk a w b k :: r, n, h, hl, hn => by
    simp only [cntN, List.length_cons] at h hl ⊢
    have h1 := len_cntN k
    have h2 := len_cntN r
    have hk := cntA_eq k k.length (by omega) (Nat.le_refl _) (by omega)
    simp only [ct.cntA, hk]
    have e : ((n : Int) + ((k.length + cntN k - k.length : Nat) : Int)) = ((n + cntN k : Nat) : Int) := by omega
    rw [e, wrapN (by omega), cntA_eq r (n + cntN k) (by omega) (by omega) (by omega)]
    congr 1
    omega
theorem cnt_eq {l : List It} (h : cntN l ≤ 600) : ct.cnt l = cntN l := by
  unfold ct.cnt
  have := len_cntN l
  rw [cntA_eq l l.length (by omega) (Nat.le_refl _) (by omega)]
  congr 1
  omega

theorem eqW_refl : ∀ l : List Wd, ct.eqW l l = true
  | [] => by simp [ct.eqW]
  | w :: r => by simp [ct.eqW, ct.eqW1, eqW_refl r]
theorem same_er : ∀ (l l' : List It), er l = er l' → ct.same l l' = true
  | [], [], _ => by simp [ct.same]
  | .mk a w b k :: r, .mk a' w' b' k' :: r', h => by
    simp only [er, List.cons.injEq, It.mk.injEq] at h
    obtain ⟨⟨_, rfl, rfl, h1⟩, h2⟩ := h
    simp only [ct.same, eqW_refl, same_er k k' h1, same_er r r' h2, beq_self_eq_true, Bool.and_self]
  | [], .mk _ _ _ _ :: _, h => by simp [er] at h
  | .mk _ _ _ _ :: _, [], h => by simp [er] at h

theorem app_at (a b : List It) (i : Nat) : appF (0 + a.length) (appF 0 (chunk [] (3 + 1)) fun i => icells (a.getD i i0)) (fun i => icells (b.getD i i0)) i = icells ((a ++ b).getD i i0) := by
  unfold appF
  rw [bltD, Nat.zero_add, bltD]
  by_cases h : i < a.length
  · simp only [h, decide_true, cond_true, Nat.not_lt_zero, decide_false, cond_false, Nat.sub_zero]
    congr 1
    simp [List.getD, List.getElem?_append, h]
  · simp only [h, decide_false, cond_false]
    congr 1
    simp [List.getD, List.getElem?_append, h]
theorem app_eq (a b : List It) : D.sl 4 (0 + a.length + b.length) (appF (0 + a.length) (appF 0 (chunk [] (3 + 1)) fun i => icells (a.getD i i0)) fun i => icells (b.getD i i0)) = itemsD (a ++ b) := by
  have e : 0 + a.length + b.length = (a ++ b).length := by simp
  unfold itemsD
  rw [e]
  congr 1
  funext i
  exact app_at a b i

theorem okA_items {l : List It} (h : okL l = true) : okA (itemsD l) = true := by unfold okA; rw [okI_items, theI_items, h]; rfl
theorem c3 (s t : ByteArray) : CR Try.prog 3 [vS s, vS t] [] (vB true) [] := by
  refine cr_of ok3 Try.func3 b3 rfl ((ev3 K0 s t).trans ?_)
  have k1 : ∀ x, K0.pa x = parseP x := fun _ => rfl
  have k2 : ∀ x, K0.ok x = okA x := fun _ => rfl
  have k3 : ∀ x y, K0.ok2 x y = (okA x && okA y) := fun _ _ => rfl
  have k4 : ∀ x, K0.cn x = ct.cnt (theI x) := fun _ => rfl
  have k5 : ∀ x y, K0.sm x y = ct.same (theI x) (theI y) := fun _ _ => rfl
  have oa := okA_items (parse_okL s)
  have ob := okA_items (parse_okL t)
  have ox := okA_items (parse_okL (s ++ ByteArray.mk #[10] ++ t))
  simp only [k1, k2, k3, k4, k5, oa, ob, ox, theI_items, cond_true]
  by_cases hea : (parseP s).2.2 = 0
  · by_cases heb : (parseP t).2.2 = 0
    · have ea : ((parseP s).2.2 != 0) = false := by rw [hea]; rfl
      have eb : ((parseP t).2.2 != 0) = false := by rw [heb]; rfl
      simp only [ea, eb, cond_false]
      have pa : parseP s = ((parseP s).1, (parseP s).2.1, 0) := by rw [← hea]
      have pb : parseP t = ((parseP t).1, (parseP t).2.1, 0) := by rw [← heb]
      have wa := parse_wf pa
      have wb := parse_wf pb
      by_cases hsz : s.size + t.size + 1 ≤ 12000
      · have w1 : IntKind.wrap IntKind.i64 ((s.size : Int) + (t.size : Int)) = ((s.size + t.size : Nat) : Int) := by rw [wrap_id (by omega) (by omega)]; omega
        have w2 : IntKind.wrap IntKind.i64 (((s.size + t.size : Nat) : Int) + 1) = ((s.size + t.size + 1 : Nat) : Int) := by rw [wrap_id (by omega) (by omega)]; omega
        have d1 : decide (((s.size + t.size + 1 : Nat) : Int) > 12000) = false := by simp; omega
        rw [w1, w2, d1, cnt_eq wa.2.1, cnt_eq wb.2.1]
        simp only [cond_false]
        have w3 : IntKind.wrap IntKind.i64 ((cntN (parseP s).1 : Int) + (cntN (parseP t).1 : Int)) = ((cntN (parseP s).1 + cntN (parseP t).1 : Nat) : Int) := by rw [wrap_id (by omega) (by omega)]; omega
        rw [w3]
        by_cases hc : cntN (parseP s).1 + cntN (parseP t).1 ≤ 600
        · have d2 : decide (((cntN (parseP s).1 + cntN (parseP t).1 : Nat) : Int) > 600) = false := by simp; omega
          have hz : (s ++ ByteArray.mk #[10]).size = s.size + 1 := by rw [ByteArray.size_append]; rfl
          have hz2 : (s ++ ByteArray.mk #[10] ++ t).size = s.size + 1 + t.size := by rw [ByteArray.size_append, hz]
          have hz1 : (ByteArray.mk #[10]).size = 1 := rfl
          have d3 : decide (s.size + (ByteArray.mk #[10]).size ≤ 9223372036854775807) = true := by rw [hz1]; simp; omega
          have d4 : decide ((s ++ ByteArray.mk #[10]).size + t.size ≤ 9223372036854775807) = true := by rw [hz]; simp; omega
          obtain ⟨x, k, hx, hex⟩ := parse_two (s := s) (t := t) (st := s ++ ByteArray.mk #[10] ++ t) (by simp [ByteArray.data_append]) (by omega) pa pb hc
          have l1 := len_cntN (parseP s).1
          have l2 := len_cntN (parseP t).1
          have d5 : (decide ((0 + (parseP s).1.length) * 64 ≤ 140737488355328) && decide (0 + (parseP s).1.length ≤ 9223372036854775807)) = true := by simp; omega
          have d6 : (decide ((0 + (parseP s).1.length + (parseP t).1.length) * 64 ≤ 140737488355328) && decide (0 + (parseP s).1.length + (parseP t).1.length ≤ 9223372036854775807)) = true := by simp; omega
          have hab : okL ((parseP s).1 ++ (parseP t).1) = true := okL_wf (by rw [wfL_app, wa.1, wb.1]; rfl) (by rw [cntN_app]; omega)
          have hD := app_eq (parseP s).1 (parseP t).1
          have d7 := okA_items hab
          have hsame : ct.same (parseP (s ++ ByteArray.mk #[10] ++ t)).1 ((parseP s).1 ++ (parseP t).1) = true := by rw [hx]; exact same_er _ _ hex
          have d8 : ((parseP (s ++ ByteArray.mk #[10] ++ t)).2.2 == 0) = true := by rw [hx]; rfl
          rw [hD]
          simp only [d2, d3, d4, d5, d6, d7, d8, theI_items, hsame, cond_true, cond_false, Bool.and_self]
        · have d2 : decide (((cntN (parseP s).1 + cntN (parseP t).1 : Nat) : Int) > 600) = true := by simp; omega
          simp only [d2, cond_true]
      · have d1 : decide (IntKind.wrap IntKind.i64 (IntKind.wrap IntKind.i64 ((s.size : Int) + (t.size : Int)) + 1) > 12000) = true := by
          have hs' : s.size ≤ 12000 := by
            rcases Nat.lt_or_ge 12000 s.size with h | h
            · exfalso; rw [show parseP s = ([], 0, 4) by unfold parseP; rw [decide_eq_true h]; rfl] at hea; cases hea
            · exact h
          have ht' : t.size ≤ 12000 := by
            rcases Nat.lt_or_ge 12000 t.size with h | h
            · exfalso; rw [show parseP t = ([], 0, 4) by unfold parseP; rw [decide_eq_true h]; rfl] at heb; cases heb
            · exact h
          have w1 : IntKind.wrap IntKind.i64 ((s.size : Int) + (t.size : Int)) = ((s.size + t.size : Nat) : Int) := by rw [wrap_id (by omega) (by omega)]; omega
          have w2 : IntKind.wrap IntKind.i64 (((s.size + t.size : Nat) : Int) + 1) = ((s.size + t.size + 1 : Nat) : Int) := by rw [wrap_id (by omega) (by omega)]; omega
          rw [w1, w2]; simp; omega
        simp only [d1, cond_true]
    · have ea : ((parseP s).2.2 != 0) = false := by rw [hea]; rfl
      have eb : ((parseP t).2.2 != 0) = true := by simpa using heb
      simp only [ea, eb, cond_true, cond_false]
  · have ea : ((parseP s).2.2 != 0) = true := by simpa using hea
    simp only [ea, cond_true]

theorem own : ownKnob Try.prog.godebug = none := by kernel_rfl
theorem laidOut : laidOutB Try.prog = true := by kernel_rfl
theorem okS : [9].all (okT Try.prog [9]) = true := by kernel_rfl

set_option maxRecDepth 100000 in
theorem lifted (os : Os) (started : os.Started) (H : Type) (enc : TypeId × Value → H) :
    ReturnsInHanded {} Try.checked os 3 .any (Rows.syntaxConcatenatesSpec.pre6 enc Try.prog Try.f3 Rows.syntaxConcatenatesRow.domain false) (Rows.syntaxConcatenatesSpec.post enc Try.prog Try.f3 false true false false) := by
  refine returnsInHanded_of_change (C := Try.checked) own started (by kernel_rfl) Try.func3
    (ChangeSpec.witness6 (enc := enc) (C := Try.checked) false ⟨#[], #[.string (ByteArray.mk #[]), .string (ByteArray.mk #[])], []⟩ 8 (by kernel_rfl) (by kernel_rfl) (by kernel_rfl) (by kernel_rfl)) ?_
  intro W base args ds gs before hval hW hcnd _
  have hW' := hW
  obtain ⟨p, q, hA0, hV, rfl, hfz, hnd⟩ := hW
  have hA : DataW.TrodAll enc Try.prog W 0 (fun _ => true) true Try.f3.params.toList args.toList ds p := hA0
  rw [Try.params3] at hA hval
  have hA1 := hA
  obtain ⟨v0, vs0, d0, ds0, p0, q0, hargs, rfl, rfl, h0, r0⟩ := trodAll_cons hA
  obtain ⟨v1, vs1, d1, ds1, p1, q1, hargs1, rfl, rfl, h1, r1⟩ := trodAll_cons r0
  obtain ⟨rfl, rfl, rfl⟩ := trodAll_nil r1
  obtain rfl : args = #[v0, v1] := by cases args; simp_all
  obtain ⟨rfl, rfl⟩ := trodVars_none hV
  have f0 : aggT Try.prog 9 = some false := by simp [aggT, Try.underlying9]
  obtain ⟨e0, a0, hr0, hs0, hk0⟩ := arg_open (β := fun _ => .free) okS (by kernel_rfl) (hval 0 9 v0 rfl rfl) h0
  simp only [f0, Option.some.injEq, Bool.false_eq_true, false_and, false_or, true_and] at hk0
  obtain ⟨x, rfl, rfl⟩ := hk0
  obtain ⟨e1, a1, hr1, hs1, hk1⟩ := arg_open (β := fun _ => .free) okS (by kernel_rfl) (hval 1 9 v1 rfl rfl) h1
  simp only [f0, Option.some.injEq, Bool.false_eq_true, false_and, false_or, true_and] at hk1
  obtain ⟨y, rfl, rfl⟩ := hk1
  obtain ⟨s, hx, hs⟩ := hs0.str_inv Try.underlying9
  obtain rfl : x = .v (.string s) := by simpa using hx
  obtain ⟨t, hy, ht⟩ := hs1.str_inv Try.underlying9
  obtain rfl : y = .v (.string t) := by simpa using hy
  have hcalls := calls_of_cr (w := W) (vs := #[v0, v1]) rfl (c3 s t) ⟨rfl, fun i x v hx hv => by
    match i, hx, hv with
    | 0, hx, hv => simp at hx hv; subst hx hv; exact hr0
    | 1, hx, hv => simp at hx hv; subst hx hv; exact hr1
    | i + 2, hx, hv => simp at hx⟩
  refine hcalls.mono fun e W' ⟨he, bel⟩ => ?_
  subst he
  exact ⟨_, rfl, _, _, _, [], _, [], hW', trodAll_mk1 (shut_bool Try.underlying4 _), trodAll_stays laidOut bel (by
    intro t ht
    have : t = 9 := by simpa using ht
    subst this
    exact ⟨by kernel_rfl, of_decide_eq_true (by kernel_rfl)⟩) hA1, rfl, bel.frame _, fun h => by cases h⟩

theorem proved : Rows.SyntaxConcatenatesSaid :=
  OpenClaim.holds_of_wide 3 Try.f3 rfl rfl rfl rfl rfl rfl rfl ⟨rfl, rfl, rfl, rfl, rfl⟩ rfl rfl rfl rfl rfl (by kernel_rfl) Try.func3 (by kernel_rfl)
    (of_decide_eq_true (by kernel_rfl)) (by unfold Func.isWrapper; first | (rw [if_pos (by decide +kernel)]; kernel_rfl) | (rw [if_neg (by decide +kernel)]; exact ⟨rfl, rfl⟩))
    (fun os started H enc _ => lifted os started H enc)
end Go.Proofs.Ytkmmkdeoamhpfaa.conc
