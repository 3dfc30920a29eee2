/-
  SyntaxCanonical returns true for every text. No condition.
-/
import Derived.Test.YtkmmkdeoamhpfaaZCn
import Derived.Test.YtkmmkdeoamhpfaaCe
import Derived.Test.YtkmmkdeoamhpfaaRows
namespace Go.Proofs.Ytkmmkdeoamhpfaa.cano
open Go.ChangeShapes Go.WideShapes Go.ChangeAt Go.RowKit
open Go.Eb Go.Proofs.Ytkmmkdeoamhpfaa.wd
open Go.Proofs.Ytkmmkdeoamhpfaa.ps (rP c8)
open Go.Proofs.Ytkmmkdeoamhpfaa.ck (chP chP_cons chk ckItem cws cwd opn quot qch)
open Go.Proofs.Ytkmmkdeoamhpfaa.fo (fmt fmtK wtx)
open Go.Proofs.Ytkmmkdeoamhpfaa.bu (src)

noncomputable def okA (x : D) : Bool := okI x && okL (theI x)
noncomputable def K0 : KP := ⟨parseP, fun x => chk (theI x), fun x => fmtK (theI x), fun x y => ct.same (theI x) (theI y), okA, fun x y => okA x && okA y⟩

theorem one {f : FuncId} {g : List It → AV} (hc : ∀ l, okL l = true → CX Try.prog f [aI l] [] (g l) []) : ∀ x, okA x = true → CX Try.prog f [.c (.d x)] [] (g (theI x)) [] := fun x hx => by
  unfold okA at hx
  simp only [Bool.and_eq_true] at hx
  exact (hc (theI x) hx.2).ge (asle1 (theI_de hx.1)) (.refl _)
theorem two {f : FuncId} {g : List It → List It → AV} (hc : ∀ l l', okL l = true → okL l' = true → CX Try.prog f [aI l, aI l'] [] (g l l') []) : ∀ x y, (okA x && okA y) = true → CX Try.prog f [.c (.d x), .c (.d y)] [] (g (theI x) (theI y)) [] := fun x y hx => by
  unfold okA at hx
  simp only [Bool.and_eq_true] at hx
  exact (hc (theI x) (theI y) hx.1.2 hx.2.2).ge (asle2 (theI_de hx.1.1) (theI_de hx.2.1)) (.refl _)
theorem ok5 : OrcOk Try.prog (o5 K0) :=
  Orc.cons_ok (Orc.cons_ok (Orc.cons_ok (Orc.cons_ok (Orc.cons_ok (Orc.nil_ok _) (ans2_ok (two fun l l' h h' => ct.c10 (dep l + 1) l l' (by omega) h h')))
    (ans1_ok (one fo.c15))) (ans1_ok (one ck.c16))) (ansP_ok decS_ok c8)) (ansP_ok dec0_ok c7)

theorem eqW_refl : ∀ l : List Wd, ct.eqW l l = true
  | [] => by simp [ct.eqW]
  | w :: r => by simp [ct.eqW, ct.eqW1, eqW_refl r]
theorem same_er : ∀ (l l' : List It), er l = er l' → ct.same l l' = true
  | [], [], _ => by simp [ct.same]
  | .mk a w b k :: r, .mk a' w' b' k' :: r', h => by
    simp only [er, List.cons.injEq, It.mk.injEq] at h
    obtain ⟨⟨_, rfl, rfl, h1⟩, h2⟩ := h
    simp only [ct.same, eqW_refl, same_er k k' h1, same_er r r' h2, beq_self_eq_true, Bool.and_self]
  | [], .mk _ _ _ _ :: _, h => by simp [er] at h
  | .mk _ _ _ _ :: _, [], h => by simp [er] at h

theorem ba_ext {a b : ByteArray} (h : a.data.toList = b.data.toList) : a = b := by
  obtain ⟨⟨x⟩⟩ := a
  obtain ⟨⟨y⟩⟩ := b
  simp at h
  rw [h]
theorem app_b (a b : ByteArray) : (a ++ b).data.toList = a.data.toList ++ b.data.toList := by rw [ByteArray.data_append, Array.toList_append]

/-- valid words, statements -/
theorem cwd_wf {w : Wd} (h : wfW w = true) : cwd w = 0 := by
  unfold wfW at h
  simp only [Bool.and_eq_true, decide_eq_true_eq] at h
  unfold cwd
  rw [decide_eq_false (by omega)]
  simp only [cond_false]
  cases hq : w.q with
  | true =>
    rw [hq] at h
    have : quot w.text = true := h.2
    rw [this]; rfl
  | false =>
    rw [hq] at h
    simp only [cond_false, Bool.and_eq_true, Bool.not_eq_true'] at h
    have e : plainS w.text = true := by
      unfold plainS
      have h1 : (bs w.text).all (fun c => plainR c.toNat) = true := h.2.2
      rw [h1, Bool.true_and]
      cases hx : (w.text.toList == (ByteArray.mk #[]).toList) with
      | false => rfl
      | true =>
        exfalso
        have hx' := beq_iff_eq.1 hx
        have hd : w.text.data.toList = [] := by
          rw [← ByteArray.toList_eq, hx', ByteArray.toList_eq]
        rw [hd] at h
        exact absurd h.2.1 (by simp)
    rw [e]; rfl
theorem cws_wf : ∀ (l : List Wd), l.all wfW = true → cws l = 0
  | [], _ => rfl
  | w :: r, h => by
    simp only [List.all_cons, Bool.and_eq_true] at h
    simp only [cws, cwd_wf h.1]
    exact cws_wf r h.2
theorem item_wf {a : Int} {w : List Wd} {b : Bool} {k : List It} (hw : wfWs w = true) (hb : (b || k.isEmpty) = true) : ckItem (.mk a w b k) = 0 := by
  unfold wfWs at hw
  simp only [Bool.and_eq_true, decide_eq_true_eq] at hw
  obtain ⟨⟨h1, h2⟩, h3⟩ := hw
  cases w with
  | nil => cases h3
  | cons x r =>
    show (bif (((x :: r).length : Int) == 0) then (6 : Int) else bif !opn ((x :: r).getD 0 w0) then 6 else bif decide (((x :: r).length : Int) > 40) then 3 else bif cws (x :: r) != 0 then cws (x :: r) else bif !b then (bif decide ((k.length : Int) > 0) then 12 else 0) else 0) = 0
    have e1 : (((x :: r).length : Int) == 0) = false := by simp; omega
    have e2 : opn ((x :: r).getD 0 w0) = true := h3
    have e3 : decide (((x :: r).length : Int) > 40) = false := by simp; simp at h1; omega
    rw [e1, e2, e3, cws_wf _ h2]
    simp only [cond_false, Bool.not_true, bne_self_eq_false]
    cases b with
    | true => rfl
    | false =>
      have : k = [] := by simpa using hb
      subst this
      rfl
theorem chP_wf : ∀ (l : List It) (d n : Nat), wfL l = true → d + dep l ≤ 5 → n + cntN l ≤ 600 → chP l d n = (0, ((n + cntN l : Nat) : Int))
  | [], d, n, _, _, _ => by simp [chP, cntN]
  | .mk a w b k :: r, d, n, hw, hd, hn => by
    simp only [wfL, Bool.and_eq_true] at hw
    obtain ⟨⟨⟨w1, w2⟩, w3⟩, w4⟩ := hw
    simp only [dep, cntN] at hd hn
    have e1 : IntKind.wrap IntKind.i64 ((n : Int) + 1) = ((n + 1 : Nat) : Int) := by rw [wrap_id (by omega) (by omega)]; omega
    have e2 : IntKind.wrap IntKind.i64 ((d : Int) + 1) = ((d + 1 : Nat) : Int) := by rw [wrap_id (by omega) (by omega)]; omega
    have ik := chP_wf k (d + 1) (n + 1) w3 (by omega) (by omega)
    have ir := chP_wf r d (n + 1 + cntN k) w4 (by omega) (by omega)
    simp only [chP, e1, e2, item_wf w1 w2, ik]
    rw [decide_eq_false (show ¬ (((n + 1 : Nat) : Int) > 600) by omega), decide_eq_false (show ¬ ((d : Int) > 4) by omega)]
    simp only [cond_false, bne_self_eq_false, ir, cntN]
    congr 2
    omega
theorem chk_wf {l : List It} (hw : wfL l = true) (hc : cntN l ≤ 600) (hd : dep l ≤ 5) : chk l = 0 := by
  unfold chk
  have := chP_wf l 0 0 hw (by omega) (by omega)
  have e : chP l 0 0 = (0, ((0 + cntN l : Nat) : Int)) := this
  rw [e]

/-- the text, as a list -/
theorem src_b (w : Wd) : (src w).data.toList = wdB w := by
  unfold src wdB
  cases w.q with
  | true => simp only [cond_true, app_b]; simp
  | false => rfl
theorem wtx_b : ∀ (b : Bool) (l : List Wd), (wtx b l).data.toList = wtB b l
  | b, [] => by simp [wtx, wtB]
  | b, w :: r => by
    simp only [wtx, wtB, app_b, src_b, wtx_b true r]
    cases b <;> rfl
theorem fmt_b : ∀ (l : List It) (ind : ByteArray), (fmt ind l).data.toList = fmB ind.data.toList l
  | [], ind => by simp [fmt, fmB]
  | .mk a w b k :: r, ind => by
    simp only [fmt, fmB, app_b, wtx_b, fmt_b r ind]
    cases b with
    | true => simp only [cond_true, app_b, fmt_b k]; simp
    | false => simp
theorem fmtK_b {l : List It} (h : chk l = 0) : (fmtK l).data.toList = fmB [] l := by
  unfold fmtK
  rw [h]
  simp only [bne_self_eq_false, cond_false]
  rw [fmt_b]
  rfl

theorem okA_items {l : List It} (h : okL l = true) : okA (itemsD l) = true := by unfold okA; rw [okI_items, theI_items, h]; rfl

theorem c5 (s : ByteArray) : CR Try.prog 5 [vS s] [] (vB true) [] := by
  refine cr_of ok5 Try.func5 b5 rfl ((ev5 K0 s).trans ?_)
  have k1 : ∀ x, K0.pa x = parseP x := fun _ => rfl
  have k2 : ∀ x, K0.ok x = okA x := fun _ => rfl
  have k3 : ∀ x y, K0.ok2 x y = (okA x && okA y) := fun _ _ => rfl
  have k4 : ∀ x, K0.ck x = chk (theI x) := fun _ => rfl
  have k5 : ∀ x y, K0.sm x y = ct.same (theI x) (theI y) := fun _ _ => rfl
  have k6 : ∀ x, K0.fm x = fmtK (theI x) := fun _ => rfl
  have oa := okA_items (parse_okL s)
  have ob := okA_items (parse_okL (fmtK (parseP s).1))
  simp only [k1, k2, k3, k4, k5, k6, oa, ob, theI_items, cond_true, Bool.and_self]
  by_cases hea : (parseP s).2.2 = 0
  · have ea : ((parseP s).2.2 != 0) = false := by rw [hea]; rfl
    have pa : parseP s = ((parseP s).1, (parseP s).2.1, 0) := by rw [← hea]
    obtain ⟨wa, wc, wd⟩ := parse_wf pa
    have wb := parse_bd pa
    have hch := chk_wf wa wc wd
    have hb := fmtK_b hch
    rw [ea, hch]
    simp only [cond_false, beq_self_eq_true, cond_true]
    by_cases hsz : (fmtK (parseP s).1).size ≤ 12000
    · have d1 : decide (((fmtK (parseP s).1).size : Int) > 12000) = false := by simp; omega
      obtain ⟨x, hx, hex⟩ := parse_fmB hb hsz wa wc wb
      have hwx := parse_wf hx
      have hbx := fmtK_b (chk_wf hwx.1 hwx.2.1 hwx.2.2)
      have heq : fmtK x = fmtK (parseP s).1 := ba_ext (by rw [hbx, hb, ← fmB_er x, hex, fmB_er])
      rw [d1, hx]
      simp only [same_er x (parseP s).1 hex, heq, beq_self_eq_true, cond_true, cond_false]
    · have d1 : decide (((fmtK (parseP s).1).size : Int) > 12000) = true := by simp; omega
      simp only [d1, cond_true]
  · have ea : ((parseP s).2.2 != 0) = true := by simpa using hea
    rw [ea, parse_err hea]
    rfl

theorem own : ownKnob Try.prog.godebug = none := by kernel_rfl
theorem laidOut : laidOutB Try.prog = true := by kernel_rfl
theorem okS : [9].all (okT Try.prog [9]) = true := by kernel_rfl

set_option maxRecDepth 100000 in
theorem lifted (os : Os) (started : os.Started) (H : Type) (enc : TypeId × Value → H) :
    ReturnsInHanded {} Try.checked os 5 .any (Rows.syntaxCanonicalSpec.pre6 enc Try.prog Try.f5 Rows.syntaxCanonicalRow.domain false) (Rows.syntaxCanonicalSpec.post enc Try.prog Try.f5 false true false false) := by
  refine returnsInHanded_of_change (C := Try.checked) own started (by kernel_rfl) Try.func5
    (ChangeSpec.witness6 (enc := enc) (C := Try.checked) false ⟨#[], #[.string (ByteArray.mk #[])], []⟩ 8 (by kernel_rfl) (by kernel_rfl) (by kernel_rfl) (by kernel_rfl)) ?_
  intro W base args ds gs before hval hW hcnd _
  have hW' := hW
  obtain ⟨p, q, hA0, hV, rfl, hfz, hnd⟩ := hW
  have hA : DataW.TrodAll enc Try.prog W 0 (fun _ => true) true Try.f5.params.toList args.toList ds p := hA0
  rw [Try.params5] at hA hval
  have hA1 := hA
  obtain ⟨v0, vs0, d0, ds0, p0, q0, hargs, rfl, rfl, h0, r0⟩ := trodAll_cons hA
  obtain ⟨rfl, rfl, rfl⟩ := trodAll_nil r0
  obtain rfl : args = #[v0] := by cases args; simp_all
  obtain ⟨rfl, rfl⟩ := trodVars_none hV
  obtain ⟨e0, a0, hr0, hs0, hk0⟩ := arg_open (β := fun _ => .free) okS (by kernel_rfl) (hval 0 9 v0 rfl rfl) h0
  have f0 : aggT Try.prog 9 = some false := by simp [aggT, Try.underlying9]
  simp only [f0, Option.some.injEq, Bool.false_eq_true, false_and, false_or, true_and] at hk0
  obtain ⟨x, rfl, rfl⟩ := hk0
  obtain ⟨s, hx, hs⟩ := hs0.str_inv Try.underlying9
  obtain rfl : x = .v (.string s) := by simpa using hx
  have hcalls := calls_of_cr (w := W) (vs := #[v0]) rfl (c5 s) ⟨rfl, fun i x v hx hv => by
    match i, hx, hv with
    | 0, hx, hv => simp at hx hv; subst hx hv; exact hr0
    | i + 1, hx, hv => simp at hx⟩
  refine hcalls.mono fun e W' ⟨he, bel⟩ => ?_
  subst he
  exact ⟨_, rfl, _, _, _, [], _, [], hW', trodAll_mk1 (shut_bool Try.underlying4 _), trodAll_stays laidOut bel (by
    intro t ht
    have : t = 9 := by simpa using ht
    subst this
    exact ⟨by kernel_rfl, of_decide_eq_true (by kernel_rfl)⟩) hA1, rfl, bel.frame _, fun h => by cases h⟩

theorem proved : Rows.SyntaxCanonicalSaid :=
  OpenClaim.holds_of_wide 5 Try.f5 rfl rfl rfl rfl rfl rfl rfl ⟨rfl, rfl, rfl, rfl, rfl⟩ rfl rfl rfl rfl rfl (by kernel_rfl) Try.func5 (by kernel_rfl)
    (of_decide_eq_true (by kernel_rfl)) (by unfold Func.isWrapper; first | (rw [if_pos (by decide +kernel)]; kernel_rfl) | (rw [if_neg (by decide +kernel)]; exact ⟨rfl, rfl⟩))
    (fun os started H enc _ => lifted os started H enc)
end Go.Proofs.Ytkmmkdeoamhpfaa.cano
