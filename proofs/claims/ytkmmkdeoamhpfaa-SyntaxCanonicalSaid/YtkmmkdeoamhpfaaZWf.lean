/-
  What Parse returns is valid: words, blocks, counts and depths. No condition.
-/
import Derived.Test.YtkmmkdeoamhpfaaZPp
namespace Go.Eb

/-- words and statements without errors -/
def wfW (w : Wd) : Bool := decide (w.text.size ≤ 120) && (bif w.q then w.text.data.toList.all qok else (!w.text.data.toList.isEmpty && w.text.data.toList.all pl))
def wfWs (ws : List Wd) : Bool := decide (ws.length ≤ 40) && ws.all wfW && (match ws with | [] => false | w :: _ => opW w)
def wfL : List It → Bool
  | [] => true
  | .mk _ w b k :: r => wfWs w && (b || k.isEmpty) && wfL k && wfL r
def cntN : List It → Nat
  | [] => 0
  | .mk _ _ _ k :: r => 1 + cntN k + cntN r

theorem wfL_app : ∀ (a b : List It), wfL (a ++ b) = (wfL a && wfL b)
  | [], b => by simp [wfL]
  | .mk l w c k :: r, b => by simp only [List.cons_append, wfL, wfL_app r b, Bool.and_assoc]
theorem cntN_app : ∀ (a b : List It), cntN (a ++ b) = cntN a + cntN b
  | [], b => by simp [cntN]
  | .mk l w c k :: r, b => by simp only [List.cons_append, cntN, cntN_app r b]; omega
theorem dep_app : ∀ (a b : List It), dep (a ++ b) = max (dep a) (dep b)
  | [], b => by simp [dep]
  | .mk l w c k :: r, b => by simp only [List.cons_append, dep, dep_app r b]; omega
theorem len_cntN : ∀ l : List It, l.length ≤ cntN l
  | [] => by simp [cntN]
  | .mk l w c k :: r => by simp only [List.length_cons, cntN]; have := len_cntN r; omega

theorem fits_wf : ∀ l : List It, wfL l = true → cntN l ≤ 1000000 → fits l = true
  | [], _, _ => by simp [fits]
  | .mk l w c k :: r, h, hc => by
    simp only [wfL, Bool.and_eq_true] at h
    simp only [cntN] at hc
    have h1 := len_cntN k
    have hk := fits_wf k h.1.2 (by omega)
    have hr := fits_wf r h.2 (by omega)
    have hw := h.1.1.1
    unfold wfWs at hw
    simp only [Bool.and_eq_true, decide_eq_true_eq] at hw
    have hall : w.all (fun x => decide (x.text.size ≤ 9223372036854775807)) = true := by
      rw [List.all_eq_true]
      intro x hx
      have := List.all_eq_true.1 hw.1.2 x hx
      unfold wfW at this
      simp only [Bool.and_eq_true, decide_eq_true_eq] at this
      exact decide_eq_true (by omega)
    simp only [fits, hk, hr, hall, decide_eq_true (show k.length ≤ 9223372036854775807 by omega), decide_eq_true (show w.length ≤ 9223372036854775807 by omega), Bool.and_self]
theorem okL_wf {l : List It} (h : wfL l = true) (hc : cntN l ≤ 1000000) : okL l = true := by
  unfold okL
  have := len_cntN l
  rw [fits_wf l h hc, decide_eq_true (by omega)]
  rfl

/-- words of tokens -/
theorem takeW_all (p : UInt8 → Bool) : ∀ l : List UInt8, (l.takeWhile p).all p = true
  | [] => rfl
  | c :: r => by
    cases h : p c with
    | true => simp [h, takeW_all p r]
    | false => simp [h]
theorem plainL_wf (r : List UInt8) (w : List UInt8) (d : Bool) (h0 : (r.takeWhile pl) ≠ []) (h : (plainL r).1 = .wd w d) : wfW ⟨⟨w.toArray⟩, d⟩ = true := by
  unfold plainL at h
  cases h1 : decide (120 < (r.takeWhile pl).length) with
  | true => rw [h1] at h; cases h
  | false =>
    cases h2 : isQ (r.dropWhile pl) with
    | true => rw [h1, h2] at h; cases h
    | false =>
      rw [h1, h2] at h
      simp only [cond_false, Tok.wd.injEq] at h
      obtain ⟨rfl, rfl⟩ := h
      have h1' : (r.takeWhile pl).length ≤ 120 := by simpa using h1
      unfold wfW
      have hs : (ByteArray.mk (r.takeWhile pl).toArray).size = (r.takeWhile pl).length := by show (List.toArray _).size = _; simp
      simp only [hs, h1', decide_true, cond_false, takeW_all, Bool.and_true, Bool.true_and]
      cases hx : r.takeWhile pl with
      | nil => exact absurd hx h0
      | cons a b => rfl
theorem quotE_wf (w : List UInt8) (r : List UInt8) (v : List UInt8) (d : Bool) (hw : w.all qok = true) (h : (quotE w r).1 = .wd v d) : wfW ⟨⟨v.toArray⟩, d⟩ = true := by
  cases r with
  | nil => simp [quotE] at h
  | cons c r =>
    simp only [quotE] at h
    cases h1 : (q c == 34) <;> cases h2 : decide (120 < w.length) <;> cases h3 : isQP r <;> simp only [h1, h2, h3, cond_true, cond_false, reduceCtorEq, Tok.wd.injEq] at h
    obtain ⟨rfl, rfl⟩ := h
    have h2' : w.length ≤ 120 := by simpa using h2
    unfold wfW
    have hs : (ByteArray.mk w.toArray).size = w.length := by show (List.toArray _).size = _; simp
    simp only [hs, h2', decide_true, cond_true, hw, Bool.and_self]
theorem tokE_wf (r : List UInt8) (w : List UInt8) (d : Bool) (h : (tokE r).1 = .wd w d) : wfW ⟨⟨w.toArray⟩, d⟩ = true := by
  cases r with
  | nil => simp [tokE] at h
  | cons c r =>
    simp only [tokE] at h
    cases h1 : (q c == 123 || q c == 125 || q c == 59) with
    | true => simp only [h1, cond_true, reduceCtorEq] at h
    | false =>
      cases h2 : (q c == 34) with
      | true => simp only [h1, h2, cond_true, cond_false] at h; exact quotE_wf _ _ w d (takeW_all _ _) h
      | false =>
        cases h3 : plainQ (q c) with
        | true =>
          simp only [h1, h2, h3, cond_true, cond_false] at h
          exact plainL_wf _ w d (by simp [List.takeWhile_cons, pl, h3]) h
        | false => simp only [h1, h2, h3, cond_false, reduceCtorEq] at h

/-- levels: the innermost first; their depths -/
def depOk : List (List It) → Prop
  | [] => True
  | k :: r => dep k + r.length ≤ 5 ∧ depOk r
structure Inv (p : PS) : Prop where
  len : p.lv.length = p.bl.length + 1
  cnt : p.count = (p.lv.map cntN).sum + p.bl.length + (bif p.begun then 1 else 0)
  le : p.count ≤ 600
  wf : ∀ k ∈ p.lv, wfL k = true
  bw : ∀ b ∈ p.bl, wfWs b.2 = true
  ws : p.begun = true → wfWs p.ws = true
  bl : p.bl.length ≤ 4
  dp : depOk p.lv

theorem inv0 : Inv ps0 where
  len := rfl
  cnt := by simp [ps0, cntN]
  le := by simp [ps0]
  wf k hk := by simp [ps0] at hk; subst hk; simp [wfL]
  bw b hb := by simp [ps0] at hb
  ws h := by simp [ps0] at h
  bl := by simp [ps0]
  dp := by simp [ps0, depOk, dep]
/-- an error of a step is not zero -/
theorem step_ne {p : PS} {l : Nat} {t : Tok} {e : Int} (ht : ∀ e, t = .err e → e ≠ 0) (h0 : t ≠ .eof) (h : stepT p l t = .inl e) : e ≠ 0 := by
  cases t with
  | eof => exact absurd rfl h0
  | err x => simp only [stepT, Sum.inl.injEq] at h; subst h; exact ht _ rfl
  | wd w d =>
    simp only [stepT, stepW] at h
    cases hb : p.begun with
    | false =>
      cases ho : opW ⟨⟨w.toArray⟩, d⟩ with
      | false => simp only [hb, ho, Bool.not_false, cond_true, Sum.inl.injEq] at h; subst h; decide
      | true =>
        cases hc : (p.count == 600) with
        | true => simp only [hb, ho, hc, Bool.not_false, Bool.not_true, cond_true, cond_false, Sum.inl.injEq] at h; subst h; decide
        | false => simp only [hb, ho, hc, Bool.not_false, Bool.not_true, cond_true, cond_false, reduceCtorEq] at h
    | true =>
      cases hc : (p.ws.length == 40) with
      | true => simp only [hb, hc, Bool.not_true, cond_true, cond_false, Sum.inl.injEq] at h; subst h; decide
      | false => simp only [hb, hc, Bool.not_true, cond_false, reduceCtorEq] at h
  | br c =>
    simp only [stepT, stepB] at h
    cases h59 : (q c == 59) with
    | true =>
      cases hb : p.begun with
      | false => simp only [h59, hb, Bool.not_false, cond_true, Sum.inl.injEq] at h; subst h; decide
      | true => simp only [h59, hb, Bool.not_true, cond_true, cond_false, reduceCtorEq] at h
    | false =>
      cases h123 : (q c == 123) with
      | true =>
        cases hb : p.begun with
        | false => simp only [h59, h123, hb, Bool.not_false, cond_true, cond_false, Sum.inl.injEq] at h; subst h; decide
        | true =>
          cases hd : decide (4 < p.bl.length + 1) with
          | true => simp only [h59, h123, hb, hd, Bool.not_true, cond_true, cond_false, Sum.inl.injEq] at h; subst h; decide
          | false => simp only [h59, h123, hb, hd, Bool.not_true, cond_true, cond_false, reduceCtorEq] at h
      | false =>
        cases hb : p.begun with
        | true => simp only [h59, h123, hb, cond_true, cond_false, Sum.inl.injEq] at h; subst h; decide
        | false =>
          simp only [h59, h123, hb, cond_false, closeP] at h
          split at h
          · cases h
          · simp only [Sum.inl.injEq] at h; subst h; decide

theorem inv_step {p p' : PS} {l : Nat} {t : Tok} (hp : Inv p) (hw : ∀ w d, t = .wd w d → wfW ⟨⟨w.toArray⟩, d⟩ = true) (h : stepT p l t = .inr p') : Inv p' ∧ p.count ≤ p'.count := by
  obtain ⟨h1, h2, h3, h4, h5, h6, h7, h8⟩ := hp
  cases t with
  | eof => cases h
  | err e => cases h
  | wd w d =>
    have hw := hw w d rfl
    simp only [stepT, stepW] at h
    cases hb : p.begun with
    | false =>
      simp only [hb, Bool.not_false, cond_true] at h
      cases ho : opW ⟨⟨w.toArray⟩, d⟩ with
      | false => simp only [ho, Bool.not_false, cond_true, reduceCtorEq] at h
      | true =>
        cases hc : (p.count == 600) with
        | true => simp only [ho, hc, Bool.not_true, cond_false, cond_true, reduceCtorEq] at h
        | false =>
          simp only [ho, hc, Bool.not_true, cond_false, Sum.inr.injEq] at h
          subst h
          have hc' : p.count ≠ 600 := by simpa using hc
          rw [hb] at h2
          simp only [cond_false] at h2
          refine ⟨⟨h1, by simp only [cond_true]; omega, by simp only []; omega, h4, h5, fun _ => ?_, h7, h8⟩, by simp only []; omega⟩
          simp [wfWs, hw, ho]
    | true =>
      simp only [hb, Bool.not_true, cond_false] at h
      cases hc : (p.ws.length == 40) with
      | true => simp only [hc, cond_true, reduceCtorEq] at h
      | false =>
        simp only [hc, cond_false, Sum.inr.injEq] at h
        subst h
        have hc' : p.ws.length ≠ 40 := by simpa using hc
        have h6 := h6 hb
        rw [hb] at h2
        refine ⟨⟨h1, h2, h3, h4, h5, fun _ => ?_, h7, h8⟩, Nat.le_refl _⟩
        unfold wfWs at h6 ⊢
        simp only [Bool.and_eq_true, decide_eq_true_eq] at h6
        obtain ⟨⟨h61, h62⟩, h63⟩ := h6
        simp only [List.length_append, List.length_cons, List.length_nil, List.all_append, h62, List.all_cons, List.all_nil, hw, Bool.and_self, Bool.and_true, Bool.true_and]
        rw [decide_eq_true (by omega), Bool.true_and]
        cases hws : p.ws with
        | nil => rw [hws] at h63; cases h63
        | cons a r => rw [hws] at h63; exact h63
  | br c =>
    simp only [stepT, stepB] at h
    cases h59 : (q c == 59) with
    | true =>
      simp only [h59, cond_true] at h
      cases hb : p.begun with
      | false => simp only [hb, Bool.not_false, cond_true, reduceCtorEq] at h
      | true =>
        simp only [hb, Bool.not_true, cond_false, Sum.inr.injEq] at h
        subst h
        have h6 := h6 hb
        rw [hb] at h2
        cases hlv : p.lv with
        | nil => rw [hlv] at h1; simp at h1
        | cons k r =>
          rw [hlv] at h1 h2 h4 h8
          simp only [List.map_cons, List.sum_cons, cond_true, List.length_cons] at h1 h2
          refine ⟨⟨by simpa [addL] using h1, ?_, h3, ?_, h5, (fun h => by cases h), h7, ?_⟩, Nat.le_refl _⟩
          · simp only [addL, List.map_cons, List.sum_cons, cntN_app, cntN, cond_false]; omega
          · intro k' hk'
            simp only [addL, List.mem_cons] at hk'
            rcases hk' with rfl | hk'
            · rw [wfL_app, h4 k (by simp)]; simp [wfL, h6]
            · exact h4 k' (by simp [hk'])
          · simp only [addL, depOk, dep_app, dep] at h8 ⊢
            refine ⟨?_, h8.2⟩
            have := h8.1
            have hr : r.length ≤ 4 := by omega
            omega
    | false =>
      simp only [h59, cond_false] at h
      cases h123 : (q c == 123) with
      | true =>
        simp only [h123, cond_true] at h
        cases hb : p.begun with
        | false => simp only [hb, Bool.not_false, cond_true, reduceCtorEq] at h
        | true =>
          cases hd : decide (4 < p.bl.length + 1) with
          | true => simp only [hb, hd, Bool.not_true, cond_false, cond_true, reduceCtorEq] at h
          | false =>
            simp only [hb, hd, Bool.not_true, cond_false, Sum.inr.injEq] at h
            subst h
            have h6 := h6 hb
            have hd' : p.bl.length + 1 ≤ 4 := by simpa using hd
            rw [hb] at h2
            simp only [cond_true] at h2
            refine ⟨⟨by simp only [List.length_cons]; omega, ?_, h3, ?_, ?_, (fun h => by cases h), by simp only [List.length_cons]; omega, ?_⟩, Nat.le_refl _⟩
            · simp only [List.map_cons, List.sum_cons, cntN, List.length_cons, cond_false]; omega
            · intro k hk
              simp only [List.mem_cons] at hk
              rcases hk with rfl | hk
              · simp [wfL]
              · exact h4 k hk
            · intro b hb'
              simp only [List.mem_cons] at hb'
              rcases hb' with rfl | hb'
              · exact h6
              · exact h5 b hb'
            · exact ⟨by simp only [dep]; omega, h8⟩
      | false =>
        simp only [h123, cond_false] at h
        cases hb : p.begun with
        | true => simp only [hb, cond_true, reduceCtorEq] at h
        | false =>
          simp only [hb, cond_false, closeP] at h
          rw [hb] at h2
          split at h
          · rename_i b ws bl k lv e1 e2
            simp only [Sum.inr.injEq] at h
            subst h
            rw [e1, e2] at h1 h2
            rw [e1] at h5 h7
            rw [e2] at h4 h8
            simp only [List.length_cons, List.map_cons, List.sum_cons, cond_false] at h1 h2 h7
            cases lv with
            | nil => simp at h1
            | cons u r =>
              simp only [List.map_cons, List.sum_cons, List.length_cons] at h1 h2
              have hbw := h5 (b, ws) (by simp)
              refine ⟨⟨by simp only [addL, List.length_cons]; omega, ?_, h3, ?_, fun b' hb' => h5 b' (by simp [hb']), (fun h => by cases h), by simp only []; omega, ?_⟩, Nat.le_refl _⟩
              · simp only [addL, List.map_cons, List.sum_cons, cntN_app, cntN, cond_false]; omega
              · intro k' hk'
                simp only [addL, List.mem_cons] at hk'
                rcases hk' with rfl | hk'
                · rw [wfL_app, h4 u (by simp)]
                  have := h4 k (by simp)
                  simp only at hbw
                  simp [wfL, hbw, this]
                · exact h4 k' (by simp [hk'])
              · simp only [depOk, List.length_cons] at h8
                simp only [addL, depOk, dep_app, dep]
                refine ⟨?_, h8.2.2⟩
                have := h8.1
                have := h8.2.1
                omega
          · cases h

theorem run_wf : ∀ (n : Nat) (r : List UInt8) (l : Nat) (p : PS), Inv p → ∀ a ln, runP n r l p = (a, ln, 0) → wfL a = true ∧ cntN a ≤ 600 ∧ dep a ≤ 5 ∧ p.count ≤ cntN a
  | 0, r, l, p, _, a, ln, h => by simp [runP] at h
  | n + 1, r, l, p, hp, a, ln, h => by
    simp only [runP] at h
    cases ht : (tokL r l).1 with
    | eof =>
      rw [ht] at h
      simp only [goP, endP] at h
      cases hb : p.begun with
      | true => simp [hb] at h
      | false =>
        cases he : (!p.bl.isEmpty) with
        | true => simp [hb, he] at h
        | false =>
          simp only [hb, he, cond_false, Prod.mk.injEq] at h
          obtain ⟨h1, h2, h3, h4, h5, h6, h7, h8⟩ := hp
          have hbl : p.bl = [] := by simpa using he
          rw [hbl] at h1 h2
          match hlv : p.lv, h1 with
          | [k], _ =>
            rw [hlv] at h h2 h4 h8
            simp only [List.headD_cons] at h
            rw [← h.1]
            simp only [List.map_cons, List.map_nil, List.sum_cons, List.sum_nil, hb, cond_false, List.length_nil, Nat.add_zero] at h2
            have := h8.1
            simp only [List.length_nil] at this
            exact ⟨h4 k (by simp), by omega, by omega, by omega⟩
    | err e =>
      rw [ht] at h
      simp only [goP, stepT, Prod.mk.injEq] at h
      exact absurd h.2.2 (tokE_err _ e ht)
    | br c =>
      rw [ht] at h
      simp only [goP] at h
      cases hs : stepT p (tokL r l).2.2 (.br c) with
      | inl e =>
        rw [hs] at h
        simp only [Prod.mk.injEq] at h
        exact absurd h.2.2 (step_ne (fun e h => by cases h) (fun h => by cases h) hs)
      | inr p' =>
        rw [hs] at h
        have hi := inv_step hp (fun w d e => by cases e) hs
        have := run_wf n _ _ p' hi.1 a ln h
        exact ⟨this.1, this.2.1, this.2.2.1, by omega⟩
    | wd w d =>
      rw [ht] at h
      simp only [goP] at h
      cases hs : stepT p (tokL r l).2.2 (.wd w d) with
      | inl e =>
        rw [hs] at h
        simp only [Prod.mk.injEq] at h
        exact absurd h.2.2 (step_ne (fun e h => by cases h) (fun h => by cases h) hs)
      | inr p' =>
        rw [hs] at h
        have hi := inv_step hp (fun w' d' e => by cases e; exact tokE_wf _ w d ht) hs
        have := run_wf n _ _ p' hi.1 a ln h
        exact ⟨this.1, this.2.1, this.2.2.1, by omega⟩

theorem parse_wf {s : ByteArray} {a : List It} {ln : Int} (h : parseP s = (a, ln, 0)) : wfL a = true ∧ cntN a ≤ 600 ∧ dep a ≤ 5 := by
  unfold parseP at h
  cases hd : decide (12000 < s.size) with
  | true => rw [hd] at h; simp at h
  | false =>
    rw [hd] at h
    have := run_wf _ _ _ _ inv0 a ln h
    exact ⟨this.1, this.2.1, this.2.2.1⟩
/-- with an error there is no statement -/
theorem run_err : ∀ (n : Nat) (r : List UInt8) (l : Nat) (p : PS), (runP n r l p).2.2 ≠ 0 → (runP n r l p).1 = []
  | 0, r, l, p, h => rfl
  | n + 1, r, l, p, h => by
    simp only [runP] at h ⊢
    cases ht : (tokL r l).1 with
    | eof =>
      rw [ht] at h
      simp only [goP, endP] at h ⊢
      cases hb : p.begun with
      | true => rfl
      | false =>
        cases he : (!p.bl.isEmpty) with
        | true => rfl
        | false => simp [hb, he] at h
    | err e => rfl
    | br c =>
      rw [ht] at h
      simp only [goP] at h ⊢
      cases hs : stepT p (tokL r l).2.2 (.br c) with
      | inl e => rfl
      | inr p' => rw [hs] at h; exact run_err n _ _ p' h
    | wd w d =>
      rw [ht] at h
      simp only [goP] at h ⊢
      cases hs : stepT p (tokL r l).2.2 (.wd w d) with
      | inl e => rfl
      | inr p' => rw [hs] at h; exact run_err n _ _ p' h
theorem parse_err {s : ByteArray} (h : (parseP s).2.2 ≠ 0) : (parseP s).1 = [] := by
  unfold parseP at h ⊢
  cases hd : decide (12000 < s.size) with
  | true => rfl
  | false => rw [hd] at h; exact run_err _ _ _ _ h
theorem parse_okL (s : ByteArray) : okL (parseP s).1 = true := by
  by_cases h : (parseP s).2.2 = 0
  · have := parse_wf (s := s) (a := (parseP s).1) (ln := (parseP s).2.1) (by rw [← h])
    exact okL_wf this.1 (by omega)
  · rw [parse_err h]; simp [okL, fits]
end Go.Eb
