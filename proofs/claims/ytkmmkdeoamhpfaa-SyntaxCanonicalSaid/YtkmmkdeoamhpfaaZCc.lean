/-
  Two texts one after the other: the plain law. No condition.
-/
import Derived.Test.YtkmmkdeoamhpfaaZWf
namespace Go.Eb

/-- statements without their lines -/
def er : List It → List It
  | [] => []
  | .mk _ w b k :: r => .mk 0 w b (er k) :: er r
theorem er_app : ∀ (a b : List It), er (a ++ b) = er a ++ er b
  | [], b => by simp [er]
  | .mk l w c k :: r, b => by simp only [List.cons_append, er, er_app r b]
theorem cntN_er : ∀ l : List It, cntN (er l) = cntN l
  | [] => by simp [er]
  | .mk l w c k :: r => by simp only [er, cntN, cntN_er k, cntN_er r]

/-- fuel -/
theorem run_fuel : ∀ (n m : Nat) (r : List UInt8) (l : Nat) (p : PS), r.length < n → r.length < m → runP n r l p = runP m r l p
  | 0, m, r, l, p, h, _ => by omega
  | n + 1, 0, r, l, p, _, h => by omega
  | n + 1, m + 1, r, l, p, hn, hm => by
    obtain ⟨k1, k2, k3, k4, k5⟩ := tokL_len r l
    simp only [runP]
    cases ht : (tokL r l).1 with
    | eof => rfl
    | err e => rfl
    | br c =>
      have := k2 c ht
      simp only [goP]
      cases stepT p (tokL r l).2.2 (.br c) with
      | inl e => rfl
      | inr p' => exact run_fuel n m _ _ p' (by omega) (by omega)
    | wd w d =>
      have := k3 w d ht
      simp only [goP]
      cases stepT p (tokL r l).2.2 (.wd w d) with
      | inl e => rfl
      | inr p' => exact run_fuel n m _ _ p' (by omega) (by omega)
def run (r : List UInt8) (l : Nat) (p : PS) : List It × Int × Int := runP (r.length + 1) r l p
theorem run_of {n : Nat} {r : List UInt8} {l : Nat} {p : PS} (h : r.length < n) : runP n r l p = run r l p := run_fuel n _ r l p h (by omega)
theorem run_eq (r : List UInt8) (l : Nat) (p : PS) : run r l p = goP run p (tokL r l).2.1 (tokL r l).2.2 (tokL r l).1 := by
  obtain ⟨k1, k2, k3, k4, k5⟩ := tokL_len r l
  have e : run r l p = goP (runP r.length) p (tokL r l).2.1 (tokL r l).2.2 (tokL r l).1 := rfl
  rw [e]
  cases ht : (tokL r l).1 with
  | eof => rfl
  | err e => rfl
  | br c =>
    have := k2 c ht
    simp only [goP]
    cases stepT p (tokL r l).2.2 (.br c) with
    | inl e => rfl
    | inr p' => exact run_of (by omega)
  | wd w d =>
    have := k3 w d ht
    simp only [goP]
    cases stepT p (tokL r l).2.2 (.wd w d) with
    | inl e => rfl
    | inr p' => exact run_of (by omega)

/-- the line is only carried -/
theorem skipL_line : ∀ (b : Bool) (r : List UInt8) (l m : Nat), (skipL b r l).1 = (skipL b r m).1
  | b, [], l, m => by cases b <;> rfl
  | true, c :: r, l, m => by
    simp only [skipL]
    cases (q c == 10) with
    | true => exact skipL_line false r _ _
    | false => exact skipL_line true r _ _
  | false, c :: r, l, m => by
    simp only [skipL]
    cases (q c == 32) with
    | true => exact skipL_line false r _ _
    | false => cases (q c == 9) with
      | true => exact skipL_line false r _ _
      | false => cases (q c == 10) with
        | true => exact skipL_line false r _ _
        | false => cases (q c == 35) with
          | true => exact skipL_line true r _ _
          | false => rfl
theorem tokL_line (r : List UInt8) (l m : Nat) : (tokL r l).1 = (tokL r m).1 ∧ (tokL r l).2.1 = (tokL r m).2.1 := by
  unfold tokL
  rw [skipL_line false r l m]
  exact ⟨rfl, rfl⟩

/-- a text behind a line feed -/
theorem skipL_end : ∀ (b : Bool) (r : List UInt8) (l : Nat) (t : List UInt8), (skipL b r l).1 = [] → skipL b (r ++ 10 :: t) l = skipL false t ((skipL b r l).2 + 1)
  | true, [], l, t, _ => by simp [skipL, q]
  | false, [], l, t, _ => by simp [skipL, q]
  | true, c :: r, l, t, h => by
    simp only [skipL, List.cons_append] at h ⊢
    cases hc : (q c == 10) with
    | true => rw [hc] at h; exact skipL_end false r _ t h
    | false => rw [hc] at h; exact skipL_end true r _ t h
  | false, c :: r, l, t, h => by
    simp only [skipL, List.cons_append] at h ⊢
    cases h1 : (q c == 32) with
    | true => rw [h1] at h; exact skipL_end false r _ t h
    | false =>
      rw [h1] at h
      cases h2 : (q c == 9) with
      | true => rw [h2] at h; exact skipL_end false r _ t h
      | false =>
        rw [h2] at h
        cases h3 : (q c == 10) with
        | true => rw [h3] at h; exact skipL_end false r _ t h
        | false =>
          rw [h3] at h
          cases h4 : (q c == 35) with
          | true => rw [h4] at h; exact skipL_end true r _ t h
          | false => rw [h4] at h; simp at h
theorem skipL_mid : ∀ (b : Bool) (r : List UInt8) (l : Nat) (x : List UInt8), (skipL b r l).1 ≠ [] → skipL b (r ++ x) l = ((skipL b r l).1 ++ x, (skipL b r l).2)
  | true, [], l, x, h => by simp [skipL] at h
  | false, [], l, x, h => by simp [skipL] at h
  | true, c :: r, l, t, h => by
    simp only [skipL, List.cons_append] at h ⊢
    cases hc : (q c == 10) with
    | true => rw [hc] at h; exact skipL_mid false r _ t h
    | false => rw [hc] at h; exact skipL_mid true r _ t h
  | false, c :: r, l, t, h => by
    simp only [skipL, List.cons_append] at h ⊢
    cases h1 : (q c == 32) with
    | true => rw [h1] at h; exact skipL_mid false r _ t h
    | false =>
      rw [h1] at h
      cases h2 : (q c == 9) with
      | true => rw [h2] at h; exact skipL_mid false r _ t h
      | false =>
        rw [h2] at h
        cases h3 : (q c == 10) with
        | true => rw [h3] at h; exact skipL_mid false r _ t h
        | false =>
          rw [h3] at h
          cases h4 : (q c == 35) with
          | true => rw [h4] at h; exact skipL_mid true r _ t h
          | false => simp only [cond_false, List.cons_append]

theorem takeW_stop (p : UInt8 → Bool) {c : UInt8} (hc : p c = false) (t : List UInt8) : ∀ r : List UInt8, (r ++ c :: t).takeWhile p = r.takeWhile p ∧ (r ++ c :: t).dropWhile p = r.dropWhile p ++ c :: t
  | [] => by simp [hc]
  | d :: r => by
    obtain ⟨h1, h2⟩ := takeW_stop p hc t r
    cases h : p d with
    | true => simp [h, h1, h2]
    | false => simp [h]

theorem isQ_stop (r : List UInt8) (t : List UInt8) : isQ (r ++ 10 :: t) = isQ r := by
  cases r with
  | nil => rfl
  | cons c r => rfl
theorem isQP_stop (r : List UInt8) (t : List UInt8) : isQP (r ++ 10 :: t) = isQP r := by
  cases r with
  | nil => rfl
  | cons c r => rfl
theorem plainL_stop (r t : List UInt8) : plainL (r ++ 10 :: t) = ((plainL r).1, (plainL r).2 ++ 10 :: t) := by
  obtain ⟨h1, h2⟩ := takeW_stop pl (c := 10) (by decide) t r
  unfold plainL
  rw [h1, h2, isQ_stop]
  cases decide (120 < (r.takeWhile pl).length) <;> cases isQ (r.dropWhile pl) <;> rfl
theorem quotL_stop (r t : List UInt8) (h : ∀ e, (quotL r).1 ≠ .err e) : quotL (r ++ 10 :: t) = ((quotL r).1, (quotL r).2 ++ 10 :: t) := by
  obtain ⟨h1, h2⟩ := takeW_stop qok (c := 10) (by decide) t r
  unfold quotL at h ⊢
  rw [h1, h2]
  cases hd : r.dropWhile qok with
  | nil => rw [hd] at h; exact absurd rfl (h 6)
  | cons c r' =>
    rw [hd] at h
    simp only [List.cons_append, quotE, isQP_stop]
    cases (q c == 34) <;> cases decide (120 < (r.takeWhile qok).length) <;> cases isQP r' <;> rfl
/-- a token of the first text -/
theorem tokL_mid (r : List UInt8) (l : Nat) (t : List UInt8) (h : ∀ e, (tokL r l).1 ≠ .err e) (h0 : (tokL r l).1 ≠ .eof) : tokL (r ++ 10 :: t) l = ((tokL r l).1, (tokL r l).2.1 ++ 10 :: t, (tokL r l).2.2) := by
  have hne : (skipL false r l).1 ≠ [] := fun e => by
    apply h0
    unfold tokL
    rw [e]; rfl
  unfold tokL at h h0 ⊢
  rw [skipL_mid false r l _ hne]
  simp only at h h0 ⊢
  generalize (skipL false r l).1 = x at *
  cases x with
  | nil => exact absurd rfl hne
  | cons c x =>
    simp only [List.cons_append, tokE] at h h0 ⊢
    cases h1 : (q c == 123 || q c == 125 || q c == 59) with
    | true => rfl
    | false =>
      rw [h1] at h h0
      cases h2 : (q c == 34) with
      | true =>
        rw [h2] at h
        simp only [cond_true, cond_false] at h ⊢
        rw [quotL_stop x t h]
      | false =>
        rw [h2] at h
        cases h3 : plainQ (q c) with
        | true =>
          simp only [cond_true, cond_false]
          rw [← List.cons_append, plainL_stop]
        | false => rw [h3] at h; exact absurd rfl (h 5)
/-- the end of the first text -/
theorem tokL_end (r : List UInt8) (l : Nat) (t : List UInt8) (h : (tokL r l).1 = .eof) : tokL (r ++ 10 :: t) l = tokL t ((tokL r l).2.2 + 1) := by
  have he : (skipL false r l).1 = [] := by
    unfold tokL at h
    simp only at h
    generalize (skipL false r l).1 = x at *
    cases x with
    | nil => rfl
    | cons c x =>
      exfalso
      simp only [tokE] at h
      cases h1 : (q c == 123 || q c == 125 || q c == 59) with
      | true => rw [h1] at h; cases h
      | false =>
        rw [h1] at h
        cases h2 : (q c == 34) with
        | true =>
          rw [h2] at h
          simp only [cond_true, cond_false, quotL] at h
          cases hd : x.dropWhile qok with
          | nil => rw [hd] at h; cases h
          | cons c' r' =>
            rw [hd] at h
            simp only [quotE] at h
            cases h3 : (q c' == 34) <;> cases h4 : decide (120 < (x.takeWhile qok).length) <;> cases h5 : isQP r' <;> simp only [h3, h4, h5, cond_true, cond_false, reduceCtorEq] at h
        | false =>
          rw [h2] at h
          cases h3 : plainQ (q c) with
          | true =>
            rw [h3] at h
            simp only [cond_true, cond_false, plainL] at h
            cases h4 : decide (120 < ((c :: x).takeWhile pl).length) <;> cases h5 : isQ ((c :: x).dropWhile pl) <;> simp only [h4, h5, cond_true, cond_false, reduceCtorEq] at h
          | false => rw [h3] at h; cases h
  unfold tokL
  rw [skipL_end false r l t he]

/-- the first text leaves the parser between statements -/
theorem run_first : ∀ (n : Nat) (r : List UInt8) (l : Nat) (p : PS) (a : List It) (ln : Int), r.length < n → Inv p → run r l p = (a, ln, 0) →
    ∃ p' l', Inv p' ∧ p'.begun = false ∧ p'.bl = [] ∧ p'.lv = [a] ∧ ∀ t, run (r ++ 10 :: t) l p = run t l' p'
  | 0, r, l, p, a, ln, h, _, _ => by omega
  | n + 1, r, l, p, a, ln, hn, hp, h => by
    obtain ⟨k1, k2, k3, k4, k5⟩ := tokL_len r l
    have heq := run_eq r l p
    rw [h] at heq
    cases ht : (tokL r l).1 with
    | eof =>
      rw [ht] at heq
      simp only [goP, endP] at heq
      cases hb : p.begun with
      | true => simp [hb] at heq
      | false =>
        cases he : (!p.bl.isEmpty) with
        | true => simp [hb, he] at heq
        | false =>
          simp only [hb, he, cond_false, Prod.mk.injEq] at heq
          have hbl : p.bl = [] := by simpa using he
          have h1 := hp.len
          rw [hbl] at h1
          refine ⟨p, (tokL r l).2.2 + 1, hp, hb, hbl, ?_, fun t => ?_⟩
          · match hlv : p.lv, h1 with
            | [k], _ => rw [hlv] at heq; simp only [List.headD_cons] at heq; rw [heq.1]
          · rw [run_eq, run_eq t, tokL_end r l t ht]
    | err e =>
      rw [ht] at heq
      simp only [goP, stepT, Prod.mk.injEq] at heq
      exact absurd heq.2.2.symm (tokE_err _ e ht)
    | br c =>
      rw [ht] at heq
      simp only [goP] at heq
      have hm := fun t => tokL_mid r l t (by rw [ht]; intro e h; cases h) (by rw [ht]; intro h; cases h)
      cases hs : stepT p (tokL r l).2.2 (.br c) with
      | inl e =>
        rw [hs] at heq
        simp only [Prod.mk.injEq] at heq
        exact absurd heq.2.2.symm (step_ne (fun e h => by cases h) (fun h => by cases h) hs)
      | inr p' =>
        rw [hs] at heq
        have hi := inv_step hp (fun w d e => by cases e) hs
        have := k2 c ht
        obtain ⟨p2, l2, j1, j2, j3, j4, j5⟩ := run_first n _ _ p' a ln (by omega) hi.1 heq.symm
        refine ⟨p2, l2, j1, j2, j3, j4, fun t => ?_⟩
        rw [run_eq, hm t, ht]
        simp only [goP, hs]
        exact j5 t
    | wd w d =>
      rw [ht] at heq
      simp only [goP] at heq
      have hm := fun t => tokL_mid r l t (by rw [ht]; intro e h; cases h) (by rw [ht]; intro h; cases h)
      cases hs : stepT p (tokL r l).2.2 (.wd w d) with
      | inl e =>
        rw [hs] at heq
        simp only [Prod.mk.injEq] at heq
        exact absurd heq.2.2.symm (step_ne (fun e h => by cases h) (fun h => by cases h) hs)
      | inr p' =>
        rw [hs] at heq
        have hi := inv_step hp (fun w' d' e => by cases e; exact tokE_wf _ w d ht) hs
        have := k3 w d ht
        obtain ⟨p2, l2, j1, j2, j3, j4, j5⟩ := run_first n _ _ p' a ln (by omega) hi.1 heq.symm
        refine ⟨p2, l2, j1, j2, j3, j4, fun t => ?_⟩
        rw [run_eq, hm t, ht]
        simp only [goP, hs]
        exact j5 t

/-- statements ahead of the outermost level -/
def addB (a : List It) : List (List It) → List (List It)
  | [] => []
  | [k] => [a ++ k]
  | k :: r => k :: addB a r
theorem addB_cons (a k u : List It) (r : List (List It)) : addB a (k :: u :: r) = k :: addB a (u :: r) := rfl
theorem addB_addL (a : List It) (x : It) : ∀ lv : List (List It), addB a (addL x lv) = addL x (addB a lv)
  | [] => rfl
  | [k] => by simp [addB, addL]
  | k :: u :: r => by simp [addB, addL]
def erx : It → It | .mk _ w b k => .mk 0 w b (er k)
theorem er_one (x : It) : er [x] = [erx x] := by cases x; simp [er, erx]
theorem er_addL (x : It) : ∀ lv : List (List It), (addL x lv).map er = addL (erx x) (lv.map er)
  | [] => rfl
  | k :: r => by simp [addL, er_app, er_one]

/-- the same but for lines, c0 statements and what lies ahead -/
structure Twin (a : List It) (c0 : Nat) (p p' : PS) : Prop where
  cnt : p'.count = p.count + c0
  bg : p'.begun = p.begun
  ws : p.begun = true → p'.ws = p.ws
  bl : p'.bl.map (·.2) = p.bl.map (·.2)
  lv : p'.lv.map er = addB (er a) (p.lv.map er)

theorem addB_ne {a : List It} : ∀ {lv : List (List It)}, lv ≠ [] → ∀ k, addB a (k :: lv) = k :: addB a lv
  | [], h, _ => absurd rfl h
  | _ :: _, _, _ => rfl

theorem twin_step {a : List It} {c0 : Nat} {p p' p2 : PS} {l l' : Nat} {t : Tok} (hp : Inv p) (hT : Twin a c0 p p') (h : stepT p l t = .inr p2) (hc : p2.count + c0 ≤ 600) : ∃ p2', stepT p' l' t = .inr p2' ∧ Twin a c0 p2 p2' := by
  obtain ⟨t1, t2, t3, t4, t5⟩ := hT
  have hlen : p'.bl.length = p.bl.length := by have := congrArg List.length t4; simpa using this
  cases t with
  | eof => cases h
  | err e => cases h
  | wd w d =>
    simp only [stepT, stepW] at h ⊢
    rw [t2]
    cases hb : p.begun with
    | false =>
      simp only [hb, Bool.not_false, cond_true] at h ⊢
      cases ho : opW ⟨⟨w.toArray⟩, d⟩ with
      | false => simp only [ho, Bool.not_false, cond_true, reduceCtorEq] at h
      | true =>
        cases hc6 : (p.count == 600) with
        | true => simp only [ho, hc6, Bool.not_true, cond_false, cond_true, reduceCtorEq] at h
        | false =>
          simp only [ho, hc6, Bool.not_true, cond_false, Sum.inr.injEq] at h ⊢
          subst h
          simp only at hc
          have hne : (p'.count == 600) = false := by simp; omega
          rw [hne]
          exact ⟨_, rfl, ⟨by simp only; omega, rfl, fun _ => rfl, t4, t5⟩⟩
    | true =>
      simp only [hb, Bool.not_true, cond_false] at h ⊢
      rw [t3 hb]
      cases hc6 : (p.ws.length == 40) with
      | true => simp only [hc6, cond_true, reduceCtorEq] at h
      | false =>
        simp only [hc6, cond_false, Sum.inr.injEq] at h ⊢
        subst h
        exact ⟨_, rfl, ⟨t1, rfl, fun _ => rfl, t4, t5⟩⟩
  | br c =>
    simp only [stepT, stepB] at h ⊢
    rw [t2]
    cases h59 : (q c == 59) with
    | true =>
      simp only [h59, cond_true] at h ⊢
      cases hb : p.begun with
      | false => simp only [hb, Bool.not_false, cond_true, reduceCtorEq] at h
      | true =>
        simp only [hb, Bool.not_true, cond_false, Sum.inr.injEq] at h ⊢
        subst h
        refine ⟨_, rfl, ⟨t1, rfl, (fun h => by cases h), t4, ?_⟩⟩
        simp only [er_addL, t5, addB_addL, t3 hb, erx]
    | false =>
      simp only [h59, cond_false] at h ⊢
      cases h123 : (q c == 123) with
      | true =>
        simp only [h123, cond_true] at h ⊢
        cases hb : p.begun with
        | false => simp only [hb, Bool.not_false, cond_true, reduceCtorEq] at h
        | true =>
          rw [hlen]
          cases hd : decide (4 < p.bl.length + 1) with
          | true => simp only [hb, hd, Bool.not_true, cond_false, cond_true, reduceCtorEq] at h
          | false =>
            simp only [hb, hd, Bool.not_true, cond_false, Sum.inr.injEq] at h ⊢
            subst h
            refine ⟨_, rfl, ⟨t1, rfl, (fun h => by cases h), by simp [t4, t3 hb], ?_⟩⟩
            have hne : p.lv.map er ≠ [] := by
              have hl := hp.len
              intro e
              have e2 := congrArg List.length e
              rw [List.length_map, hl] at e2
              simp at e2
            simp only [List.map_cons, t5]
            rw [addB_ne hne]
      | false =>
        simp only [h123, cond_false] at h ⊢
        cases hb : p.begun with
        | true => simp only [hb, cond_true, reduceCtorEq] at h
        | false =>
          simp only [hb, cond_false, closeP] at h ⊢
          split at h
          · rename_i b ws bl k lv e1 e2
            simp only [Sum.inr.injEq] at h
            subst h
            have hl := hp.len
            rw [e1, e2] at hl
            rw [e1] at t4
            rw [e2] at t5
            cases lv with
            | nil => simp at hl
            | cons u r =>
              cases hb' : p'.bl with
              | nil => rw [hb'] at t4; simp at t4
              | cons b2 bl2 =>
                cases hl' : p'.lv with
                | nil => rw [hl'] at t5; simp [addB] at t5
                | cons k2 lv2 =>
                  rw [hb'] at t4
                  rw [hl'] at t5
                  simp only [List.map_cons, List.cons.injEq, addB_cons] at t4 t5
                  obtain ⟨b2l, b2w⟩ := b2
                  simp only at t4
                  refine ⟨_, rfl, ⟨t1, rfl, (fun h => by cases h), t4.2, ?_⟩⟩
                  simp only [er_addL]
                  rw [t5.2, ← List.map_cons, ← addB_addL]
                  congr 1
                  simp only [List.map_cons, erx, t4.1, t5.1]
          · cases h

theorem run_twin {a : List It} {c0 : Nat} : ∀ (n : Nat) (r : List UInt8) (l l' : Nat) (p p' : PS) (b : List It) (ln : Int), r.length < n → Inv p → Twin a c0 p p' → run r l p = (b, ln, 0) → c0 + cntN b ≤ 600 →
    ∃ x ln', run r l' p' = (x, ln', 0) ∧ er x = er (a ++ b)
  | 0, r, l, l', p, p', b, ln, h, _, _, _, _ => by omega
  | n + 1, r, l, l', p, p', b, ln, hn, hp, hT, h, hc => by
    obtain ⟨k1, k2, k3, k4, k5⟩ := tokL_len r l
    obtain ⟨q1, q2⟩ := tokL_line r l' l
    have heq := run_eq r l p
    rw [h] at heq
    rw [run_eq r l' p', q1, q2]
    cases ht : (tokL r l).1 with
    | eof =>
      rw [ht] at heq
      simp only [goP, endP] at heq ⊢
      cases hb : p.begun with
      | true => simp [hb] at heq
      | false =>
        cases he : (!p.bl.isEmpty) with
        | true => simp [hb, he] at heq
        | false =>
          simp only [hb, he, cond_false, Prod.mk.injEq] at heq
          have hbl : p.bl = [] := by simpa using he
          have hbl' : p'.bl = [] := by have := hT.bl; rw [hbl] at this; simpa using this
          have h1 := hp.len
          rw [hbl] at h1
          rw [hT.bg, hb, hbl']
          have h5 := hT.lv
          match hlv : p.lv, h1 with
          | [k], _ =>
            rw [hlv] at heq h5
            simp only [List.headD_cons] at heq
            match hlv' : p'.lv, h5 with
            | [k'], h5 =>
              simp [addB] at h5
              refine ⟨k', 0, rfl, ?_⟩
              rw [h5, er_app, heq.1]
            | [], h5 => simp [addB] at h5
            | _ :: _ :: _, h5 => simp [addB] at h5
    | err e =>
      rw [ht] at heq
      simp only [goP, stepT, Prod.mk.injEq] at heq
      exact absurd heq.2.2.symm (tokE_err _ e ht)
    | br c =>
      rw [ht] at heq
      simp only [goP] at heq ⊢
      cases hs : stepT p (tokL r l).2.2 (.br c) with
      | inl e =>
        rw [hs] at heq
        simp only [Prod.mk.injEq] at heq
        exact absurd heq.2.2.symm (step_ne (fun e h => by cases h) (fun h => by cases h) hs)
      | inr p2 =>
        rw [hs] at heq
        have hi := inv_step hp (fun w d e => by cases e) hs
        have hw := run_wf _ _ _ p2 hi.1 b ln heq.symm
        obtain ⟨p2', s1, s2⟩ := twin_step (l' := (tokL r l').2.2) hp hT hs (by omega)
        rw [s1]
        have := k2 c ht
        exact run_twin n _ _ _ p2 p2' b ln (by omega) hi.1 s2 heq.symm hc
    | wd w d =>
      rw [ht] at heq
      simp only [goP] at heq ⊢
      cases hs : stepT p (tokL r l).2.2 (.wd w d) with
      | inl e =>
        rw [hs] at heq
        simp only [Prod.mk.injEq] at heq
        exact absurd heq.2.2.symm (step_ne (fun e h => by cases h) (fun h => by cases h) hs)
      | inr p2 =>
        rw [hs] at heq
        have hi := inv_step hp (fun w' d' e => by cases e; exact tokE_wf _ w d ht) hs
        have hw := run_wf _ _ _ p2 hi.1 b ln heq.symm
        obtain ⟨p2', s1, s2⟩ := twin_step (l' := (tokL r l').2.2) hp hT hs (by omega)
        rw [s1]
        have := k3 w d ht
        exact run_twin n _ _ _ p2 p2' b ln (by omega) hi.1 s2 heq.symm hc

/-- two texts -/
theorem parse_two {s t st : ByteArray} {a b : List It} {n m : Int} (hst : st.data.toList = s.data.toList ++ 10 :: t.data.toList) (hsz : st.size ≤ 12000) (hs : parseP s = (a, n, 0)) (ht : parseP t = (b, m, 0)) (hc : cntN a + cntN b ≤ 600) :
    ∃ x k, parseP st = (x, k, 0) ∧ er x = er (a ++ b) := by
  have hsz1 : s.data.toList.length = s.size := by simp
  have hsz2 : t.data.toList.length = t.size := by simp
  have hsz3 : st.data.toList.length = st.size := by simp
  have hlen : st.size = s.size + t.size + 1 := by rw [← hsz1, ← hsz2, ← hsz3, hst]; simp; omega
  unfold parseP at hs ht ⊢
  rw [decide_eq_false (by omega)] at hs ht ⊢
  simp only [cond_false] at hs ht ⊢
  rw [run_of (by omega)] at hs ht ⊢
  obtain ⟨p', l', j1, j2, j3, j4, j5⟩ := run_first _ _ _ _ a n (Nat.lt_succ_self _) inv0 hs
  rw [hst, j5]
  have hcnt := j1.cnt
  rw [j2, j3, j4] at hcnt
  simp at hcnt
  refine run_twin (a := a) (c0 := cntN a) _ _ 1 l' ps0 p' b m (Nat.lt_succ_self _) inv0 ⟨by rw [hcnt]; simp [ps0], j2, (fun h => by cases h), by rw [j3]; rfl, by rw [j4]; simp [ps0, addB, er]⟩ ht (by omega)
end Go.Eb
