/-
  The text of statements is parsed to them: the plain law. No condition.
-/
import Derived.Test.YtkmmkdeoamhpfaaZCc
namespace Go.Eb

/-- the depth of blocks -/
def bdep : List It → Nat
  | [] => 0
  | .mk _ _ b k :: r => max (bif b then 1 + bdep k else 0) (bdep r)
theorem bdep_app : ∀ (a b : List It), bdep (a ++ b) = max (bdep a) (bdep b)
  | [], b => by simp [bdep]
  | .mk l w c k :: r, b => by simp only [List.cons_append, bdep, bdep_app r b]; omega
def bdOk : List (List It) → Prop
  | [] => True
  | k :: r => bdep k + r.length ≤ 4 ∧ bdOk r

theorem bd_step {p p' : PS} {l : Nat} {t : Tok} (hp : Inv p) (hd : bdOk p.lv) (h : stepT p l t = .inr p') : bdOk p'.lv := by
  obtain ⟨h1, h2, h3, h4, h5, h6, h7, h8⟩ := hp
  cases t with
  | eof => cases h
  | err e => cases h
  | wd w d =>
    simp only [stepT, stepW] at h
    cases hb : p.begun with
    | false =>
      simp only [hb, Bool.not_false, cond_true] at h
      cases ho : opW ⟨⟨w.toArray⟩, d⟩ with
      | false => simp only [ho, Bool.not_false, cond_true, reduceCtorEq] at h
      | true =>
        cases hc : (p.count == 600) with
        | true => simp only [ho, hc, Bool.not_true, cond_false, cond_true, reduceCtorEq] at h
        | false => simp only [ho, hc, Bool.not_true, cond_false, Sum.inr.injEq] at h; subst h; exact hd
    | true =>
      simp only [hb, Bool.not_true, cond_false] at h
      cases hc : (p.ws.length == 40) with
      | true => simp only [hc, cond_true, reduceCtorEq] at h
      | false => simp only [hc, cond_false, Sum.inr.injEq] at h; subst h; exact hd
  | br c =>
    simp only [stepT, stepB] at h
    cases h59 : (q c == 59) with
    | true =>
      simp only [h59, cond_true] at h
      cases hb : p.begun with
      | false => simp only [hb, Bool.not_false, cond_true, reduceCtorEq] at h
      | true =>
        simp only [hb, Bool.not_true, cond_false, Sum.inr.injEq] at h
        subst h
        cases hlv : p.lv with
        | nil => rw [hlv] at h1; simp at h1
        | cons k r =>
          rw [hlv] at h1 hd
          simp only [addL, bdOk, bdep_app, bdep, cond_false] at hd ⊢
          exact ⟨by omega, hd.2⟩
    | false =>
      simp only [h59, cond_false] at h
      cases h123 : (q c == 123) with
      | true =>
        simp only [h123, cond_true] at h
        cases hb : p.begun with
        | false => simp only [hb, Bool.not_false, cond_true, reduceCtorEq] at h
        | true =>
          cases hd4 : decide (4 < p.bl.length + 1) with
          | true => simp only [hb, hd4, Bool.not_true, cond_false, cond_true, reduceCtorEq] at h
          | false =>
            simp only [hb, hd4, Bool.not_true, cond_false, Sum.inr.injEq] at h
            subst h
            have hd' : p.bl.length + 1 ≤ 4 := by simpa using hd4
            exact ⟨by simp only [bdep]; omega, hd⟩
      | false =>
        simp only [h123, cond_false] at h
        cases hb : p.begun with
        | true => simp only [hb, cond_true, reduceCtorEq] at h
        | false =>
          simp only [hb, cond_false, closeP] at h
          split at h
          · rename_i b ws bl k lv e1 e2
            simp only [Sum.inr.injEq] at h
            subst h
            rw [e2] at hd h1
            rw [e1] at h1
            cases lv with
            | nil => simp at h1
            | cons u r =>
              simp only [bdOk, List.length_cons] at hd
              simp only [addL, bdOk, bdep_app, bdep, cond_true]
              obtain ⟨d1, d2, d3⟩ := hd
              exact ⟨by omega, d3⟩
          · cases h

theorem run_bd : ∀ (n : Nat) (r : List UInt8) (l : Nat) (p : PS), Inv p → bdOk p.lv → ∀ a ln, runP n r l p = (a, ln, 0) → bdep a ≤ 4
  | 0, r, l, p, _, _, a, ln, h => by simp [runP] at h
  | n + 1, r, l, p, hp, hd, a, ln, h => by
    simp only [runP] at h
    cases ht : (tokL r l).1 with
    | eof =>
      rw [ht] at h
      simp only [goP, endP] at h
      cases hb : p.begun with
      | true => simp [hb] at h
      | false =>
        cases he : (!p.bl.isEmpty) with
        | true => simp [hb, he] at h
        | false =>
          simp only [hb, he, cond_false, Prod.mk.injEq] at h
          have hbl : p.bl = [] := by simpa using he
          have h1 := hp.len
          rw [hbl] at h1
          match hlv : p.lv, h1 with
          | [k], _ =>
            rw [hlv] at h hd
            simp only [List.headD_cons] at h
            rw [← h.1]
            have := hd.1
            simp only [List.length_nil] at this
            omega
    | err e =>
      rw [ht] at h
      simp only [goP, stepT, Prod.mk.injEq] at h
      exact absurd h.2.2 (tokE_err _ e ht)
    | br c =>
      rw [ht] at h
      simp only [goP] at h
      cases hs : stepT p (tokL r l).2.2 (.br c) with
      | inl e =>
        rw [hs] at h
        simp only [Prod.mk.injEq] at h
        exact absurd h.2.2 (step_ne (fun e h => by cases h) (fun h => by cases h) hs)
      | inr p' =>
        rw [hs] at h
        exact run_bd n _ _ p' (inv_step hp (fun w d e => by cases e) hs).1 (bd_step hp hd hs) a ln h
    | wd w d =>
      rw [ht] at h
      simp only [goP] at h
      cases hs : stepT p (tokL r l).2.2 (.wd w d) with
      | inl e =>
        rw [hs] at h
        simp only [Prod.mk.injEq] at h
        exact absurd h.2.2 (step_ne (fun e h => by cases h) (fun h => by cases h) hs)
      | inr p' =>
        rw [hs] at h
        exact run_bd n _ _ p' (inv_step hp (fun w' d' e => by cases e; exact tokE_wf _ w d ht) hs).1 (bd_step hp hd hs) a ln h
theorem parse_bd {s : ByteArray} {a : List It} {ln : Int} (h : parseP s = (a, ln, 0)) : bdep a ≤ 4 := by
  unfold parseP at h
  cases hd : decide (12000 < s.size) with
  | true => rw [hd] at h; simp at h
  | false =>
    rw [hd] at h
    exact run_bd _ _ _ _ inv0 (by simp [ps0, bdOk, bdep]) a ln h

/-! the text -/
def wdB (w : Wd) : List UInt8 := bif w.q then 34 :: (w.text.data.toList ++ [34]) else w.text.data.toList
def wtB : Bool → List Wd → List UInt8
  | _, [] => []
  | s, w :: r => (bif s then [32] else []) ++ (wdB w ++ wtB true r)
def fmB (ind : List UInt8) : List It → List UInt8
  | [] => []
  | .mk _ w b k :: r => ind ++ (wtB false w ++ ((bif b then 32 :: 123 :: 10 :: (fmB (ind ++ [32, 32]) k ++ (ind ++ [125, 10])) else [59, 10]) ++ fmB ind r))
theorem fmB_er : ∀ (l : List It) (ind : List UInt8), fmB ind (er l) = fmB ind l
  | [], ind => by simp [er]
  | .mk l w b k :: r, ind => by simp only [er, fmB, fmB_er k, fmB_er r]

/-- a word ends here -/
def delim : List UInt8 → Bool
  | [] => false
  | c :: _ => !pl c && !(q c == 34)
theorem delim_isQ {Y : List UInt8} (h : delim Y = true) : isQ Y = false ∧ isQP Y = false := by
  cases Y with
  | nil => exact ⟨rfl, rfl⟩
  | cons c r =>
    simp only [delim, Bool.and_eq_true, Bool.not_eq_true'] at h
    refine ⟨h.2, ?_⟩
    show (bif q c == 34 then true else plainQ (q c)) = false
    rw [h.2]
    exact h.1
theorem take_all (p : UInt8 → Bool) {c : UInt8} (hc : p c = false) (t : List UInt8) : ∀ r : List UInt8, r.all p = true → (r ++ c :: t).takeWhile p = r ∧ (r ++ c :: t).dropWhile p = c :: t
  | [], _ => by simp [hc]
  | d :: r, h => by
    simp only [List.all_cons, Bool.and_eq_true] at h
    obtain ⟨h1, h2⟩ := take_all p hc t r h.2
    simp [h.1, h1, h2]
theorem skip_blank : ∀ (ind Z : List UInt8) (l : Nat), ind.all (fun c => q c == 32) = true → skipL false (ind ++ Z) l = skipL false Z l
  | [], Z, l, _ => rfl
  | c :: r, Z, l, h => by
    simp only [List.all_cons, Bool.and_eq_true] at h
    simp only [List.cons_append, skipL, h.1, cond_true]
    exact skip_blank r Z l h.2

theorem tok_word {w : Wd} (hw : wfW w = true) {Y : List UInt8} (hY : delim Y = true) (l : Nat) : tokL (wdB w ++ Y) l = (.wd w.text.data.toList w.q, Y, l) := by
  obtain ⟨h1, h2⟩ := delim_isQ hY
  unfold wfW at hw
  simp only [Bool.and_eq_true, decide_eq_true_eq] at hw
  obtain ⟨hsz, hw⟩ := hw
  have hlen : ¬ 120 < w.text.data.toList.length := by
    have : w.text.data.toList.length = w.text.size := by simp
    omega
  unfold wdB
  cases hq : w.q with
  | true =>
    rw [hq] at hw
    simp only [cond_true] at hw ⊢
    have e : skipL false ((34 :: (w.text.data.toList ++ [34])) ++ Y) l = ((34 :: (w.text.data.toList ++ [34])) ++ Y, l) := rfl
    unfold tokL
    rw [e]
    obtain ⟨t1, t2⟩ := take_all qok (c := 34) (by decide) Y w.text.data.toList hw
    have e2 : tokE ((34 :: (w.text.data.toList ++ [34])) ++ Y) = quotL (w.text.data.toList ++ 34 :: Y) := by
      have : (34 :: (w.text.data.toList ++ [34])) ++ Y = 34 :: (w.text.data.toList ++ 34 :: Y) := by simp
      rw [this]; rfl
    have e3 : quotL (w.text.data.toList ++ 34 :: Y) = (.wd w.text.data.toList true, Y) := by
      unfold quotL
      rw [t1, t2]
      simp only [quotE, decide_eq_false hlen, h2, cond_false]
      rfl
    simp only [e2, e3]
  | false =>
    rw [hq] at hw
    simp only [cond_false, Bool.and_eq_true, Bool.not_eq_true'] at hw ⊢
    generalize w.text.data.toList = b at *
    cases b with
    | nil => simp at hw
    | cons c r =>
      have hc : plainQ (q c) = true := by have := hw.2; simp only [List.all_cons, Bool.and_eq_true] at this; exact this.1
      have hall := hw.2
      cases Y with
      | nil => simp [delim] at hY
      | cons y Y' =>
        simp only [delim, Bool.and_eq_true, Bool.not_eq_true'] at hY
        obtain ⟨t1, t2⟩ := take_all pl hY.1 Y' (c :: r) hall
        have n : ∀ m : Int, plainQ m = false → (q c == m) = false := fun m hm => by
          cases hx : (q c == m) with
          | false => rfl
          | true => rw [beq_iff_eq] at hx; rw [hx, hm] at hc; cases hc
        have e : skipL false ((c :: r) ++ y :: Y') l = ((c :: r) ++ y :: Y', l) := by
          simp only [List.cons_append, skipL, n 32 rfl, n 9 rfl, n 10 rfl, n 35 rfl, cond_false]
        unfold tokL
        rw [e]
        have e2 : tokE ((c :: r) ++ y :: Y') = plainL ((c :: r) ++ y :: Y') := by
          simp only [List.cons_append, tokE, n 123 rfl, n 125 rfl, n 59 rfl, n 34 rfl, hc, Bool.or_self, cond_true, cond_false]
        have e3 : plainL ((c :: r) ++ y :: Y') = (.wd (c :: r) false, y :: Y') := by
          unfold plainL
          rw [t1, t2, decide_eq_false hlen, h1]
          rfl
        simp only [e2, e3]

theorem run_blank {ind Z : List UInt8} (h : ind.all (fun c => q c == 32) = true) (l : Nat) (p : PS) : run (ind ++ Z) l p = run Z l p := by
  have e : tokL (ind ++ Z) l = tokL Z l := by unfold tokL; rw [skip_blank ind Z l h]
  rw [run_eq, run_eq Z, e]
theorem run_nl (Z : List UInt8) (l : Nat) (p : PS) : run (10 :: Z) l p = run Z (l + 1) p := by
  have e : tokL (10 :: Z) l = tokL Z (l + 1) := rfl
  rw [run_eq, run_eq Z, e]
theorem run_br {c : UInt8} (hc : tokL (c :: []) 0 = (.br c, [], 0)) (Z : List UInt8) (l : Nat) (p p' : PS) (he : ∀ Z l, tokL (c :: Z) l = (.br c, Z, l)) (hs : stepB p c = .inr p') : run (c :: Z) l p = run Z l p' := by
  rw [run_eq, he]
  simp only [goP, stepT, hs]

theorem wtB_delim {ws : List Wd} {X : List UInt8} (h : delim X = true) : delim (wtB true ws ++ X) = true := by
  cases ws with
  | nil => exact h
  | cons w r => rfl
theorem wd_eq (w : Wd) : (⟨⟨w.text.data.toList.toArray⟩, w.q⟩ : Wd) = w := by cases w; rfl
theorem run_words {X : List UInt8} (hX : delim X = true) (l : Nat) (c : Nat) (lv : List (List It)) (bl : List (Int × List Wd)) (ln : Int) : ∀ (vs us : List Wd), us.length + vs.length ≤ 40 → vs.all wfW = true →
    run (wtB true vs ++ X) l ⟨c, lv, bl, true, ln, us⟩ = run X l ⟨c, lv, bl, true, ln, us ++ vs⟩
  | [], us, _, _ => by simp [wtB]
  | v :: vs, us, h, hw => by
    simp only [List.all_cons, Bool.and_eq_true] at hw
    simp only [List.length_cons] at h
    have e : wtB true (v :: vs) ++ X = [32] ++ (wdB v ++ (wtB true vs ++ X)) := by simp [wtB]
    rw [e, run_blank rfl, run_eq, tok_word hw.1 (wtB_delim hX)]
    have hne : (us.length == 40) = false := by simp; omega
    simp only [goP, stepT, stepW, Bool.not_true, cond_false, hne, wd_eq]
    rw [run_words hX l c lv bl ln vs (us ++ [v]) (by simp; omega) hw.2]
    simp
theorem run_stmt {X : List UInt8} (hX : delim X = true) (l : Nat) (p : PS) (ws : List Wd) (hw : wfWs ws = true) (hb : p.begun = false) (hc : p.count ≠ 600) :
    run (wtB false ws ++ X) l p = run X l ⟨p.count + 1, p.lv, p.bl, true, l, ws⟩ := by
  unfold wfWs at hw
  simp only [Bool.and_eq_true, decide_eq_true_eq] at hw
  obtain ⟨⟨h1, h2⟩, h3⟩ := hw
  cases ws with
  | nil => cases h3
  | cons w r =>
    simp only [List.all_cons, Bool.and_eq_true] at h2
    simp only [List.length_cons] at h1
    have e : wtB false (w :: r) ++ X = wdB w ++ (wtB true r ++ X) := by simp [wtB]
    rw [e, run_eq, tok_word h2.1 (wtB_delim hX)]
    have hne : (p.count == 600) = false := by simpa using hc
    simp only [goP, stepT, stepW, hb, Bool.not_false, cond_true, wd_eq, h3, Bool.not_true, cond_false, hne]
    rw [run_words hX l _ _ _ _ r [w] (by simp; omega) h2.2]
    rfl

theorem rt : ∀ (l : List It) (ind : List UInt8), ind.all (fun c => q c == 32) = true → wfL l = true → ∀ (p : PS) (top : List It) (rest : List (List It)), p.lv = top :: rest → p.begun = false → p.count + cntN l ≤ 600 → p.bl.length + bdep l ≤ 4 →
    ∀ (ln : Nat) (r : List UInt8), ∃ ln' l' p', run (fmB ind l ++ r) ln p = run r ln' p' ∧ er l' = er l ∧ p'.lv = (top ++ l') :: rest ∧ p'.count = p.count + cntN l ∧ p'.bl = p.bl ∧ p'.begun = false
  | [], ind, hi, hw, p, top, rest, hp, hb, hc, hd, ln, r => ⟨ln, [], p, by simp [fmB], rfl, by simp [hp], by simp [cntN], rfl, hb⟩
  | .mk a ws b k :: tl, ind, hi, hw, p, top, rest, hp, hb, hc, hd, ln, r => by
    simp only [wfL, Bool.and_eq_true] at hw
    obtain ⟨⟨⟨w1, w2⟩, w3⟩, w4⟩ := hw
    simp only [cntN, bdep] at hc hd
    have hi2 : (ind ++ [32, 32]).all (fun c => q c == 32) = true := by simp only [List.all_append, hi, Bool.true_and]; rfl
    cases b with
    | false =>
      have hk : k = [] := by simpa using w2
      subst hk
      simp only [cntN, cond_false] at hc hd
      have e : fmB ind (.mk a ws false [] :: tl) ++ r = ind ++ (wtB false ws ++ (59 :: 10 :: (fmB ind tl ++ r))) := by simp [fmB]
      rw [e, run_blank hi, run_stmt rfl ln p ws w1 hb (by omega)]
      rw [run_br (c := 59) rfl _ _ _ ⟨p.count + 1, addL (.mk ln ws false []) p.lv, p.bl, false, 0, []⟩ (fun _ _ => rfl) rfl, run_nl]
      obtain ⟨ln', l', p', j1, j2, j3, j4, j5, j6⟩ := rt tl ind hi w4 ⟨p.count + 1, addL (.mk ln ws false []) p.lv, p.bl, false, 0, []⟩ (top ++ [.mk ln ws false []]) rest (by rw [hp]; rfl) rfl (by simp only; omega) (by simp only; omega) (ln + 1) r
      refine ⟨ln', .mk ln ws false [] :: l', p', j1, by simp only [er, j2], by rw [j3]; simp, by rw [j4]; simp only [cntN]; omega, j5, j6⟩
    | true =>
      simp only [cond_true] at hd
      have e : fmB ind (.mk a ws true k :: tl) ++ r = ind ++ (wtB false ws ++ (32 :: 123 :: 10 :: (fmB (ind ++ [32, 32]) k ++ (ind ++ (125 :: 10 :: (fmB ind tl ++ r)))))) := by simp [fmB]
      rw [e, run_blank hi, run_stmt rfl ln p ws w1 hb (by omega)]
      have e2 : ∀ Z : List UInt8, 32 :: Z = [32] ++ Z := fun _ => rfl
      rw [e2, run_blank rfl]
      have h4 : decide (4 < p.bl.length + 1) = false := by simp; omega
      rw [run_br (c := 123) rfl _ _ _ ⟨p.count + 1, [] :: p.lv, ((ln : Int), ws) :: p.bl, false, 0, []⟩ (fun _ _ => rfl) (by
        have e1 : (q 123 == 59) = false := rfl
        have e2 : (q 123 == 123) = true := rfl
        simp only [stepB, e1, e2, cond_true, cond_false, h4, Bool.not_true]), run_nl]
      obtain ⟨ln1, k', p1, i1, i2, i3, i4, i5, i6⟩ := rt k (ind ++ [32, 32]) hi2 w3 ⟨p.count + 1, [] :: p.lv, ((ln : Int), ws) :: p.bl, false, 0, []⟩ [] p.lv rfl rfl (by simp only; omega) (by simp only [List.length_cons]; omega) (ln + 1) (ind ++ (125 :: 10 :: (fmB ind tl ++ r)))
      rw [i1, run_blank hi]
      rw [run_br (c := 125) rfl _ _ _ ⟨p1.count, addL (.mk ln ws true k') p.lv, p.bl, false, 0, []⟩ (fun _ _ => rfl) (by
        have e1 : (q 125 == 59) = false := rfl
        have e2 : (q 125 == 123) = false := rfl
        simp only [stepB, e1, e2, cond_false, i6, closeP, i5, i3, List.nil_append]), run_nl]
      simp only at i4
      obtain ⟨ln', l', p', j1, j2, j3, j4, j5, j6⟩ := rt tl ind hi w4 ⟨p1.count, addL (.mk ln ws true k') p.lv, p.bl, false, 0, []⟩ (top ++ [.mk ln ws true k']) rest (by rw [hp]; rfl) rfl (by simp only; omega) (by simp only; omega) (ln1 + 1) r
      refine ⟨ln', .mk ln ws true k' :: l', p', j1, by simp only [er, j2, i2], by rw [j3]; simp, by rw [j4]; simp only [cntN]; omega, j5, j6⟩

/-- the text of statements is parsed to them, but for their lines -/
theorem parse_fmB {t : ByteArray} {l : List It} (ht : t.data.toList = fmB [] l) (hsz : t.size ≤ 12000) (hw : wfL l = true) (hc : cntN l ≤ 600) (hd : bdep l ≤ 4) : ∃ x, parseP t = (x, 0, 0) ∧ er x = er l := by
  have hsz1 : t.data.toList.length = t.size := by simp
  unfold parseP
  rw [decide_eq_false (by omega)]
  simp only [cond_false]
  rw [run_of (by omega), ht]
  obtain ⟨ln', l', p', j1, j2, j3, j4, j5, j6⟩ := rt l [] rfl hw ps0 [] [] rfl rfl (by simp [ps0]; omega) (by simp [ps0]; omega) 1 []
  rw [List.append_nil] at j1
  refine ⟨l', ?_, j2⟩
  rw [j1, run_eq]
  have e : tokL [] ln' = (.eof, [], ln') := rfl
  rw [e]
  simp only [goP, endP, j6, j5, j3, cond_false]
  rfl
end Go.Eb
