/-
  The scanner: token is the plain law's. No condition.
-/
import Derived.Test.YtkmmkdeoamhpfaaPt
namespace Go.Proofs.Ytkmmkdeoamhpfaa.ps
open Go.RowKit Go.Eb
open Go.Proofs.Ytkmmkdeoamhpfaa.wd (plainR bs bs_len wrap_id wrap32_id c29)
open Go.Proofs.Ytkmmkdeoamhpfaa.ct (lt1 lt0 ge0 tn nx)

theorem b22 : Try.f22.body = some (bodyOf Try.f22) := by kernel_rfl
def okS (s : ByteArray) (a l : Int) : Bool := decide (s.size ≤ 12000) && (decide (0 ≤ a) && (decide (a ≤ s.size) && (decide (0 ≤ l) && decide (l ≤ 100000 + a))))
theorem okS_iff {s : ByteArray} {a l : Int} (h : okS s a l = true) : ∃ x y : Nat, a = x ∧ l = y ∧ s.size ≤ 12000 ∧ x ≤ s.size ∧ y ≤ 100000 + x := by
  unfold okS at h
  simp only [Bool.and_eq_true, decide_eq_true_eq] at h
  exact ⟨a.toNat, l.toNat, by omega, by omega, by omega, by omega, by omega⟩
def skS : SK := ⟨okS, fun _ _ _ => .eof, fun s a l => ((s.size - (skipL false (rest s a.toNat) l.toNat).1.length : Nat) : Int), fun s a l => ((skipL false (rest s a.toNat) l.toNat).2 : Int)⟩
def skQ : SK := ⟨fun s a l => okS s a l && decide (a < s.size), fun s a _ => (quotL (rest s (a.toNat + 1))).1, fun s a _ => ((s.size - (quotL (rest s (a.toNat + 1))).2.length : Nat) : Int), fun _ _ l => l⟩
def skW : SK := ⟨okS, fun s a _ => (plainL (rest s a.toNat)).1, fun s a _ => ((s.size - (plainL (rest s a.toNat)).2.length : Nat) : Int), fun _ _ l => l⟩
/-- the scanner's token -/
def skT : SK := ⟨okS, fun s a l => (tokL (rest s a.toNat) l.toNat).1, fun s a l => ((s.size - (tokL (rest s a.toNat) l.toNat).2.1.length : Nat) : Int), fun s a l => ((tokL (rest s a.toNat) l.toNat).2.2 : Int)⟩

theorem ansSk_s {f : FuncId} {Z : SK} (h : ∀ s a l, Z.c s a l = true → CX Try.prog f [.c (.ptr 0 0)] (HS s a l) (.tup []) (HS s (Z.a s a l) (Z.l s a l))) : AnsS Try.prog f (ansSk Z) := by
  refine ⟨fun R args H k t e => ?_, fun args H => ?_⟩
  · unfold ansSk at e
    split at e
    · rename_i s a l
      cases hc : Z.c s a l with
      | true => rw [hc] at e; exact ⟨_, _, e, h s a l hc⟩
      | false => rw [hc] at e; cases e
    · cases e
  · unfold ansSk
    split
    · exact .bif _ (.one _ _ fun R k => rfl) (.no fun R k => rfl)
    · exact .no fun R k => rfl
theorem ansTk_s {f : FuncId} {Z : SK} (h : ∀ s a l, Z.c s a l = true → CX Try.prog f [.c (.ptr 0 0)] (HS s a l) (tkC (Z.t s a l) (Z.l s a l)) (HS s (Z.a s a l) (Z.l s a l))) : AnsS Try.prog f (ansTk Z) := by
  refine ⟨fun R args H k t e => ?_, fun args H => ?_⟩
  · unfold ansTk at e
    split at e
    · rename_i s a l
      cases hc : Z.c s a l with
      | true => rw [hc] at e; exact ⟨_, _, e, h s a l hc⟩
      | false => rw [hc] at e; cases e
    · cases e
  · unfold ansTk
    split
    · exact .bif _ (.one _ _ fun R k => rfl) (.no fun R k => rfl)
    · exact .no fun R k => rfl

theorem a40 : AnsS Try.prog 40 (ansSk skS) := ansSk_s fun s a l h => by
  obtain ⟨x, y, rfl, rfl, h1, h2, h3⟩ := okS_iff h
  exact c40 s x y h1 h2 h3
theorem a41 : AnsS Try.prog 41 (ansTk skQ) := ansTk_s fun s a l h => by
  have h' : okS s a l = true ∧ a < s.size := by simpa [skQ] using h
  obtain ⟨x, y, rfl, rfl, h1, h2, h3⟩ := okS_iff h'.1
  exact c41 s x y h1 (by have := h'.2; omega)
theorem a42 : AnsS Try.prog 42 (ansTk skW) := ansTk_s fun s a l h => by
  obtain ⟨x, y, rfl, rfl, h1, h2, h3⟩ := okS_iff h
  exact c42 s x y h1 h2
theorem os22 : OrcS Try.prog (o22 skS skQ skW) := .cons a40 (.cons a41 (.cons a42 (.cons (.p dec32_ok c29) .nil)))

theorem c22 (s : ByteArray) (a l : Nat) (hs : s.size ≤ 12000) (ha : a ≤ s.size) (hl : l ≤ 100000 + a) :
    CX Try.prog 22 [.c (.ptr 0 0)] (HS s a l) (tkC (tokL (rest s a) l).1 (tokL (rest s a) l).2.2) (HS s ((s.size - (tokL (rest s a) l).2.1.length : Nat) : Int) (tokL (rest s a) l).2.2) := by
  refine cx_of os22.ok Try.func22 b22 rfl ((ev22 skS skQ skW s a l).trans ?_)
  obtain ⟨k1, k2, k3⟩ := skipL_len false (rest s a) l
  have k4 := skipL_suf false (rest s a) l
  have hrl := rest_len s a
  unfold tokL
  have e1 : skS.c s a l = true := by
    show okS s a l = true
    unfold okS
    simp; omega
  have e2 : skS.a s a l = ((s.size - (skipL false (rest s a) l).1.length : Nat) : Int) := rfl
  have e3 : skS.l s a l = ((skipL false (rest s a) l).2 : Int) := rfl
  rw [e1, e2, e3]
  generalize hr : (skipL false (rest s a) l).1 = r at *
  generalize hl' : (skipL false (rest s a) l).2 = l' at *
  have hb : rest s (s.size - r.length) = r := by
    have e : s.size - r.length = a + ((rest s a).length - r.length) := by omega
    rw [e]
    show List.drop (a + _) (bs s) = r
    rw [← List.drop_drop]
    exact k4.symm
  cases r with
  | nil =>
    simp only [List.length_nil, Nat.sub_zero, beq_self_eq_true, cond_true, tokE, tkC, tkKind, tkLn, tkTxt, tkQ, tkEl, tkEr]
  | cons c r =>
    simp only [List.length_cons] at *
    generalize hx : s.size - (r.length + 1) = x at *
    have hlt : x < s.size := by omega
    have hl2 : x < (bs s).length := by rw [bs_len]; exact hlt
    have hd : (bs s).getD x 0 = c := by
      have := drop_at hl2
      rw [show (bs s).drop x = rest s x from rfl, hb] at this
      exact ((List.cons.inj this).1).symm
    have hb1 : rest s (x + 1) = r := by
      have := drop_at hl2
      rw [show (bs s).drop x = rest s x from rfl, hb] at this
      exact ((List.cons.inj this).2).symm
    have w1 : IntKind.wrap IntKind.i64 ((x : Int) + 1) = ((x + 1 : Nat) : Int) := nx hlt (by omega)
    have hne : ((x : Int) == (s.size : Int)) = false := by simp; omega
    have hx1 : s.size - r.length = x + 1 := by omega
    have hq : skQ.c s x l' = true := by
      show (okS s x l' && decide ((x : Int) < s.size)) = true
      unfold okS
      simp; omega
    have hw : skW.c s x l' = true := by
      show okS s x l' = true
      unfold okS
      simp; omega
    have hpl : plainR (IntKind.wrap IntKind.i32 (c.toNat : Int)) = plainQ (q c) := by
      have := q32 c; unfold q at this; rw [this]; rfl
    have t1 : skQ.t s x l' = (quotL r).1 := by show (quotL (rest s (x + 1))).1 = _; rw [hb1]
    have t2 : skQ.a s x l' = ((s.size - (quotL r).2.length : Nat) : Int) := by show (((s.size - (quotL (rest s (x + 1))).2.length : Nat)) : Int) = _; rw [hb1]
    have t3 : skQ.l s x l' = l' := rfl
    have t4 : skW.t s x l' = (plainL (c :: r)).1 := by show (plainL (rest s x)).1 = _; rw [hb]
    have t5 : skW.a s x l' = ((s.size - (plainL (c :: r)).2.length : Nat) : Int) := by show (((s.size - (plainL (rest s x)).2.length : Nat)) : Int) = _; rw [hb]
    have t6 : skW.l s x l' = l' := rfl
    simp only [hne, ge0, lt1 hlt, tn, hd, Bool.and_self, cond_true, cond_false, w1, hq, hw, hpl, t1, t2, t3, t4, t5, t6, tokE, q]
    cases h1 : ((c.toNat : Int) == 123) with
    | true => simp only [cond_true, Bool.true_or, hx1, tkC, tkKind, tkLn, tkTxt, tkQ, tkEl, tkEr]
    | false =>
      cases h2 : ((c.toNat : Int) == 125) with
      | true => simp only [cond_true, cond_false, Bool.true_or, Bool.false_or, hx1, tkC, tkKind, tkLn, tkTxt, tkQ, tkEl, tkEr]
      | false =>
        cases h3 : ((c.toNat : Int) == 59) with
        | true => simp only [cond_true, cond_false, Bool.false_or, hx1, tkC, tkKind, tkLn, tkTxt, tkQ, tkEl, tkEr]
        | false =>
          cases h4 : ((c.toNat : Int) == 34) with
          | true => simp only [cond_true, cond_false, Bool.false_or, tkC]
          | false =>
            cases h5 : plainQ (c.toNat : Int) with
            | true => simp only [cond_true, cond_false, Bool.false_or, tkC]
            | false => simp only [cond_false, Bool.false_or, List.length_cons, hx, tkC, tkKind, tkLn, tkTxt, tkQ, tkEl, tkEr]
theorem a22 : AnsS Try.prog 22 (ansTk skT) := ansTk_s fun s a l h => by
  obtain ⟨x, y, rfl, rfl, h1, h2, h3⟩ := okS_iff h
  exact c22 s x y h1 h2 h3
end Go.Proofs.Ytkmmkdeoamhpfaa.ps
