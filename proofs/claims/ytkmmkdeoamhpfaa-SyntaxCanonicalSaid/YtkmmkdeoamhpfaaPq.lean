/-
  Parse is the plain law's. No condition.
-/
import Derived.Test.YtkmmkdeoamhpfaaZPp
import Derived.Test.YtkmmkdeoamhpfaaEb
import Derived.Test.YtkmmkdeoamhpfaaPu
import Derived.Test.YtkmmkdeoamhpfaaPp0
import Derived.Test.YtkmmkdeoamhpfaaPp1
import Derived.Test.YtkmmkdeoamhpfaaPp2
import Derived.Test.YtkmmkdeoamhpfaaPp3
import Derived.Test.YtkmmkdeoamhpfaaPp4
namespace Go.Proofs.Ytkmmkdeoamhpfaa.ps
open Go.RowKit Go.Eb
open Go.Proofs.Ytkmmkdeoamhpfaa.wd (plainR bs bs_len wrap_id)
open Go.Proofs.Ytkmmkdeoamhpfaa.ck (opn c49 decWd_ok)

def Fin (x : AV) (H : Hp) (r : List It × Int × Int) : Prop :=
  (x = .tup [(false, [.d (.v (.slice none 0 0))]), pI r.2.1, pI r.2.2] ∧ H = [] ∧ r.1 = []) ∨
  (∃ n f, x = .tup [(false, [.row 0 4 n]), pI r.2.1, pI r.2.2] ∧ H = [(0, .row n f 4 38)] ∧ RR n f r.1)

theorem _root_.Go.Eb.RW.one (t : ByteArray) (d : Bool) : RW 1 (chunk [D.v (.string t), D.v (.bool d)] 2) [⟨t, d⟩] := by
  refine ⟨rfl, fun i hi => ?_⟩
  have : i = 0 := by omega
  subst this
  exact .refl _
theorem _root_.Go.Eb.RW.app {n h : Nat} {f : FD} {ws : List Wd} {t : ByteArray} {d : Bool} (hw : RW n f ws) : RW (n + 1) (appD (some (h, n)) (dstLen (some (h, n))) f (chunk [D.v (.string t), D.v (.bool d)] (1 + 1))) (ws ++ [⟨t, d⟩]) := by
  obtain ⟨rfl, hw⟩ := hw
  refine ⟨by simp, fun i hi => ?_⟩
  have e : appD (some (h, ws.length)) (dstLen (some (h, ws.length))) f (chunk [D.v (.string t), D.v (.bool d)] (1 + 1)) i = bif Nat.blt i ws.length then f i else chunk [D.v (.string t), D.v (.bool d)] 2 (i - ws.length) := rfl
  rw [e, bltD]
  by_cases hlt : i < ws.length
  · simp only [hlt, decide_true, cond_true]
    have : (ws ++ [(⟨t, d⟩ : Wd)]).getD i w0 = ws.getD i w0 := by simp [List.getD, List.getElem?_append, hlt]
    rw [this]; exact hw i hlt
  · have : i = ws.length := by omega
    subst this
    simp only [hlt, decide_false, cond_false, Nat.sub_self]
    have : (ws ++ [(⟨t, d⟩ : Wd)]).getD ws.length w0 = ⟨t, d⟩ := by simp [List.getD]
    rw [this]; exact .refl _
theorem _root_.Go.Eb.RR.app {n : Nat} {f : FD} {l : List It} {cs : List D} {x : It} (hl : RR n f l) (hx : DEs cs (icells x)) : RR (n + 1) (apd n f cs) (l ++ [x]) := by
  obtain ⟨rfl, hl⟩ := hl
  refine ⟨by simp, fun i hi => ?_⟩
  unfold apd
  rw [beqD]
  by_cases he : i = l.length
  · subst he
    simp only [decide_true, cond_true]
    have : (l ++ [x]).getD l.length i0 = x := by simp [List.getD]
    rw [this]; exact hx
  · simp only [he, decide_false, cond_false]
    have hlt : i < l.length := by omega
    have : (l ++ [x]).getD i i0 = l.getD i i0 := by simp [List.getD, List.getElem?_append, hlt]
    rw [this]; exact hl i hlt
theorem itS {nw : Nat} {fw : FD} {ws : List Wd} {ln : Int} (hw : RW nw fw ws) : DEs [.v (.int .i64 ln), .sl 2 nw fw, .v (.bool false), .v (.slice none 0 0)] (icells (.mk ln ws false [])) :=
  .cons (.refl _) (.cons hw.de (.cons (.refl _) (.cons (.nil _ _) .nil)))
theorem itC {w : D} {v : List Wd} {b : Int} {n : Nat} {f : FD} {k : List It} (he : DE w (wordsD v)) (hk : RR n f k) : DEs [.v (.int .i64 b), w, .v (.bool true), .sl 4 n f] (icells (.mk b v true k)) :=
  .cons (.refl _) (.cons he (.cons (.refl _) (.cons (hk.de.trans (itemsD_de (.mk b v true k))) .nil)))
theorem ne0 : ((0 : Int) != 0) = false := rfl
theorem eq0 : ((0 : Int) == 0) = true := rfl
theorem eq119 : ((119 : Int) == 119) = true := rfl
theorem eq119a : ((119 : Int) == 0) = false := rfl
theorem opn_eq (w : Wd) : opn w = opW w := rfl
theorem br_ne {c : UInt8} (h : (q c == 123 || q c == 125 || q c == 59) = true) : (q c == 0) = false ∧ (q c == 119) = false := by
  simp only [Bool.or_eq_true, beq_iff_eq] at h
  constructor <;> (simp only [beq_eq_false_iff_ne, ne_eq]; omega)
theorem runP_succ {m : Nat} {r : List UInt8} {l : Nat} {p : PS} {t : Tok} {r' : List UInt8} {l' : Nat} (h : tokL r l = (t, r', l')) : runP (m + 1) r l p = goP (runP m) p r' l' t := by simp only [runP, h]
theorem tokF (s : ByteArray) (a l : Nat) (hs : s.size ≤ 12000) (ha : a ≤ s.size) (hl : l ≤ 100000 + a) : ∃ (t : Tok) (r' : List UInt8) (l' a' : Nat), skT.c s a l = true ∧ skT.t s a l = t ∧ skT.a s a l = (a' : Int) ∧ skT.l s a l = (l' : Int) ∧ tokL (rest s a) l = (t, r', l') ∧
    rest s a' = r' ∧ a' ≤ s.size ∧ l' ≤ 100000 + a' ∧ (∀ e, t = .err e → e ≠ 0) ∧ (∀ c, t = .br c → (q c == 123 || q c == 125 || q c == 59) = true ∧ (rest s a').length < (rest s a).length) ∧ (∀ w d, t = .wd w d → (rest s a').length < (rest s a).length) := by
  obtain ⟨k1, k2, k3, k4, k5⟩ := tokL_len (rest s a) l
  have hsuf := tokL_suf (rest s a) l
  have hrl := rest_len s a
  have hr : rest s (s.size - (tokL (rest s a) l).2.1.length) = (tokL (rest s a) l).2.1 := by
    have e : s.size - (tokL (rest s a) l).2.1.length = a + ((rest s a).length - (tokL (rest s a) l).2.1.length) := by omega
    rw [e]
    show List.drop (a + _) (bs s) = _
    rw [← List.drop_drop]
    exact hsuf.symm
  refine ⟨(tokL (rest s a) l).1, (tokL (rest s a) l).2.1, (tokL (rest s a) l).2.2, s.size - (tokL (rest s a) l).2.1.length, ?_, rfl, rfl, rfl, rfl, hr, by omega, by omega, fun e h => tokE_err _ e h, fun c h => ⟨tokE_br _ c h, by rw [hr]; exact k2 c h⟩, fun w d h => by rw [hr]; exact k3 w d h⟩
  show okS s a l = true
  unfold okS
  simp; omega

def Stn (g m : Nat) : Prop := ∀ (s : ByteArray) (a l cnt : Nat) (bg : Bool) (ln : Int) (nw : Nat) (fw : FD) (ws : List Wd) (n0 : Nat) (f0 : FD) (l0 : List It) (tk tl : Int) (tt : ByteArray) (tq : Bool), s.size ≤ 12000 → a ≤ s.size → l ≤ 100000 + a → cnt ≤ 600 → RW nw fw ws → nw + (rest s a).length ≤ 12000 → RR n0 f0 l0 → n0 + (rest s a).length ≤ 12000 → (rest s a).length < m → ∃ x H', L8n skT opn g m s a l cnt bg ln nw fw n0 f0 tk tl tt tq = some (.leaf (x, H')) ∧ Fin x H' (runP m (rest s a) l ⟨cnt, [l0], [], bg, ln, ws⟩)
def St0 (g m : Nat) : Prop := ∀ (s : ByteArray) (a l cnt : Nat) (bg : Bool) (ln : Int) (nw : Nat) (fw : FD) (ws : List Wd) (n0 : Nat) (f0 : FD) (l0 : List It) (tk tl : Int) (tt : ByteArray) (tq : Bool), s.size ≤ 12000 → a ≤ s.size → l ≤ 100000 + a → cnt ≤ 600 → RW nw fw ws → nw + (rest s a).length ≤ 12000 → RR n0 f0 l0 → n0 + (rest s a).length ≤ 12000 → (rest s a).length < m → ∃ x H', L80 skT opn g m s a l cnt bg ln nw fw n0 f0 tk tl tt tq = some (.leaf (x, H')) ∧ Fin x H' (runP m (rest s a) l ⟨cnt, [l0], [], bg, ln, ws⟩)
def St1 (g m : Nat) : Prop := ∀ (s : ByteArray) (a l cnt : Nat) (bg : Bool) (ln : Int) (nw : Nat) (fw : FD) (ws : List Wd) (n0 : Nat) (f0 : FD) (l0 : List It) (n1 : Nat) (f1 : FD) (l1 : List It) (b0 : Int) (w0 : D) (v0 : List Wd) (tk tl : Int) (tt : ByteArray) (tq : Bool), s.size ≤ 12000 → a ≤ s.size → l ≤ 100000 + a → cnt ≤ 600 → RW nw fw ws → nw + (rest s a).length ≤ 12000 → RR n0 f0 l0 → n0 + (rest s a).length ≤ 12000 → RR n1 f1 l1 → n1 + (rest s a).length ≤ 12000 → DE w0 (wordsD v0) → (rest s a).length < m → ∃ x H', L81 skT opn g m s a l cnt bg ln nw fw n0 f0 n1 f1 b0 w0 tk tl tt tq = some (.leaf (x, H')) ∧ Fin x H' (runP m (rest s a) l ⟨cnt, [l1, l0], [(b0, v0)], bg, ln, ws⟩)
def St2 (g m : Nat) : Prop := ∀ (s : ByteArray) (a l cnt : Nat) (bg : Bool) (ln : Int) (nw : Nat) (fw : FD) (ws : List Wd) (n0 : Nat) (f0 : FD) (l0 : List It) (n1 : Nat) (f1 : FD) (l1 : List It) (n2 : Nat) (f2 : FD) (l2 : List It) (b0 : Int) (w0 : D) (v0 : List Wd) (b1 : Int) (w1 : D) (v1 : List Wd) (tk tl : Int) (tt : ByteArray) (tq : Bool), s.size ≤ 12000 → a ≤ s.size → l ≤ 100000 + a → cnt ≤ 600 → RW nw fw ws → nw + (rest s a).length ≤ 12000 → RR n0 f0 l0 → n0 + (rest s a).length ≤ 12000 → RR n1 f1 l1 → n1 + (rest s a).length ≤ 12000 → RR n2 f2 l2 → n2 + (rest s a).length ≤ 12000 → DE w0 (wordsD v0) → DE w1 (wordsD v1) → (rest s a).length < m → ∃ x H', L82 skT opn g m s a l cnt bg ln nw fw n0 f0 n1 f1 n2 f2 b0 w0 b1 w1 tk tl tt tq = some (.leaf (x, H')) ∧ Fin x H' (runP m (rest s a) l ⟨cnt, [l2, l1, l0], [(b1, v1), (b0, v0)], bg, ln, ws⟩)
def St3 (g m : Nat) : Prop := ∀ (s : ByteArray) (a l cnt : Nat) (bg : Bool) (ln : Int) (nw : Nat) (fw : FD) (ws : List Wd) (n0 : Nat) (f0 : FD) (l0 : List It) (n1 : Nat) (f1 : FD) (l1 : List It) (n2 : Nat) (f2 : FD) (l2 : List It) (n3 : Nat) (f3 : FD) (l3 : List It) (b0 : Int) (w0 : D) (v0 : List Wd) (b1 : Int) (w1 : D) (v1 : List Wd) (b2 : Int) (w2 : D) (v2 : List Wd) (tk tl : Int) (tt : ByteArray) (tq : Bool), s.size ≤ 12000 → a ≤ s.size → l ≤ 100000 + a → cnt ≤ 600 → RW nw fw ws → nw + (rest s a).length ≤ 12000 → RR n0 f0 l0 → n0 + (rest s a).length ≤ 12000 → RR n1 f1 l1 → n1 + (rest s a).length ≤ 12000 → RR n2 f2 l2 → n2 + (rest s a).length ≤ 12000 → RR n3 f3 l3 → n3 + (rest s a).length ≤ 12000 → DE w0 (wordsD v0) → DE w1 (wordsD v1) → DE w2 (wordsD v2) → (rest s a).length < m → ∃ x H', L83 skT opn g m s a l cnt bg ln nw fw n0 f0 n1 f1 n2 f2 n3 f3 b0 w0 b1 w1 b2 w2 tk tl tt tq = some (.leaf (x, H')) ∧ Fin x H' (runP m (rest s a) l ⟨cnt, [l3, l2, l1, l0], [(b2, v2), (b1, v1), (b0, v0)], bg, ln, ws⟩)
def St4 (g m : Nat) : Prop := ∀ (s : ByteArray) (a l cnt : Nat) (bg : Bool) (ln : Int) (nw : Nat) (fw : FD) (ws : List Wd) (n0 : Nat) (f0 : FD) (l0 : List It) (n1 : Nat) (f1 : FD) (l1 : List It) (n2 : Nat) (f2 : FD) (l2 : List It) (n3 : Nat) (f3 : FD) (l3 : List It) (n4 : Nat) (f4 : FD) (l4 : List It) (b0 : Int) (w0 : D) (v0 : List Wd) (b1 : Int) (w1 : D) (v1 : List Wd) (b2 : Int) (w2 : D) (v2 : List Wd) (b3 : Int) (w3 : D) (v3 : List Wd) (tk tl : Int) (tt : ByteArray) (tq : Bool), s.size ≤ 12000 → a ≤ s.size → l ≤ 100000 + a → cnt ≤ 600 → RW nw fw ws → nw + (rest s a).length ≤ 12000 → RR n0 f0 l0 → n0 + (rest s a).length ≤ 12000 → RR n1 f1 l1 → n1 + (rest s a).length ≤ 12000 → RR n2 f2 l2 → n2 + (rest s a).length ≤ 12000 → RR n3 f3 l3 → n3 + (rest s a).length ≤ 12000 → RR n4 f4 l4 → n4 + (rest s a).length ≤ 12000 → DE w0 (wordsD v0) → DE w1 (wordsD v1) → DE w2 (wordsD v2) → DE w3 (wordsD v3) → (rest s a).length < m → ∃ x H', L84 skT opn g m s a l cnt bg ln nw fw n0 f0 n1 f1 n2 f2 n3 f3 n4 f4 b0 w0 b1 w1 b2 w2 b3 w3 tk tl tt tq = some (.leaf (x, H')) ∧ Fin x H' (runP m (rest s a) l ⟨cnt, [l4, l3, l2, l1, l0], [(b3, v3), (b2, v2), (b1, v1), (b0, v0)], bg, ln, ws⟩)
structure Good (g m : Nat) : Prop where
  fn : Stn g m
  f0 : St0 g m
  f1 : St1 g m
  f2 : St2 g m
  f3 : St3 g m
  f4 : St4 g m
theorem spn (g m : Nat) (ih : Good g m) : Stn g (m + 1) := by
  intro s a l cnt bg ln nw fw ws n0 f0 l0 tk tl tt tq hs ha hl hcnt hw hwr h0 h0r  hm
  obtain ⟨t, r', l', a', hc, ht, hA, hL, htok, hr', ha', hl', her, hbr, hwd⟩ := tokF s a l hs ha hl
  rw [st8n, runP_succ htok]
  subst hr'
  have hcw : cnt ≠ 600 → IntKind.wrap IntKind.i64 ((cnt : Int) + 1) = ((cnt + 1 : Nat) : Int) := fun _ => by rw [wrap_id (by omega) (by omega)]; omega
  simp only [hc, ht, hA, hL, cond_true]
  cases t with
  | eof =>
    simp only [tkEr, tkKind, ne0, eq0, cond_true, cond_false, goP, endP]
    cases bg with
    | true => exact ⟨_, _, rfl, .inl ⟨rfl, rfl, rfl⟩⟩
    | false => exact ⟨_, _, rfl, .inr ⟨_, _, rfl, rfl, h0⟩⟩
  | err e =>
    have he : (e != 0) = true := by simpa using her e rfl
    simp only [tkEr, tkEl, he, cond_true]
    exact ⟨_, _, rfl, .inl ⟨rfl, rfl, rfl⟩⟩
  | wd w dq =>
    have hlt := hwd w dq rfl
    simp only [tkEr, tkKind, tkLn, tkTxt, tkQ, ne0, eq119a, eq119, cond_true, cond_false, goP, Go.Eb.stepT, Go.Eb.stepW, Bool.not_false, Bool.not_true]
    cases bg with
    | false =>
      simp only [cond_true, Bool.not_false]
      rw [opn_eq]
      cases hop : opW ⟨⟨w.toArray⟩, dq⟩ with
      | false => exact ⟨_, _, rfl, .inl ⟨rfl, rfl, rfl⟩⟩
      | true =>
        simp only [Bool.not_true, cond_false]
        by_cases h600 : cnt = 600
        · subst h600; exact ⟨_, _, rfl, .inl ⟨rfl, rfl, rfl⟩⟩
        · have q1 : ((cnt : Int) == 600) = false := by simp; omega
          have q2 : (cnt == 600) = false := by simpa using h600
          simp only [q1, q2, cond_false, hcw h600]
          exact ih.fn s a' l' (cnt + 1) true l' 1 _ [⟨⟨w.toArray⟩, dq⟩] n0 f0 l0 _ _ _ _ hs ha' hl' (by omega) (.one _ _) (by omega) h0 (by omega) (by omega)
    | true =>
      simp only [Bool.not_true, cond_false]
      by_cases h40 : nw = 40
      · have q1 : ((nw : Int) == 40) = true := by simp; omega
        have q2 : (ws.length == 40) = true := by rw [← hw.1]; simpa using h40
        simp only [q1, q2, cond_true]
        exact ⟨_, _, rfl, .inl ⟨rfl, rfl, rfl⟩⟩
      · have q1 : ((nw : Int) == 40) = false := by simp; omega
        have q2 : (ws.length == 40) = false := by rw [← hw.1]; simpa using h40
        have q3 : (decide ((nw + 1) * 24 ≤ 140737488355328) && decide (nw + 1 ≤ 9223372036854775807)) = true := by simp; omega
        simp only [q1, q2, q3, cond_true, cond_false]
        exact ih.fn s a' l' cnt true ln (nw + 1) _ (ws ++ [⟨⟨w.toArray⟩, dq⟩]) n0 f0 l0 _ _ _ _ hs ha' hl' hcnt hw.app (by omega) h0 (by omega) (by omega)
  | br c =>
    obtain ⟨hk, hlt⟩ := hbr c rfl
    obtain ⟨hc0, hc119⟩ := br_ne hk
    simp only [tkEr, tkKind, tkLn, ne0, hc0, hc119, cond_true, cond_false, goP, Go.Eb.stepT, Go.Eb.stepB, tkTxt, tkQ]
    cases h59 : (q c == 59) with
    | true =>
      simp only [cond_true]
      cases bg with
      | false => exact ⟨_, _, rfl, .inl ⟨rfl, rfl, rfl⟩⟩
      | true =>
        have q3 : decide ((n0 + 1) * 64 ≤ 140737488355328) = true := by simp; omega
        simp only [Bool.not_true, cond_false, q3, cond_true]
        exact ih.fn s a' l' cnt false 0 0 _ [] (n0 + 1) _ (l0 ++ [.mk ln ws false []]) _ _ _ _ hs ha' hl' hcnt (.nil _) (by omega) (h0.app (itS hw)) (by omega) (by omega)
    | false =>
      simp only [cond_false]
      cases h123 : (q c == 123) with
      | true =>
        simp only [cond_true]
        cases bg with
        | false => exact ⟨_, _, rfl, .inl ⟨rfl, rfl, rfl⟩⟩
        | true =>
          exact ih.f1 s a' l' cnt false 0 0 _ [] n0 f0 l0 0 _ [] ln _ ws _ _ _ _ hs ha' hl' hcnt (.nil _) (by omega) h0 (by omega) (.nil _) (by omega) hw.de (by omega)
      | false =>
        simp only [cond_false]
        cases bg with
        | true => exact ⟨_, _, rfl, .inl ⟨rfl, rfl, rfl⟩⟩
        | false =>
          exact ⟨_, _, rfl, .inl ⟨rfl, rfl, rfl⟩⟩
theorem sp0 (g m : Nat) (ih : Good g m) : St0 g (m + 1) := by
  intro s a l cnt bg ln nw fw ws n0 f0 l0 tk tl tt tq hs ha hl hcnt hw hwr h0 h0r  hm
  obtain ⟨t, r', l', a', hc, ht, hA, hL, htok, hr', ha', hl', her, hbr, hwd⟩ := tokF s a l hs ha hl
  rw [st80, runP_succ htok]
  subst hr'
  have hcw : cnt ≠ 600 → IntKind.wrap IntKind.i64 ((cnt : Int) + 1) = ((cnt + 1 : Nat) : Int) := fun _ => by rw [wrap_id (by omega) (by omega)]; omega
  simp only [hc, ht, hA, hL, cond_true]
  cases t with
  | eof =>
    simp only [tkEr, tkKind, ne0, eq0, cond_true, cond_false, goP, endP]
    cases bg with
    | true => exact ⟨_, _, rfl, .inl ⟨rfl, rfl, rfl⟩⟩
    | false => exact ⟨_, _, rfl, .inr ⟨_, _, rfl, rfl, h0⟩⟩
  | err e =>
    have he : (e != 0) = true := by simpa using her e rfl
    simp only [tkEr, tkEl, he, cond_true]
    exact ⟨_, _, rfl, .inl ⟨rfl, rfl, rfl⟩⟩
  | wd w dq =>
    have hlt := hwd w dq rfl
    simp only [tkEr, tkKind, tkLn, tkTxt, tkQ, ne0, eq119a, eq119, cond_true, cond_false, goP, Go.Eb.stepT, Go.Eb.stepW, Bool.not_false, Bool.not_true]
    cases bg with
    | false =>
      simp only [cond_true, Bool.not_false]
      rw [opn_eq]
      cases hop : opW ⟨⟨w.toArray⟩, dq⟩ with
      | false => exact ⟨_, _, rfl, .inl ⟨rfl, rfl, rfl⟩⟩
      | true =>
        simp only [Bool.not_true, cond_false]
        by_cases h600 : cnt = 600
        · subst h600; exact ⟨_, _, rfl, .inl ⟨rfl, rfl, rfl⟩⟩
        · have q1 : ((cnt : Int) == 600) = false := by simp; omega
          have q2 : (cnt == 600) = false := by simpa using h600
          simp only [q1, q2, cond_false, hcw h600]
          exact ih.f0 s a' l' (cnt + 1) true l' 1 _ [⟨⟨w.toArray⟩, dq⟩] n0 f0 l0 _ _ _ _ hs ha' hl' (by omega) (.one _ _) (by omega) h0 (by omega) (by omega)
    | true =>
      simp only [Bool.not_true, cond_false]
      by_cases h40 : nw = 40
      · have q1 : ((nw : Int) == 40) = true := by simp; omega
        have q2 : (ws.length == 40) = true := by rw [← hw.1]; simpa using h40
        simp only [q1, q2, cond_true]
        exact ⟨_, _, rfl, .inl ⟨rfl, rfl, rfl⟩⟩
      · have q1 : ((nw : Int) == 40) = false := by simp; omega
        have q2 : (ws.length == 40) = false := by rw [← hw.1]; simpa using h40
        have q3 : (decide ((nw + 1) * 24 ≤ 140737488355328) && decide (nw + 1 ≤ 9223372036854775807)) = true := by simp; omega
        simp only [q1, q2, q3, cond_true, cond_false]
        exact ih.f0 s a' l' cnt true ln (nw + 1) _ (ws ++ [⟨⟨w.toArray⟩, dq⟩]) n0 f0 l0 _ _ _ _ hs ha' hl' hcnt hw.app (by omega) h0 (by omega) (by omega)
  | br c =>
    obtain ⟨hk, hlt⟩ := hbr c rfl
    obtain ⟨hc0, hc119⟩ := br_ne hk
    simp only [tkEr, tkKind, tkLn, ne0, hc0, hc119, cond_true, cond_false, goP, Go.Eb.stepT, Go.Eb.stepB, tkTxt, tkQ]
    cases h59 : (q c == 59) with
    | true =>
      simp only [cond_true]
      cases bg with
      | false => exact ⟨_, _, rfl, .inl ⟨rfl, rfl, rfl⟩⟩
      | true =>
        have q3 : decide ((n0 + 1) * 64 ≤ 140737488355328) = true := by simp; omega
        simp only [Bool.not_true, cond_false, q3, cond_true]
        exact ih.f0 s a' l' cnt false 0 0 _ [] (n0 + 1) _ (l0 ++ [.mk ln ws false []]) _ _ _ _ hs ha' hl' hcnt (.nil _) (by omega) (h0.app (itS hw)) (by omega) (by omega)
    | false =>
      simp only [cond_false]
      cases h123 : (q c == 123) with
      | true =>
        simp only [cond_true]
        cases bg with
        | false => exact ⟨_, _, rfl, .inl ⟨rfl, rfl, rfl⟩⟩
        | true =>
          exact ih.f1 s a' l' cnt false 0 0 _ [] n0 f0 l0 0 _ [] ln _ ws _ _ _ _ hs ha' hl' hcnt (.nil _) (by omega) h0 (by omega) (.nil _) (by omega) hw.de (by omega)
      | false =>
        simp only [cond_false]
        cases bg with
        | true => exact ⟨_, _, rfl, .inl ⟨rfl, rfl, rfl⟩⟩
        | false =>
          exact ⟨_, _, rfl, .inl ⟨rfl, rfl, rfl⟩⟩
theorem sp1 (g m : Nat) (ih : Good g m) : St1 g (m + 1) := by
  intro s a l cnt bg ln nw fw ws n0 f0 l0 n1 f1 l1 b0 w0 v0 tk tl tt tq hs ha hl hcnt hw hwr h0 h0r h1 h1r e0 hm
  obtain ⟨t, r', l', a', hc, ht, hA, hL, htok, hr', ha', hl', her, hbr, hwd⟩ := tokF s a l hs ha hl
  rw [st81, runP_succ htok]
  subst hr'
  have hcw : cnt ≠ 600 → IntKind.wrap IntKind.i64 ((cnt : Int) + 1) = ((cnt + 1 : Nat) : Int) := fun _ => by rw [wrap_id (by omega) (by omega)]; omega
  simp only [hc, ht, hA, hL, cond_true]
  cases t with
  | eof =>
    simp only [tkEr, tkKind, ne0, eq0, cond_true, cond_false, goP, endP]
    cases bg with
    | true => exact ⟨_, _, rfl, .inl ⟨rfl, rfl, rfl⟩⟩
    | false => exact ⟨_, _, rfl, .inl ⟨rfl, rfl, rfl⟩⟩
  | err e =>
    have he : (e != 0) = true := by simpa using her e rfl
    simp only [tkEr, tkEl, he, cond_true]
    exact ⟨_, _, rfl, .inl ⟨rfl, rfl, rfl⟩⟩
  | wd w dq =>
    have hlt := hwd w dq rfl
    simp only [tkEr, tkKind, tkLn, tkTxt, tkQ, ne0, eq119a, eq119, cond_true, cond_false, goP, Go.Eb.stepT, Go.Eb.stepW, Bool.not_false, Bool.not_true]
    cases bg with
    | false =>
      simp only [cond_true, Bool.not_false]
      rw [opn_eq]
      cases hop : opW ⟨⟨w.toArray⟩, dq⟩ with
      | false => exact ⟨_, _, rfl, .inl ⟨rfl, rfl, rfl⟩⟩
      | true =>
        simp only [Bool.not_true, cond_false]
        by_cases h600 : cnt = 600
        · subst h600; exact ⟨_, _, rfl, .inl ⟨rfl, rfl, rfl⟩⟩
        · have q1 : ((cnt : Int) == 600) = false := by simp; omega
          have q2 : (cnt == 600) = false := by simpa using h600
          simp only [q1, q2, cond_false, hcw h600]
          exact ih.f1 s a' l' (cnt + 1) true l' 1 _ [⟨⟨w.toArray⟩, dq⟩] n0 f0 l0 n1 f1 l1 b0 w0 v0 _ _ _ _ hs ha' hl' (by omega) (.one _ _) (by omega) h0 (by omega) h1 (by omega) e0 (by omega)
    | true =>
      simp only [Bool.not_true, cond_false]
      by_cases h40 : nw = 40
      · have q1 : ((nw : Int) == 40) = true := by simp; omega
        have q2 : (ws.length == 40) = true := by rw [← hw.1]; simpa using h40
        simp only [q1, q2, cond_true]
        exact ⟨_, _, rfl, .inl ⟨rfl, rfl, rfl⟩⟩
      · have q1 : ((nw : Int) == 40) = false := by simp; omega
        have q2 : (ws.length == 40) = false := by rw [← hw.1]; simpa using h40
        have q3 : (decide ((nw + 1) * 24 ≤ 140737488355328) && decide (nw + 1 ≤ 9223372036854775807)) = true := by simp; omega
        simp only [q1, q2, q3, cond_true, cond_false]
        exact ih.f1 s a' l' cnt true ln (nw + 1) _ (ws ++ [⟨⟨w.toArray⟩, dq⟩]) n0 f0 l0 n1 f1 l1 b0 w0 v0 _ _ _ _ hs ha' hl' hcnt hw.app (by omega) h0 (by omega) h1 (by omega) e0 (by omega)
  | br c =>
    obtain ⟨hk, hlt⟩ := hbr c rfl
    obtain ⟨hc0, hc119⟩ := br_ne hk
    simp only [tkEr, tkKind, tkLn, ne0, hc0, hc119, cond_true, cond_false, goP, Go.Eb.stepT, Go.Eb.stepB, tkTxt, tkQ]
    cases h59 : (q c == 59) with
    | true =>
      simp only [cond_true]
      cases bg with
      | false => exact ⟨_, _, rfl, .inl ⟨rfl, rfl, rfl⟩⟩
      | true =>
        have q3 : decide ((n1 + 1) * 64 ≤ 140737488355328) = true := by simp; omega
        simp only [Bool.not_true, cond_false, q3, cond_true]
        exact ih.f1 s a' l' cnt false 0 0 _ [] n0 f0 l0 (n1 + 1) _ (l1 ++ [.mk ln ws false []]) b0 w0 v0 _ _ _ _ hs ha' hl' hcnt (.nil _) (by omega) h0 (by omega) (h1.app (itS hw)) (by omega) e0 (by omega)
    | false =>
      simp only [cond_false]
      cases h123 : (q c == 123) with
      | true =>
        simp only [cond_true]
        cases bg with
        | false => exact ⟨_, _, rfl, .inl ⟨rfl, rfl, rfl⟩⟩
        | true =>
          exact ih.f2 s a' l' cnt false 0 0 _ [] n0 f0 l0 n1 f1 l1 0 _ [] b0 w0 v0 ln _ ws _ _ _ _ hs ha' hl' hcnt (.nil _) (by omega) h0 (by omega) h1 (by omega) (.nil _) (by omega) e0 hw.de (by omega)
      | false =>
        simp only [cond_false]
        cases bg with
        | true => exact ⟨_, _, rfl, .inl ⟨rfl, rfl, rfl⟩⟩
        | false =>
          have q3 : decide ((n0 + 1) * 64 ≤ 140737488355328) = true := by simp; omega
          simp only [q3, cond_true, cond_false]
          exact ih.f0 s a' l' cnt false 0 0 _ [] (n0 + 1) _ (l0 ++ [.mk b0 v0 true l1]) _ _ _ _ hs ha' hl' hcnt (.nil _) (by omega) (h0.app (itC e0 h1)) (by omega) (by omega)
theorem sp2 (g m : Nat) (ih : Good g m) : St2 g (m + 1) := by
  intro s a l cnt bg ln nw fw ws n0 f0 l0 n1 f1 l1 n2 f2 l2 b0 w0 v0 b1 w1 v1 tk tl tt tq hs ha hl hcnt hw hwr h0 h0r h1 h1r h2 h2r e0 e1 hm
  obtain ⟨t, r', l', a', hc, ht, hA, hL, htok, hr', ha', hl', her, hbr, hwd⟩ := tokF s a l hs ha hl
  rw [st82, runP_succ htok]
  subst hr'
  have hcw : cnt ≠ 600 → IntKind.wrap IntKind.i64 ((cnt : Int) + 1) = ((cnt + 1 : Nat) : Int) := fun _ => by rw [wrap_id (by omega) (by omega)]; omega
  simp only [hc, ht, hA, hL, cond_true]
  cases t with
  | eof =>
    simp only [tkEr, tkKind, ne0, eq0, cond_true, cond_false, goP, endP]
    cases bg with
    | true => exact ⟨_, _, rfl, .inl ⟨rfl, rfl, rfl⟩⟩
    | false => exact ⟨_, _, rfl, .inl ⟨rfl, rfl, rfl⟩⟩
  | err e =>
    have he : (e != 0) = true := by simpa using her e rfl
    simp only [tkEr, tkEl, he, cond_true]
    exact ⟨_, _, rfl, .inl ⟨rfl, rfl, rfl⟩⟩
  | wd w dq =>
    have hlt := hwd w dq rfl
    simp only [tkEr, tkKind, tkLn, tkTxt, tkQ, ne0, eq119a, eq119, cond_true, cond_false, goP, Go.Eb.stepT, Go.Eb.stepW, Bool.not_false, Bool.not_true]
    cases bg with
    | false =>
      simp only [cond_true, Bool.not_false]
      rw [opn_eq]
      cases hop : opW ⟨⟨w.toArray⟩, dq⟩ with
      | false => exact ⟨_, _, rfl, .inl ⟨rfl, rfl, rfl⟩⟩
      | true =>
        simp only [Bool.not_true, cond_false]
        by_cases h600 : cnt = 600
        · subst h600; exact ⟨_, _, rfl, .inl ⟨rfl, rfl, rfl⟩⟩
        · have q1 : ((cnt : Int) == 600) = false := by simp; omega
          have q2 : (cnt == 600) = false := by simpa using h600
          simp only [q1, q2, cond_false, hcw h600]
          exact ih.f2 s a' l' (cnt + 1) true l' 1 _ [⟨⟨w.toArray⟩, dq⟩] n0 f0 l0 n1 f1 l1 n2 f2 l2 b0 w0 v0 b1 w1 v1 _ _ _ _ hs ha' hl' (by omega) (.one _ _) (by omega) h0 (by omega) h1 (by omega) h2 (by omega) e0 e1 (by omega)
    | true =>
      simp only [Bool.not_true, cond_false]
      by_cases h40 : nw = 40
      · have q1 : ((nw : Int) == 40) = true := by simp; omega
        have q2 : (ws.length == 40) = true := by rw [← hw.1]; simpa using h40
        simp only [q1, q2, cond_true]
        exact ⟨_, _, rfl, .inl ⟨rfl, rfl, rfl⟩⟩
      · have q1 : ((nw : Int) == 40) = false := by simp; omega
        have q2 : (ws.length == 40) = false := by rw [← hw.1]; simpa using h40
        have q3 : (decide ((nw + 1) * 24 ≤ 140737488355328) && decide (nw + 1 ≤ 9223372036854775807)) = true := by simp; omega
        simp only [q1, q2, q3, cond_true, cond_false]
        exact ih.f2 s a' l' cnt true ln (nw + 1) _ (ws ++ [⟨⟨w.toArray⟩, dq⟩]) n0 f0 l0 n1 f1 l1 n2 f2 l2 b0 w0 v0 b1 w1 v1 _ _ _ _ hs ha' hl' hcnt hw.app (by omega) h0 (by omega) h1 (by omega) h2 (by omega) e0 e1 (by omega)
  | br c =>
    obtain ⟨hk, hlt⟩ := hbr c rfl
    obtain ⟨hc0, hc119⟩ := br_ne hk
    simp only [tkEr, tkKind, tkLn, ne0, hc0, hc119, cond_true, cond_false, goP, Go.Eb.stepT, Go.Eb.stepB, tkTxt, tkQ]
    cases h59 : (q c == 59) with
    | true =>
      simp only [cond_true]
      cases bg with
      | false => exact ⟨_, _, rfl, .inl ⟨rfl, rfl, rfl⟩⟩
      | true =>
        have q3 : decide ((n2 + 1) * 64 ≤ 140737488355328) = true := by simp; omega
        simp only [Bool.not_true, cond_false, q3, cond_true]
        exact ih.f2 s a' l' cnt false 0 0 _ [] n0 f0 l0 n1 f1 l1 (n2 + 1) _ (l2 ++ [.mk ln ws false []]) b0 w0 v0 b1 w1 v1 _ _ _ _ hs ha' hl' hcnt (.nil _) (by omega) h0 (by omega) h1 (by omega) (h2.app (itS hw)) (by omega) e0 e1 (by omega)
    | false =>
      simp only [cond_false]
      cases h123 : (q c == 123) with
      | true =>
        simp only [cond_true]
        cases bg with
        | false => exact ⟨_, _, rfl, .inl ⟨rfl, rfl, rfl⟩⟩
        | true =>
          exact ih.f3 s a' l' cnt false 0 0 _ [] n0 f0 l0 n1 f1 l1 n2 f2 l2 0 _ [] b0 w0 v0 b1 w1 v1 ln _ ws _ _ _ _ hs ha' hl' hcnt (.nil _) (by omega) h0 (by omega) h1 (by omega) h2 (by omega) (.nil _) (by omega) e0 e1 hw.de (by omega)
      | false =>
        simp only [cond_false]
        cases bg with
        | true => exact ⟨_, _, rfl, .inl ⟨rfl, rfl, rfl⟩⟩
        | false =>
          have q3 : decide ((n1 + 1) * 64 ≤ 140737488355328) = true := by simp; omega
          simp only [q3, cond_true, cond_false]
          exact ih.f1 s a' l' cnt false 0 0 _ [] n0 f0 l0 (n1 + 1) _ (l1 ++ [.mk b1 v1 true l2]) b0 w0 v0 _ _ _ _ hs ha' hl' hcnt (.nil _) (by omega) h0 (by omega) (h1.app (itC e1 h2)) (by omega) e0 (by omega)
theorem sp3 (g m : Nat) (ih : Good g m) : St3 g (m + 1) := by
  intro s a l cnt bg ln nw fw ws n0 f0 l0 n1 f1 l1 n2 f2 l2 n3 f3 l3 b0 w0 v0 b1 w1 v1 b2 w2 v2 tk tl tt tq hs ha hl hcnt hw hwr h0 h0r h1 h1r h2 h2r h3 h3r e0 e1 e2 hm
  obtain ⟨t, r', l', a', hc, ht, hA, hL, htok, hr', ha', hl', her, hbr, hwd⟩ := tokF s a l hs ha hl
  rw [st83, runP_succ htok]
  subst hr'
  have hcw : cnt ≠ 600 → IntKind.wrap IntKind.i64 ((cnt : Int) + 1) = ((cnt + 1 : Nat) : Int) := fun _ => by rw [wrap_id (by omega) (by omega)]; omega
  simp only [hc, ht, hA, hL, cond_true]
  cases t with
  | eof =>
    simp only [tkEr, tkKind, ne0, eq0, cond_true, cond_false, goP, endP]
    cases bg with
    | true => exact ⟨_, _, rfl, .inl ⟨rfl, rfl, rfl⟩⟩
    | false => exact ⟨_, _, rfl, .inl ⟨rfl, rfl, rfl⟩⟩
  | err e =>
    have he : (e != 0) = true := by simpa using her e rfl
    simp only [tkEr, tkEl, he, cond_true]
    exact ⟨_, _, rfl, .inl ⟨rfl, rfl, rfl⟩⟩
  | wd w dq =>
    have hlt := hwd w dq rfl
    simp only [tkEr, tkKind, tkLn, tkTxt, tkQ, ne0, eq119a, eq119, cond_true, cond_false, goP, Go.Eb.stepT, Go.Eb.stepW, Bool.not_false, Bool.not_true]
    cases bg with
    | false =>
      simp only [cond_true, Bool.not_false]
      rw [opn_eq]
      cases hop : opW ⟨⟨w.toArray⟩, dq⟩ with
      | false => exact ⟨_, _, rfl, .inl ⟨rfl, rfl, rfl⟩⟩
      | true =>
        simp only [Bool.not_true, cond_false]
        by_cases h600 : cnt = 600
        · subst h600; exact ⟨_, _, rfl, .inl ⟨rfl, rfl, rfl⟩⟩
        · have q1 : ((cnt : Int) == 600) = false := by simp; omega
          have q2 : (cnt == 600) = false := by simpa using h600
          simp only [q1, q2, cond_false, hcw h600]
          exact ih.f3 s a' l' (cnt + 1) true l' 1 _ [⟨⟨w.toArray⟩, dq⟩] n0 f0 l0 n1 f1 l1 n2 f2 l2 n3 f3 l3 b0 w0 v0 b1 w1 v1 b2 w2 v2 _ _ _ _ hs ha' hl' (by omega) (.one _ _) (by omega) h0 (by omega) h1 (by omega) h2 (by omega) h3 (by omega) e0 e1 e2 (by omega)
    | true =>
      simp only [Bool.not_true, cond_false]
      by_cases h40 : nw = 40
      · have q1 : ((nw : Int) == 40) = true := by simp; omega
        have q2 : (ws.length == 40) = true := by rw [← hw.1]; simpa using h40
        simp only [q1, q2, cond_true]
        exact ⟨_, _, rfl, .inl ⟨rfl, rfl, rfl⟩⟩
      · have q1 : ((nw : Int) == 40) = false := by simp; omega
        have q2 : (ws.length == 40) = false := by rw [← hw.1]; simpa using h40
        have q3 : (decide ((nw + 1) * 24 ≤ 140737488355328) && decide (nw + 1 ≤ 9223372036854775807)) = true := by simp; omega
        simp only [q1, q2, q3, cond_true, cond_false]
        exact ih.f3 s a' l' cnt true ln (nw + 1) _ (ws ++ [⟨⟨w.toArray⟩, dq⟩]) n0 f0 l0 n1 f1 l1 n2 f2 l2 n3 f3 l3 b0 w0 v0 b1 w1 v1 b2 w2 v2 _ _ _ _ hs ha' hl' hcnt hw.app (by omega) h0 (by omega) h1 (by omega) h2 (by omega) h3 (by omega) e0 e1 e2 (by omega)
  | br c =>
    obtain ⟨hk, hlt⟩ := hbr c rfl
    obtain ⟨hc0, hc119⟩ := br_ne hk
    simp only [tkEr, tkKind, tkLn, ne0, hc0, hc119, cond_true, cond_false, goP, Go.Eb.stepT, Go.Eb.stepB, tkTxt, tkQ]
    cases h59 : (q c == 59) with
    | true =>
      simp only [cond_true]
      cases bg with
      | false => exact ⟨_, _, rfl, .inl ⟨rfl, rfl, rfl⟩⟩
      | true =>
        have q3 : decide ((n3 + 1) * 64 ≤ 140737488355328) = true := by simp; omega
        simp only [Bool.not_true, cond_false, q3, cond_true]
        exact ih.f3 s a' l' cnt false 0 0 _ [] n0 f0 l0 n1 f1 l1 n2 f2 l2 (n3 + 1) _ (l3 ++ [.mk ln ws false []]) b0 w0 v0 b1 w1 v1 b2 w2 v2 _ _ _ _ hs ha' hl' hcnt (.nil _) (by omega) h0 (by omega) h1 (by omega) h2 (by omega) (h3.app (itS hw)) (by omega) e0 e1 e2 (by omega)
    | false =>
      simp only [cond_false]
      cases h123 : (q c == 123) with
      | true =>
        simp only [cond_true]
        cases bg with
        | false => exact ⟨_, _, rfl, .inl ⟨rfl, rfl, rfl⟩⟩
        | true =>
          exact ih.f4 s a' l' cnt false 0 0 _ [] n0 f0 l0 n1 f1 l1 n2 f2 l2 n3 f3 l3 0 _ [] b0 w0 v0 b1 w1 v1 b2 w2 v2 ln _ ws _ _ _ _ hs ha' hl' hcnt (.nil _) (by omega) h0 (by omega) h1 (by omega) h2 (by omega) h3 (by omega) (.nil _) (by omega) e0 e1 e2 hw.de (by omega)
      | false =>
        simp only [cond_false]
        cases bg with
        | true => exact ⟨_, _, rfl, .inl ⟨rfl, rfl, rfl⟩⟩
        | false =>
          have q3 : decide ((n2 + 1) * 64 ≤ 140737488355328) = true := by simp; omega
          simp only [q3, cond_true, cond_false]
          exact ih.f2 s a' l' cnt false 0 0 _ [] n0 f0 l0 n1 f1 l1 (n2 + 1) _ (l2 ++ [.mk b2 v2 true l3]) b0 w0 v0 b1 w1 v1 _ _ _ _ hs ha' hl' hcnt (.nil _) (by omega) h0 (by omega) h1 (by omega) (h2.app (itC e2 h3)) (by omega) e0 e1 (by omega)
theorem sp4 (g m : Nat) (ih : Good g m) : St4 g (m + 1) := by
  intro s a l cnt bg ln nw fw ws n0 f0 l0 n1 f1 l1 n2 f2 l2 n3 f3 l3 n4 f4 l4 b0 w0 v0 b1 w1 v1 b2 w2 v2 b3 w3 v3 tk tl tt tq hs ha hl hcnt hw hwr h0 h0r h1 h1r h2 h2r h3 h3r h4 h4r e0 e1 e2 e3 hm
  obtain ⟨t, r', l', a', hc, ht, hA, hL, htok, hr', ha', hl', her, hbr, hwd⟩ := tokF s a l hs ha hl
  rw [st84, runP_succ htok]
  subst hr'
  have hcw : cnt ≠ 600 → IntKind.wrap IntKind.i64 ((cnt : Int) + 1) = ((cnt + 1 : Nat) : Int) := fun _ => by rw [wrap_id (by omega) (by omega)]; omega
  simp only [hc, ht, hA, hL, cond_true]
  cases t with
  | eof =>
    simp only [tkEr, tkKind, ne0, eq0, cond_true, cond_false, goP, endP]
    cases bg with
    | true => exact ⟨_, _, rfl, .inl ⟨rfl, rfl, rfl⟩⟩
    | false => exact ⟨_, _, rfl, .inl ⟨rfl, rfl, rfl⟩⟩
  | err e =>
    have he : (e != 0) = true := by simpa using her e rfl
    simp only [tkEr, tkEl, he, cond_true]
    exact ⟨_, _, rfl, .inl ⟨rfl, rfl, rfl⟩⟩
  | wd w dq =>
    have hlt := hwd w dq rfl
    simp only [tkEr, tkKind, tkLn, tkTxt, tkQ, ne0, eq119a, eq119, cond_true, cond_false, goP, Go.Eb.stepT, Go.Eb.stepW, Bool.not_false, Bool.not_true]
    cases bg with
    | false =>
      simp only [cond_true, Bool.not_false]
      rw [opn_eq]
      cases hop : opW ⟨⟨w.toArray⟩, dq⟩ with
      | false => exact ⟨_, _, rfl, .inl ⟨rfl, rfl, rfl⟩⟩
      | true =>
        simp only [Bool.not_true, cond_false]
        by_cases h600 : cnt = 600
        · subst h600; exact ⟨_, _, rfl, .inl ⟨rfl, rfl, rfl⟩⟩
        · have q1 : ((cnt : Int) == 600) = false := by simp; omega
          have q2 : (cnt == 600) = false := by simpa using h600
          simp only [q1, q2, cond_false, hcw h600]
          exact ih.f4 s a' l' (cnt + 1) true l' 1 _ [⟨⟨w.toArray⟩, dq⟩] n0 f0 l0 n1 f1 l1 n2 f2 l2 n3 f3 l3 n4 f4 l4 b0 w0 v0 b1 w1 v1 b2 w2 v2 b3 w3 v3 _ _ _ _ hs ha' hl' (by omega) (.one _ _) (by omega) h0 (by omega) h1 (by omega) h2 (by omega) h3 (by omega) h4 (by omega) e0 e1 e2 e3 (by omega)
    | true =>
      simp only [Bool.not_true, cond_false]
      by_cases h40 : nw = 40
      · have q1 : ((nw : Int) == 40) = true := by simp; omega
        have q2 : (ws.length == 40) = true := by rw [← hw.1]; simpa using h40
        simp only [q1, q2, cond_true]
        exact ⟨_, _, rfl, .inl ⟨rfl, rfl, rfl⟩⟩
      · have q1 : ((nw : Int) == 40) = false := by simp; omega
        have q2 : (ws.length == 40) = false := by rw [← hw.1]; simpa using h40
        have q3 : (decide ((nw + 1) * 24 ≤ 140737488355328) && decide (nw + 1 ≤ 9223372036854775807)) = true := by simp; omega
        simp only [q1, q2, q3, cond_true, cond_false]
        exact ih.f4 s a' l' cnt true ln (nw + 1) _ (ws ++ [⟨⟨w.toArray⟩, dq⟩]) n0 f0 l0 n1 f1 l1 n2 f2 l2 n3 f3 l3 n4 f4 l4 b0 w0 v0 b1 w1 v1 b2 w2 v2 b3 w3 v3 _ _ _ _ hs ha' hl' hcnt hw.app (by omega) h0 (by omega) h1 (by omega) h2 (by omega) h3 (by omega) h4 (by omega) e0 e1 e2 e3 (by omega)
  | br c =>
    obtain ⟨hk, hlt⟩ := hbr c rfl
    obtain ⟨hc0, hc119⟩ := br_ne hk
    simp only [tkEr, tkKind, tkLn, ne0, hc0, hc119, cond_true, cond_false, goP, Go.Eb.stepT, Go.Eb.stepB, tkTxt, tkQ]
    cases h59 : (q c == 59) with
    | true =>
      simp only [cond_true]
      cases bg with
      | false => exact ⟨_, _, rfl, .inl ⟨rfl, rfl, rfl⟩⟩
      | true =>
        have q3 : decide ((n4 + 1) * 64 ≤ 140737488355328) = true := by simp; omega
        simp only [Bool.not_true, cond_false, q3, cond_true]
        exact ih.f4 s a' l' cnt false 0 0 _ [] n0 f0 l0 n1 f1 l1 n2 f2 l2 n3 f3 l3 (n4 + 1) _ (l4 ++ [.mk ln ws false []]) b0 w0 v0 b1 w1 v1 b2 w2 v2 b3 w3 v3 _ _ _ _ hs ha' hl' hcnt (.nil _) (by omega) h0 (by omega) h1 (by omega) h2 (by omega) h3 (by omega) (h4.app (itS hw)) (by omega) e0 e1 e2 e3 (by omega)
    | false =>
      simp only [cond_false]
      cases h123 : (q c == 123) with
      | true =>
        simp only [cond_true]
        cases bg with
        | false => exact ⟨_, _, rfl, .inl ⟨rfl, rfl, rfl⟩⟩
        | true =>
          exact ⟨_, _, rfl, .inl ⟨rfl, rfl, rfl⟩⟩
      | false =>
        simp only [cond_false]
        cases bg with
        | true => exact ⟨_, _, rfl, .inl ⟨rfl, rfl, rfl⟩⟩
        | false =>
          have q3 : decide ((n3 + 1) * 64 ≤ 140737488355328) = true := by simp; omega
          simp only [q3, cond_true, cond_false]
          exact ih.f3 s a' l' cnt false 0 0 _ [] n0 f0 l0 n1 f1 l1 n2 f2 l2 (n3 + 1) _ (l3 ++ [.mk b3 v3 true l4]) b0 w0 v0 b1 w1 v1 b2 w2 v2 _ _ _ _ hs ha' hl' hcnt (.nil _) (by omega) h0 (by omega) h1 (by omega) h2 (by omega) (h3.app (itC e3 h4)) (by omega) e0 e1 e2 (by omega)
theorem good (g : Nat) : ∀ m, Good g m := by
  intro m
  induction m with
  | zero => exact ⟨by unfold Stn; intros; omega, by unfold St0; intros; omega, by unfold St1; intros; omega, by unfold St2; intros; omega, by unfold St3; intros; omega, by unfold St4; intros; omega⟩
  | succ m ih => exact ⟨spn g m ih, sp0 g m ih, sp1 g m ih, sp2 g m ih, sp3 g m ih, sp4 g m ih⟩
end Go.Proofs.Ytkmmkdeoamhpfaa.ps

