/-
  Parse's contract. No condition.
-/
import Derived.Test.YtkmmkdeoamhpfaaPq
namespace Go.Proofs.Ytkmmkdeoamhpfaa.ps
open Go.RowKit Go.Eb
open Go.Proofs.Ytkmmkdeoamhpfaa.wd (plainR bs bs_len wrap_id)
open Go.Proofs.Ytkmmkdeoamhpfaa.ck (opn c49 decWd_ok)

theorem b8 : Try.f8.body = some (bodyOf Try.f8) := by kernel_rfl
theorem b23 : Try.f23.body = some (bodyOf Try.f23) := by kernel_rfl
theorem b43 : Try.f43.body = some (bodyOf Try.f43) := by kernel_rfl
theorem os43 : OrcS Try.prog (o43 opn) := .cons (.p decWd_ok c49) .nil
theorem os23 : OrcS Try.prog (o23 opn) := .cons (.inl os43 Try.func43 b43) (.cons okAd .nil)
theorem os8 : OrcS Try.prog (o8 skT opn) := .cons a22 (.cons (.inl os23 Try.func23 b23) .nil)

theorem w01 : IntKind.wrap IntKind.i64 ((0 : Int) + 1) = ((1 : Nat) : Int) := by kernel_rfl
theorem z600 : ((0 : Nat) == 600) = false := rfl
theorem run8 (s : ByteArray) (g : Nat) (hg : s.size < g) : ∃ x H', callA Try.prog (o8 skT opn) ann8 g Try.f8 (bodyOf Try.f8) [vS s] [] = some (.leaf (x, H')) ∧ Fin x H' (bif decide (12000 < s.size) then ([], 0, 4) else runP (g + 1) s.data.toList 1 ps0) := by
  rw [ev8, w01]
  have hd : decide ((s.size : Int) > 12000) = decide (12000 < s.size) := by rw [Bool.eq_iff_iff]; simp; omega
  rw [hd]
  by_cases hs : 12000 < s.size
  · simp only [hs, decide_true, cond_true]
    exact ⟨_, _, rfl, .inl ⟨rfl, rfl, rfl⟩⟩
  · simp only [hs, decide_false, cond_false]
    have hs : s.size ≤ 12000 := by omega
    obtain ⟨t, r', l', a', hc, ht, hA, hL, htok, hr', ha', hl', her, hbr, hwd⟩ := tokF s 0 1 hs (by omega) (by omega)
    have hc : skT.c s 0 1 = true := by simpa using hc
    have ht : skT.t s 0 1 = t := by simpa using ht
    have hA : skT.a s 0 1 = a' := by simpa using hA
    have hL : skT.l s 0 1 = l' := by simpa using hL
    have htok : tokL s.data.toList 1 = (t, r', l') := htok
    have hrl := rest_len s 0
    rw [runP_succ htok]
    subst hr'
    simp only [hc, ht, hA, hL, cond_true]
    cases t with
    | eof =>
      simp only [tkEr, tkKind, ne0, eq0, cond_true, cond_false, goP, endP]
      exact ⟨_, _, rfl, .inl ⟨rfl, rfl, rfl⟩⟩
    | err e =>
      have he : (e != 0) = true := by simpa using her e rfl
      simp only [tkEr, tkEl, he, cond_true]
      exact ⟨_, _, rfl, .inl ⟨rfl, rfl, rfl⟩⟩
    | wd w dq =>
      have hlt := hwd w dq rfl
      have hgo : goP (runP g) ps0 (rest s a') l' (.wd w dq) = bif !opW ⟨⟨w.toArray⟩, dq⟩ then ([], (l' : Int), 6) else runP g (rest s a') l' ⟨1, [[]], [], true, l', [⟨⟨w.toArray⟩, dq⟩]⟩ := by
        simp only [goP, Go.Eb.stepT, Go.Eb.stepW, ps0]
        cases opW ⟨⟨w.toArray⟩, dq⟩ <;> rfl
      rw [hgo]
      simp only [tkEr, tkKind, tkLn, tkTxt, tkQ, ne0, eq119a, eq119, cond_true, cond_false, opn_eq]
      generalize opW ⟨⟨w.toArray⟩, dq⟩ = o
      cases o with
      | false => exact ⟨_, _, rfl, .inl ⟨rfl, rfl, rfl⟩⟩
      | true =>
        obtain ⟨x, H', h1, h2⟩ := (good g g).fn s a' l' 1 true l' 1 (chunk [D.v (.string ⟨w.toArray⟩), D.v (.bool dq)] 2) [⟨⟨w.toArray⟩, dq⟩] 0 (fun _ => []) [] 119 l' ⟨w.toArray⟩ dq hs ha' hl' (by omega) (.one _ _) (by omega) (.nil _) (by omega) (by omega)
        exact ⟨x, H', h1, h2⟩
    | br c =>
      obtain ⟨hk, hlt⟩ := hbr c rfl
      obtain ⟨hc0, hc119⟩ := br_ne hk
      simp only [tkEr, tkKind, tkLn, ne0, hc0, hc119, cond_true, cond_false, goP, Go.Eb.stepT, Go.Eb.stepB, ps0]
      cases h59 : (q c == 59) with
      | true => exact ⟨_, _, rfl, .inl ⟨rfl, rfl, rfl⟩⟩
      | false =>
        cases h123 : (q c == 123) with
        | true => exact ⟨_, _, rfl, .inl ⟨rfl, rfl, rfl⟩⟩
        | false => exact ⟨_, _, rfl, .inl ⟨rfl, rfl, rfl⟩⟩

abbrev rP (r : List It × Int × Int) : AV := .tup [(false, [.d (itemsD r.1)]), pI r.2.1, pI r.2.2]
theorem ale3 {x y : D} {a b : Int} (h : DE x y) : Ale (.tup [(false, [.d x]), pI a, pI b]) (.tup [(false, [.d y]), pI a, pI b]) := by
  refine ⟨rfl, fun j p q hp hq => ?_⟩
  match j with
  | 0 => simp at hp hq; subst hp hq; exact ⟨rfl, .cons h .nil⟩
  | 1 => simp at hp hq; subst hp hq; exact ⟨rfl, .refl _⟩
  | 2 => simp at hp hq; subst hp hq; exact ⟨rfl, .refl _⟩
  | j + 3 => simp at hp
theorem c8 (s : ByteArray) : CX Try.prog 8 [vS s] [] (rP (parseP s)) [] := by
  obtain ⟨x, H', h, hf⟩ := run8 s (s.size + 1) (by omega)
  have hf : Fin x H' (parseP s) := hf
  have hcr := cr_of os8.ok Try.func8 b8 rfl h
  refine .of_cr Try.func8 b8 ?_
  rcases hf with ⟨rfl, rfl, h1⟩ | ⟨n, f, rfl, rfl, h1⟩
  · refine hcr.le (ale3 ?_) (.refl _)
    rw [h1]; exact .nil _ _
  · exact (hcr.data rfl).le (ale3 h1.de) (.refl _)
end Go.Proofs.Ytkmmkdeoamhpfaa.ps
