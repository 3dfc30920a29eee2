/-
  The reference's Format: its contract. No condition.
-/
import Derived.Test.YtkmmkdeoamhpfaaFu
namespace Go.Proofs.Ytkmmkdeoamhpfaa.fo
open Go.RowKit Go.Eb
open Go.Proofs.Ytkmmkdeoamhpfaa.wd
open Go.Proofs.Ytkmmkdeoamhpfaa.bu (src)
open Go.Proofs.Ytkmmkdeoamhpfaa.ct (drop_cons lt1 lt0 ge0 tn nx)

def rep : Nat → ByteArray
  | 0 => .empty
  | n + 1 => rep n ++ sp2
theorem rep_size : ∀ n, (rep n).size = 2 * n
  | 0 => rfl
  | n + 1 => by have e : sp2.size = 2 := rfl; rw [rep, size_app, rep_size n, e]; omega
noncomputable def cR (N : Nat) (x : D) (d : Int) : Bool := okI x && okL (theI x) && decide (dep (theI x) < N) && decide (0 ≤ d) && decide (d + dep (theI x) ≤ 1000) && decide ((fmt (rep d.toNat) (theI x)).size ≤ 9223372036854775807)
noncomputable def fR (x : D) (d : Int) : ByteArray := fmt (rep d.toNat) (theI x)
theorem e_mk : ByteArray.mk #[] = ByteArray.empty := rfl
abbrev q1 : ByteArray := ByteArray.mk #[34]
theorem src_q {w : Wd} (h : w.q = true) : src w = q1 ++ (w.text ++ q1) := by unfold src; rw [h]; simp only [cond_true, app_as]
theorem src_n {w : Wd} (h : w.q = false) : src w = w.text := by unfold src; rw [h]; rfl

theorem in39 (N : Nat) (l : List It) (d : Nat) (g m i : Nat) (hi : i < l.length) (hl : l.length ≤ 9223372036854775807) (hw : okWs (l.getD i i0).words = true) (hk : okL (l.getD i i0).kids = true) (hd : dep (l.getD i i0).kids < N) (hdd : d + dep (l.getD i i0).kids + 1 ≤ 1000) :
    ∀ (m1 j : Nat) (b : ByteArray), j ≤ (l.getD i i0).words.length → (l.getD i i0).words.length - j < m1 → b.size + (wtx (decide ((j : Int) > 0)) ((l.getD i i0).words.drop j)).size + (tl (rep d) (l.getD i i0)).size ≤ 9223372036854775807 →
      I39 (cR N) fR l d (rep d) g m m1 b i j = L39 (cR N) fR l d (rep d) g m (b ++ (wtx (decide ((j : Int) > 0)) ((l.getD i i0).words.drop j) ++ tl (rep d) (l.getD i i0))) ((i + 1 : Nat) : Int)
  | 0, j, b, _, h, _ => by omega
  | m1 + 1, j, b, hj, h, hb => by
    rw [si39]
    simp only [tn, lt1 hi, ge0, Bool.and_self, cond_true]
    generalize hx : l.getD i i0 = x at hw hk hd hdd hj h hb ⊢
    have e0 : ByteArray.empty.size = 0 := rfl
    have e1 : sp1.size = 1 := rfl
    have e2 : q1.size = 1 := rfl
    by_cases hlt : j < x.words.length
    · rw [drop_cons x.words w0 hlt] at hb ⊢
      simp only [lt1 hlt, Bool.and_self, cond_true]
      generalize hwd : x.words.getD j w0 = w at hb ⊢
      simp only [wtx, size_app] at hb
      rw [nx hlt (okWs_len hw)]
      have ih := fun b' => in39 N l d g m i hi hl (by rw [hx]; exact hw) (by rw [hx]; exact hk) (by rw [hx]; exact hd) (by rw [hx]; exact hdd) m1 (j + 1) b' (by rw [hx]; omega) (by rw [hx]; omega)
      rw [hx, gt0] at ih
      cases j with
      | zero =>
        simp only [gt00, cond_false, Nat.zero_add, e0] at hb ih ⊢
        cases hq : w.q with
        | true =>
          rw [src_q hq] at hb
          simp only [size_app, e2] at hb
          simp only [cond_true]
          rw [decide_eq_true (show b.size + q1.size ≤ 9223372036854775807 by rw [e2]; omega), decide_eq_true (show (b ++ q1).size + w.text.size ≤ 9223372036854775807 by simp only [size_app, e2]; omega), decide_eq_true (show (b ++ q1 ++ w.text).size + q1.size ≤ 9223372036854775807 by simp only [size_app, e2]; omega), cond_true, cond_true, cond_true]
          rw [ih _ (by simp only [size_app, e2]; omega)]
          simp only [wtx, cond_false, e_app, app_as, src_q hq]
        | false =>
          rw [src_n hq] at hb
          simp only [cond_false]
          rw [decide_eq_true (show b.size + w.text.size ≤ 9223372036854775807 by omega), cond_true]
          rw [ih _ (by simp only [size_app]; omega)]
          simp only [wtx, cond_false, e_app, app_as, src_n hq]
      | succ j =>
        simp only [gt0, cond_true] at hb ⊢
        rw [e1] at hb
        rw [decide_eq_true (show b.size + sp1.size ≤ 9223372036854775807 by rw [e1]; omega), cond_true]
        cases hq : w.q with
        | true =>
          rw [src_q hq] at hb
          simp only [size_app, e2] at hb
          simp only [cond_true]
          rw [decide_eq_true (show (b ++ sp1).size + q1.size ≤ 9223372036854775807 by simp only [size_app, e1, e2]; omega), decide_eq_true (show (b ++ sp1 ++ q1).size + w.text.size ≤ 9223372036854775807 by simp only [size_app, e1, e2]; omega), decide_eq_true (show (b ++ sp1 ++ q1 ++ w.text).size + q1.size ≤ 9223372036854775807 by simp only [size_app, e1, e2]; omega), cond_true, cond_true, cond_true]
          rw [ih _ (by simp only [size_app, e1, e2]; omega)]
          simp only [wtx, cond_true, app_as, src_q hq]
        | false =>
          rw [src_n hq] at hb
          simp only [cond_false]
          rw [decide_eq_true (show (b ++ sp1).size + w.text.size ≤ 9223372036854775807 by simp only [size_app, e1]; omega), cond_true]
          rw [ih _ (by simp only [size_app, e1]; omega)]
          simp only [wtx, cond_true, app_as, src_n hq]
    · rw [List.drop_of_length_le (by omega)] at hb ⊢
      simp only [wtx, e0] at hb
      simp only [lt0 hlt, cond_false, wtx, e_app]
      rw [nx hi hl]
      unfold tl at hb ⊢
      cases hbl : x.block with
      | false =>
        rw [hbl] at hb
        simp only [cond_false] at hb
        rw [decide_eq_true (show b.size + sc.size ≤ 9223372036854775807 by omega)]
        rfl
      | true =>
        rw [hbl] at hb
        simp only [cond_true, size_app] at hb
        have e3 : ob.size = 3 := rfl
        have e4 : cb.size = 2 := rfl
        have hwd : IntKind.wrap IntKind.i64 ((d : Int) + 1) = ((d + 1 : Nat) : Int) := by rw [wrap_id (by omega) (by omega)]; omega
        have hf : fR (kidsD x) ((d + 1 : Nat) : Int) = fmt (rep d ++ sp2) x.kids := by unfold fR; rw [theI_kids, tn]; rfl
        have hc : cR N (kidsD x) ((d + 1 : Nat) : Int) = true := by
          unfold cR
          rw [okI_kids, theI_kids, hk, decide_eq_true hd, decide_eq_true (show (0 : Int) ≤ ((d + 1 : Nat) : Int) by omega), decide_eq_true (show ((d + 1 : Nat) : Int) + dep x.kids ≤ 1000 by omega), tn, decide_eq_true (show (fmt (rep (d + 1)) x.kids).size ≤ 9223372036854775807 by show (fmt (rep d ++ sp2) x.kids).size ≤ 9223372036854775807; omega)]
          rfl
        rw [hwd, hc, hf]
        simp only [Bool.not_true, cond_false, cond_true]
        rw [decide_eq_true (show b.size + ob.size ≤ 9223372036854775807 by omega), decide_eq_true (show (b ++ ob).size + (fmt (rep d ++ sp2) x.kids).size ≤ 9223372036854775807 by simp only [size_app]; omega),
          decide_eq_true (show (b ++ ob ++ fmt (rep d ++ sp2) x.kids).size + (rep d).size ≤ 9223372036854775807 by simp only [size_app]; omega),
          decide_eq_true (show (b ++ ob ++ fmt (rep d ++ sp2) x.kids ++ rep d).size + cb.size ≤ 9223372036854775807 by simp only [size_app]; omega)]
        simp only [cond_true, app_as]

theorem lp39 (N : Nat) (l : List It) (d g : Nat) (hN : dep l ≤ N) (hL : okL l = true) (hg : wmax l < g) (hd : d + dep l ≤ 1000) : ∀ (m k : Nat) (b : ByteArray), k ≤ l.length → l.length - k < m → b.size + (fmt (rep d) (l.drop k)).size ≤ 9223372036854775807 →
    L39 (cR N) fR l d (rep d) g m b k = some (.leaf (vS (b ++ fmt (rep d) (l.drop k)), []))
  | 0, k, b, _, h, _ => by omega
  | m + 1, k, b, hk, h, hb => by
    rw [st39]
    by_cases hlt : k < l.length
    · rw [drop_cons l i0 hlt, fmt_cons] at hb ⊢
      simp only [size_app] at hb
      simp only [lt1 hlt, cond_true]
      rw [decide_eq_true (show b.size + (rep d).size ≤ 9223372036854775807 by omega), cond_true]
      obtain ⟨h1, h2⟩ := okL_get hL hlt
      have hdg := dep_get l k hlt
      have hin := in39 N l d g m k hlt (okL_len hL) h2 h1 (by omega) (by omega) g 0 (b ++ rep d) (by omega) (by have := wmax_get l k hlt; omega)
      simp only [gt00, List.drop_zero] at hin
      have hin := hin (by simp only [size_app]; omega)
      have hin' : I39 (cR N) fR l d (rep d) g m g (b ++ rep d) (k : Int) 0 = _ := hin
      rw [hin', lp39 N l d g hN hL hg hd m (k + 1) _ (by omega) (by omega) (by simp only [size_app]; omega)]
      simp only [app_as]
    · rw [lt0 hlt, List.drop_of_length_le (by omega), fmt_nil, app_e]
      rfl

theorem bl39 (N : Nat) (l : List It) (d g : Nat) (hd : d ≤ 1000) : ∀ (m k : Nat), k ≤ d → d - k < m → B39 (cR N) fR l d g m (rep k) k = L39 (cR N) fR l d (rep d) g g .empty 0
  | 0, k, _, h => by omega
  | m + 1, k, hk, h => by
    rw [sb39]
    by_cases hlt : k < d
    · have e : sp2.size = 2 := rfl
      simp only [lt1 hlt, cond_true]
      rw [decide_eq_true (show (rep k).size + sp2.size ≤ 9223372036854775807 by rw [rep_size, e]; omega), cond_true, nx hlt (by omega)]
      exact bl39 N l d g hd m (k + 1) (by omega) (by omega)
    · have : k = d := by omega
      subst this
      rw [lt0 hlt]
      rfl

theorem b39 : Try.f39.body = some (bodyOf Try.f39) := by kernel_rfl
theorem b19 : Try.f19.body = some (bodyOf Try.f19) := by kernel_rfl
theorem ans39_ok {N : Nat} (hc : ∀ (l : List It) (d : Nat), dep l < N → okL l = true → d + dep l ≤ 1000 → (fmt (rep d) l).size ≤ 9223372036854775807 → CX Try.prog 39 [aI l, vI d] [] (vS (fmt (rep d) l)) []) : OrcOk Try.prog (o39 (cR N) fR) :=
  Orc.cons_ok (Orc.nil_ok _) fun R args H k t h => by
    split at h
    · rename_i x d
      cases hcc : cR N x d with
      | false => rw [hcc] at h; cases h
      | true =>
        rw [hcc] at h
        unfold cR at hcc
        simp only [Bool.and_eq_true, decide_eq_true_eq] at hcc
        obtain ⟨⟨⟨⟨⟨p1, p2⟩, p3⟩, p4⟩, p5⟩, p6⟩ := hcc
        obtain ⟨dn, rfl⟩ : ∃ dn : Nat, d = dn := ⟨d.toNat, by omega⟩
        rw [tn] at p6
        have key := (hc (theI x) dn p3 p2 (by omega) p6).ge (.cons (ale_d (theI_de p1)) (.refl _)) (.refl _)
        have e : fR x (dn : Int) = fmt (rep dn) (theI x) := by unfold fR; rw [tn]
        rw [← e] at key
        exact ⟨_, _, h, key⟩
    · simp at h
theorem c39 : ∀ (N : Nat) (l : List It) (d : Nat), dep l < N → okL l = true → d + dep l ≤ 1000 → (fmt (rep d) l).size ≤ 9223372036854775807 → CX Try.prog 39 [aI l, vI d] [] (vS (fmt (rep d) l)) []
  | 0, l, d, h, _, _, _ => by omega
  | N + 1, l, d, h, hL, hd, hs => by
    refine cx_of (ans39_ok (c39 N)) Try.func39 b39 rfl ((ev39 (cR N) fR l d (wmax l + l.length + d + 1)).trans ?_)
    have h1 := bl39 N l d (wmax l + l.length + d + 1) (by omega) (wmax l + l.length + d + 1) 0 (by omega) (by omega)
    have h1' : B39 (cR N) fR l d (wmax l + l.length + d + 1) (wmax l + l.length + d + 1) (ByteArray.mk #[]) 0 = _ := h1
    rw [h1']
    have e0 : ByteArray.empty.size = 0 := rfl
    have h2 := lp39 N l d (wmax l + l.length + d + 1) (by omega) hL (by omega) hd (wmax l + l.length + d + 1) 0 .empty (by omega) (by omega) (by rw [List.drop_zero]; omega)
    rw [List.drop_zero, e_app] at h2
    exact h2

theorem c19 (l : List It) (hL : okL l = true) : CX Try.prog 19 [aI l] [] (vS (fmtK l)) [] := by
  have ho : OrcOk Try.prog (o19 ckF okF (cR (dep l + 1)) fR) := Orc.cons_ok (ans39_ok (c39 (dep l + 1))) (ans1_ok (chk_ok ck.c18))
  refine cx_of ho Try.func19 b19 rfl ((ev19 ckF okF (cR (dep l + 1)) fR l).trans ?_)
  have e1 : okF (itemsD l) = true := by unfold okF; rw [okI_items, theI_items, hL]; rfl
  rw [e1]
  unfold fmtK ckF
  simp only [theI_items, cond_true]
  cases hc : (ck.chk l != 0) with
  | true => rfl
  | false =>
    have hs := chk_size l (by simpa using hc)
    have hdp := chk_dep l (by simpa using hc)
    have e2 : cR (dep l + 1) (itemsD l) 0 = true := by
      unfold cR
      rw [okI_items, theI_items, hL, decide_eq_true (Nat.lt_succ_self _), decide_eq_true (show (0 : Int) ≤ 0 by omega), decide_eq_true (show (0 : Int) + dep l ≤ 1000 by omega), decide_eq_true (show (fmt (rep (Int.toNat 0)) l).size ≤ 9223372036854775807 by show (fmt .empty l).size ≤ 9223372036854775807; omega)]
      rfl
    have e3 : fR (itemsD l) 0 = fmt .empty l := by unfold fR; rw [theI_items]; rfl
    rw [e2, e3]
    rfl
end Go.Proofs.Ytkmmkdeoamhpfaa.fo
