/-
  Count and Same, of the program and of the reference: one contract for each. No condition.
-/
import Derived.Test.YtkmmkdeoamhpfaaCt
import Derived.Test.YtkmmkdeoamhpfaaWe
namespace Go.Proofs.Ytkmmkdeoamhpfaa.ct
open Go.RowKit Go.Eb
open Go.Proofs.Ytkmmkdeoamhpfaa.wd (wrap_id)

theorem b9 : Try.f9.body = some (bodyOf Try.f9) := by kernel_rfl
theorem b20 : Try.f20.body = some (bodyOf Try.f20) := by kernel_rfl
theorem b26 : Try.f26.body = some (bodyOf Try.f26) := by kernel_rfl
theorem b25 : Try.f25.body = some (bodyOf Try.f25) := by kernel_rfl
theorem b24 : Try.f24.body = some (bodyOf Try.f24) := by kernel_rfl
theorem b10 : Try.f10.body = some (bodyOf Try.f10) := by kernel_rfl
theorem b21 : Try.f21.body = some (bodyOf Try.f21) := by kernel_rfl

def cntA : List It → Int → Int
  | [], n => n
  | .mk _ _ _ k :: r, n => cntA r (IntKind.wrap IntKind.i64 (n + cntA k k.length))
def cnt (l : List It) : Int := cntA l l.length

theorem drop_cons {α : Type} (l : List α) (d : α) {k : Nat} (h : k < l.length) : l.drop k = l.getD k d :: l.drop (k + 1) := by
  rw [List.drop_eq_getElem_cons h]; simp [List.getD, h]
theorem cntA_cons (x : It) (r : List It) (n : Int) : cntA (x :: r) n = cntA r (IntKind.wrap IntKind.i64 (n + cnt x.kids)) := by cases x; simp only [cntA, cnt, It.kids]
theorem lt1 {k n : Nat} (h : k < n) : decide ((k : Int) < (n : Int)) = true := by simp; omega
theorem lt0 {k n : Nat} (h : ¬ k < n) : decide ((k : Int) < (n : Int)) = false := by simp; omega
theorem ge0 (k : Nat) : decide ((0 : Int) ≤ (k : Int)) = true := by simp
theorem tn (k : Nat) : Int.toNat (k : Int) = k := by simp
theorem nx {k n : Nat} (h : k < n) (hn : n ≤ 9223372036854775807) : IntKind.wrap IntKind.i64 ((k : Int) + 1) = ((k + 1 : Nat) : Int) := by rw [wrap_id (by omega) (by omega)]; omega

theorem lp9 (N : Nat) (l : List It) (g : Nat) (hN : dep l ≤ N) (hL : okL l = true) : ∀ (m k : Nat) (n : Int), k ≤ l.length → l.length - k < m →
    L9 N cnt l g m n k = some (.leaf (vI (cntA (l.drop k) n), []))
  | 0, k, n, _, h => by omega
  | m + 1, k, n, hk, h => by
    rw [st9]
    by_cases hlt : k < l.length
    · have hd := dep_get l k hlt
      have ho := (okL_get hL hlt).1
      have hdd : decide (dep (l.getD k i0).kids < N) = true := decide_eq_true (by omega)
      simp only [lt1 hlt, ge0, tn, Bool.and_self, cond_true, okI_kids, theI_kids, ho, hdd]
      rw [nx hlt (okL_len hL), lp9 N l g hN hL m (k + 1) _ (by omega) (by omega), drop_cons l i0 hlt, cntA_cons]
    · rw [lt0 hlt, List.drop_of_length_le (by omega)]
      simp only [cond_false, cntA]

theorem c9 : ∀ (N : Nat) (l : List It), dep l < N → okL l = true → CX Try.prog 9 [aI l] [] (vI (cnt l)) []
  | 0, l, h, _ => by omega
  | N + 1, l, h, hL => by
    have ho : OrcOk Try.prog (o9 N cnt) := Orc.cons_ok (Orc.nil_ok _) (ans1_ok fun x hx => by
      simp only [Bool.and_eq_true, decide_eq_true_eq] at hx
      exact (c9 N (theI x) hx.2 hx.1.2).ge (asle1 (theI_de hx.1.1)) .nil)
    refine cx_of ho Try.func9 b9 rfl ((ev9 N cnt l (l.length + 1)).trans ?_)
    exact lp9 N l (l.length + 1) (by omega) hL (l.length + 1) 0 _ (by omega) (by omega)

theorem lp20 (N : Nat) (l : List It) (g : Nat) (hN : dep l ≤ N) (hL : okL l = true) : ∀ (m k : Nat) (n : Int), k ≤ l.length → l.length - k < m →
    L20 N cnt l g m n k = some (.leaf (vI (cntA (l.drop k) n), []))
  | 0, k, n, _, h => by omega
  | m + 1, k, n, hk, h => by
    rw [st20]
    by_cases hlt : k < l.length
    · have hd := dep_get l k hlt
      have ho := (okL_get hL hlt).1
      have hdd : decide (dep (l.getD k i0).kids < N) = true := decide_eq_true (by omega)
      simp only [lt1 hlt, ge0, tn, Bool.and_self, cond_true, okI_kids, theI_kids, ho, hdd]
      rw [nx hlt (okL_len hL), lp20 N l g hN hL m (k + 1) _ (by omega) (by omega), drop_cons l i0 hlt, cntA_cons]
    · rw [lt0 hlt, List.drop_of_length_le (by omega)]
      simp only [cond_false, cntA]

theorem c20 : ∀ (N : Nat) (l : List It), dep l < N → okL l = true → CX Try.prog 20 [aI l] [] (vI (cnt l)) []
  | 0, l, h, _ => by omega
  | N + 1, l, h, hL => by
    have ho : OrcOk Try.prog (o20 N cnt) := Orc.cons_ok (Orc.nil_ok _) (ans1_ok fun x hx => by
      simp only [Bool.and_eq_true, decide_eq_true_eq] at hx
      exact (c20 N (theI x) hx.2 hx.1.2).ge (asle1 (theI_de hx.1.1)) .nil)
    refine cx_of ho Try.func20 b20 rfl ((ev20 N cnt l (l.length + 1)).trans ?_)
    exact lp20 N l (l.length + 1) (by omega) hL (l.length + 1) 0 _ (by omega) (by omega)

/-- equal words, equal statements -/
def eqW1 (a b : Wd) : Bool := a.text.toList == b.text.toList && (a.q == b.q && true)
def eqW : List Wd → List Wd → Bool
  | [], [] => true
  | a :: r, b :: r' => eqW1 a b && eqW r r'
  | _, _ => false
def same : List It → List It → Bool
  | [], [] => true
  | .mk _ w b k :: r, .mk _ w' b' k' :: r' => (b == b') && eqW w w' && same k k' && same r r'
  | _, _ => false
def same1 (x y : It) : Bool := (x.block == y.block) && eqW x.words y.words && same x.kids y.kids
theorem same_cons (x y : It) (r r' : List It) : same (x :: r) (y :: r') = (same1 x y && same r r') := by cases x; cases y; simp only [same, same1, It.block, It.words, It.kids]
theorem eqW_len : ∀ {l l' : List Wd}, eqW l l' = true → l.length = l'.length
  | [], [], _ => rfl
  | _ :: r, _ :: r', h => by simp [eqW] at h; simp [eqW_len h.2]
  | [], _ :: _, h => by simp [eqW] at h
  | _ :: _, [], h => by simp [eqW] at h
theorem same_len : ∀ {l l' : List It}, same l l' = true → l.length = l'.length
  | [], [], _ => rfl
  | x :: r, y :: r', h => by rw [same_cons] at h; simp at h; simp [same_len h.2]
  | [], _ :: _, h => by simp [same] at h
  | _ :: _, [], h => by simp [same] at h

theorem lenne {n m : Nat} : ((n : Int) != (m : Int)) = !decide (n = m) := by
  by_cases h : n = m
  · simp [h]
  · have : ¬ (n : Int) = (m : Int) := by omega
    simp [h, this]

theorem lp26 (l l' : List Wd) (g : Nat) (hl : l.length = l'.length) (hL : l.length ≤ 9223372036854775807) : ∀ (m k : Nat), k ≤ l.length → l.length - k < m →
    L26 l l' g m k = some (.leaf (vB (eqW (l.drop k) (l'.drop k)), []))
  | 0, k, _, h => by omega
  | m + 1, k, hk, h => by
    rw [st26]
    by_cases hlt : k < l.length
    · have hlt' : k < l'.length := by omega
      simp only [lt1 hlt, lt1 hlt', ge0, tn, Bool.and_self, cond_true]
      rw [nx hlt hL, lp26 l l' g hl hL m (k + 1) (by omega) (by omega), drop_cons l w0 hlt, drop_cons l' w0 hlt']
      simp only [eqW]
      show (bif !eqW1 (l.getD k w0) (l'.getD k w0) then _ else _) = _
      cases eqW1 (l.getD k w0) (l'.getD k w0) <;> rfl
    · rw [lt0 hlt, List.drop_of_length_le (by omega), List.drop_of_length_le (by omega)]
      rfl

theorem c26 (l l' : List Wd) (h1 : okWs l = true) : CX Try.prog 26 [aW l, aW l'] [] (vB (eqW l l')) [] := by
  refine cx_of (Orc.nil_ok _) Try.func26 b26 rfl ((ev26 l l' (l.length + 1)).trans ?_)
  rw [lenne]
  by_cases hl : l.length = l'.length
  · simp only [hl, decide_true, Bool.not_true, cond_false]
    rw [← hl]
    exact lp26 l l' (l.length + 1) hl (okWs_len h1) (l.length + 1) 0 (by omega) (by omega)
  · have e : eqW l l' = false := by
      cases he : eqW l l' with
      | false => rfl
      | true => exact absurd (eqW_len he) hl
    simp [hl, e]

/-- two statements -/
theorem c25 (N : Nat) (ho : OrcOk Try.prog (o25 N eqW same)) (x y : It) (hd : dep x.kids < N) (h1 : okL x.kids = true) (h2 : okL y.kids = true) (h3 : okWs x.words = true) (h4 : okWs y.words = true) : CX Try.prog 25 [aT x, aT y] [] (vB (same1 x y)) [] := by
  refine cx_of ho Try.func25 b25 rfl ((ev25 N eqW same x y).trans ?_)
  have hdd : decide (dep x.kids < N) = true := by simpa using hd
  simp only [okW_words, theW_words, okI_kids, theI_kids, h1, h2, h3, h4, hdd, Bool.and_self, cond_true]
  unfold same1
  cases (x.block == y.block) <;> cases eqW x.words y.words <;> rfl

noncomputable def sm1 (b b' : Bool) (w w' ks ks' : D) : Bool := same1 (.mk 0 (theW w) b (theI ks)) (.mk 0 (theW w') b' (theI ks'))
noncomputable def cN (N : Nat) (x y : D) : Bool := okI x && okI y && okL (theI x) && okL (theI y) && decide (dep (theI x) < N)

theorem aT_ge {n : Int} {w ks : D} {b : Bool} (hw : okW w = true) (hk : okI ks = true) : Ale (.agg [.d (.v (.int .i64 n)), .d w, .d (.v (.bool b)), .d ks]) (aT (.mk n (theW w) b (theI ks))) :=
  Csle.cons (DE.refl _) (Csle.cons (theW_de hw) (Csle.cons (DE.refl _) (Csle.cons ((theI_de hk).trans (itemsD_de (.mk n (theW w) b (theI ks)))) Csle.nil)))

theorem ok24 (N : Nat) (ho : OrcOk Try.prog (o25 N eqW same)) : OrcOk Try.prog (o24 sm1 (cN N)) := Orc.cons_ok (Orc.nil_ok _) fun R args H k t h => by
  unfold ans2i at h
  split at h
  · rename_i n w b ks n' w' b' ks'
    cases hc : (okW w && okW w' && okWs (theW w) && okWs (theW w') && cN N ks ks') with
    | false => rw [hc] at h; cases h
    | true =>
      rw [hc] at h
      simp only [Bool.and_eq_true, cN, decide_eq_true_eq] at hc
      obtain ⟨⟨⟨⟨h1, h2⟩, h3⟩, h4⟩, ⟨⟨⟨⟨h5, h6⟩, h7⟩, h8⟩, h9⟩⟩ := hc
      refine ⟨_, _, h, ?_⟩
      have := c25 N ho (.mk n (theW w) b (theI ks)) (.mk n' (theW w') b' (theI ks')) h9 h7 h8 h3 h4
      exact this.ge (.cons (aT_ge h1 h5) (.cons (aT_ge h2 h6) .nil)) .nil
  · simp at h

theorem lp24 (N : Nat) (l l' : List It) (g : Nat) (hl : l.length = l'.length) (hN : dep l ≤ N) (hL : okL l = true) (hL' : okL l' = true) : ∀ (m k : Nat), k ≤ l.length → l.length - k < m →
    L24 sm1 (cN N) l l' g m k = some (.leaf (vB (same (l.drop k) (l'.drop k)), []))
  | 0, k, _, h => by omega
  | m + 1, k, hk, h => by
    rw [st24]
    by_cases hlt : k < l.length
    · have hlt' : k < l'.length := by omega
      have hd := dep_get l k hlt
      obtain ⟨ho, hw⟩ := okL_get hL hlt
      obtain ⟨ho', hw'⟩ := okL_get hL' hlt'
      have hdd : decide (dep (l.getD k i0).kids < N) = true := decide_eq_true (by omega)
      simp only [lt1 hlt, lt1 hlt', ge0, tn, Bool.and_self, cond_true, cN, sm1, okW_words, theW_words, okI_kids, theI_kids, ho, hw, ho', hw', hdd]
      rw [nx hlt (okL_len hL), lp24 N l l' g hl hN hL hL' m (k + 1) (by omega) (by omega), drop_cons l i0 hlt, drop_cons l' i0 hlt', same_cons]
      show (bif !same1 (l.getD k i0) (l'.getD k i0) then _ else _) = _
      cases same1 (l.getD k i0) (l'.getD k i0) <;> rfl
    · rw [lt0 hlt, List.drop_of_length_le (by omega), List.drop_of_length_le (by omega)]
      simp only [cond_false, same]

theorem c24 (N : Nat) (ho : OrcOk Try.prog (o25 N eqW same)) (l l' : List It) (hN : dep l ≤ N) (hL : okL l = true) (hL' : okL l' = true) : CX Try.prog 24 [aI l, aI l', fn25] [] (vB (same l l')) [] := by
  refine cx_of (ok24 N ho) Try.func24 b24 rfl ((ev24 sm1 (cN N) l l' (l.length + 1)).trans ?_)
  rw [lenne]
  by_cases hl : l.length = l'.length
  · simp only [hl, decide_true, Bool.not_true, cond_false]
    rw [← hl]
    exact lp24 N l l' (l.length + 1) hl hN hL hL' (l.length + 1) 0 (by omega) (by omega)
  · have e : same l l' = false := by
      cases he : same l l' with
      | false => rfl
      | true => exact absurd (same_len he) hl
    simp [hl, e]

theorem c10 : ∀ (N : Nat) (l l' : List It), dep l < N → okL l = true → okL l' = true → CX Try.prog 10 [aI l, aI l'] [] (vB (same l l')) []
  | 0, l, l', h, _, _ => by omega
  | N + 1, l, l', h, hL, hL' => by
    have ho : OrcOk Try.prog (o25 N eqW same) := Orc.cons_ok (Orc.cons_ok (Orc.nil_ok _) (ans2_ok fun x y hx => by
      simp only [Bool.and_eq_true, decide_eq_true_eq] at hx
      exact (c10 N (theI x) (theI y) hx.2 hx.1.1.2 hx.1.2).ge (asle2 (theI_de hx.1.1.1.1) (theI_de hx.1.1.1.2)) .nil)) (ans2_ok fun x y hx => by
      simp only [Bool.and_eq_true] at hx
      exact (c26 (theW x) (theW y) hx.1.2).ge (asle2 (theW_de hx.1.1.1) (theW_de hx.1.1.2)) .nil)
    have ho2 : OrcOk Try.prog (o10 same N) := Orc.cons_ok (Orc.nil_ok _) (ans2f_ok fun x y hx => by
      simp only [Bool.and_eq_true, decide_eq_true_eq] at hx
      exact (c24 N ho (theI x) (theI y) hx.2 hx.1.1.2 hx.1.2).ge (.cons (ale_d (theI_de hx.1.1.1.1)) (.cons (ale_d (theI_de hx.1.1.1.2)) (.cons (.refl _) .nil))) .nil)
    refine cx_of ho2 Try.func10 b10 rfl ((ev10 same N l l').trans ?_)
    have hdd : decide (dep l ≤ N) = true := decide_eq_true (by omega)
    simp only [okI_items, theI_items, hL, hL', hdd, Bool.and_self, cond_true]

theorem lj21 (N : Nat) (l l' : List It) (g m : Nat) {i : Nat} (hi : i < l.length) (hi' : i < l'.length) (hw : (l.getD i i0).words.length = (l'.getD i i0).words.length) (hb : (l.getD i i0).words.length ≤ 9223372036854775807) (hl : l.length ≤ 9223372036854775807) : ∀ (m1 k : Nat), k ≤ (l.getD i i0).words.length → (l.getD i i0).words.length - k < m1 →
    J21 N same l l' g m i m1 k = bif eqW ((l.getD i i0).words.drop k) ((l'.getD i i0).words.drop k) then L21 N same l l' g m ((i + 1 : Nat) : Int) else some (.leaf (vB false, []))
  | 0, k, _, h => by omega
  | m1 + 1, k, hk, h => by
    rw [sj21]
    by_cases hlt : k < (l.getD i i0).words.length
    · have hlt' : k < (l'.getD i i0).words.length := by omega
      simp only [lt1 hi, lt1 hi', lt1 hlt, lt1 hlt', ge0, tn, Bool.and_self, cond_true]
      rw [nx hlt hb, lj21 N l l' g m hi hi' hw hb hl m1 (k + 1) (by omega) (by omega), drop_cons (l.getD i i0).words w0 hlt, drop_cons (l'.getD i i0).words w0 hlt']
      simp only [eqW]
      show (bif !eqW1 ((l.getD i i0).words.getD k w0) ((l'.getD i i0).words.getD k w0) then _ else _) = _
      cases eqW1 ((l.getD i i0).words.getD k w0) ((l'.getD i i0).words.getD k w0) <;> rfl
    · simp only [lt1 hi, ge0, tn, Bool.and_self, cond_true, lt0 hlt, cond_false]
      rw [List.drop_of_length_le (by omega), List.drop_of_length_le (by omega), nx hi hl]
      rfl

theorem lp21 (N : Nat) (l l' : List It) (g : Nat) (hg : ∀ i, i < l.length → (l.getD i i0).words.length < g) (hl : l.length = l'.length) (hN : dep l ≤ N) (hL : okL l = true) (hL' : okL l' = true) : ∀ (m k : Nat), k ≤ l.length → l.length - k < m →
    L21 N same l l' g m k = some (.leaf (vB (same (l.drop k) (l'.drop k)), []))
  | 0, k, _, h => by omega
  | m + 1, k, hk, h => by
    rw [st21]
    by_cases hlt : k < l.length
    · have hlt' : k < l'.length := by omega
      have hd := dep_get l k hlt
      obtain ⟨ho, hw⟩ := okL_get hL hlt
      obtain ⟨ho', hw'⟩ := okL_get hL' hlt'
      have hdd : decide (dep (l.getD k i0).kids < N) = true := decide_eq_true (by omega)
      simp only [lt1 hlt, lt1 hlt', ge0, tn, Bool.and_self, cond_true, okI_kids, theI_kids, ho, ho', hdd, lenne]
      rw [drop_cons l i0 hlt, drop_cons l' i0 hlt', same_cons, same1]
      by_cases hwl : (l.getD k i0).words.length = (l'.getD k i0).words.length
      · have hj := lj21 N l l' g m hlt hlt' hwl (okWs_len hw) (okL_len hL) g 0 (by omega) (by have := hg k hlt; omega)
        have hj' : J21 N same l l' g m (k : Int) g 0 = _ := hj
        rw [hj', lp21 N l l' g hg hl hN hL hL' m (k + 1) (by omega) (by omega)]
        simp only [hwl, decide_true, Bool.not_true, cond_false, List.drop_zero]
        cases ((l.getD k i0).block == (l'.getD k i0).block) <;> cases eqW (l.getD k i0).words (l'.getD k i0).words <;> cases same (l.getD k i0).kids (l'.getD k i0).kids <;> rfl
      · have e : eqW (l.getD k i0).words (l'.getD k i0).words = false := by
          cases he : eqW (l.getD k i0).words (l'.getD k i0).words with
          | false => rfl
          | true => exact absurd (eqW_len he) hwl
        simp only [hwl, decide_false, Bool.not_false, cond_true, e]
        cases ((l.getD k i0).block == (l'.getD k i0).block) <;> rfl
    · rw [lt0 hlt, List.drop_of_length_le (by omega), List.drop_of_length_le (by omega)]
      simp only [cond_false, same]

/-- rounds enough for every list of words -/
def wmax : List It → Nat
  | [] => 0
  | x :: r => max x.words.length (wmax r)
theorem wmax_le : ∀ (l : List It) (i : Nat), i < l.length → (l.getD i i0).words.length ≤ wmax l
  | [], i, h => by simp at h
  | x :: r, 0, _ => by simp only [List.getD_cons_zero, wmax]; omega
  | x :: r, i + 1, h => by simp only [List.getD_cons_succ, wmax]; have := wmax_le r i (by simpa using h); omega

theorem c21 : ∀ (N : Nat) (l l' : List It), dep l < N → okL l = true → okL l' = true → CX Try.prog 21 [aI l, aI l'] [] (vB (same l l')) []
  | 0, l, l', h, _, _ => by omega
  | N + 1, l, l', h, hL, hL' => by
    have ho : OrcOk Try.prog (o21 N same) := Orc.cons_ok (Orc.nil_ok _) (ans2_ok fun x y hx => by
      simp only [Bool.and_eq_true, decide_eq_true_eq] at hx
      exact (c21 N (theI x) (theI y) hx.2 hx.1.1.2 hx.1.2).ge (asle2 (theI_de hx.1.1.1.1) (theI_de hx.1.1.1.2)) .nil)
    refine cx_of ho Try.func21 b21 rfl ((ev21 N same l l' (l.length + wmax l + 1)).trans ?_)
    rw [lenne]
    by_cases hl : l.length = l'.length
    · simp only [hl, decide_true, Bool.not_true, cond_false]
      rw [← hl]
      exact lp21 N l l' (l.length + wmax l + 1) (fun i hi => by have := wmax_le l i hi; omega) hl (by omega) hL hL' (l.length + wmax l + 1) 0 (by omega) (by omega)
    · have e : same l l' = false := by
        cases he : same l l' with
        | false => rfl
        | true => exact absurd (same_len he) hl
      simp [hl, e]
end Go.Proofs.Ytkmmkdeoamhpfaa.ct
