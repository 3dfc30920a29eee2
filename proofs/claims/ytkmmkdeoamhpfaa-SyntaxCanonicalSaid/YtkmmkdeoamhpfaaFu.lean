/-
  Format: contracts. No condition.
-/
import Derived.Test.YtkmmkdeoamhpfaaFt
namespace Go.Proofs.Ytkmmkdeoamhpfaa.fo
open Go.RowKit Go.Eb
open Go.Proofs.Ytkmmkdeoamhpfaa.wd
open Go.Proofs.Ytkmmkdeoamhpfaa.bu (src rS rE)
open Go.Proofs.Ytkmmkdeoamhpfaa.ct (drop_cons lt1 lt0 ge0 tn nx)

noncomputable def cF (N : Nat) (x : D) (ind : ByteArray) (n m : Nat) (f : Nat → List D) : Bool := okI x && okL (theI x) && decide (dep (theI x) < N) && Nat.beq m n && bytesOk n f && decide (n + (fmt ind (theI x)).size ≤ bMax)
def cwF (w : Wd) : Bool := decide (w.text.size + 2 ≤ 9223372036854775807)
noncomputable def Z0 (N : Nat) : FP := ⟨bg, cF N, fun x => (theI x).isEmpty, fun x ind b => b ++ fmt ind (theI x), src, cwF⟩

theorem zG (N : Nat) : (Z0 N).G = bg := rfl
theorem zc (N : Nat) : (Z0 N).c = cF N := rfl
theorem ze (N : Nat) (x : D) : (Z0 N).emp x = (theI x).isEmpty := rfl
theorem zf (N : Nat) (x : D) (ind b : ByteArray) : (Z0 N).fm x ind b = b ++ fmt ind (theI x) := rfl
theorem zs (N : Nat) : (Z0 N).sr = src := rfl
theorem zw (N : Nat) : (Z0 N).cw = cwF := rfl
theorem ga (a b : ByteArray) : bg.ap a b = a ++ b := rfl
theorem t1 (X : Bool) : (Nat.beq (61 : TypeId) (61 : TypeId) && Nat.beq (5 : TypeId) (5 : TypeId) && X) = X := rfl
theorem t0 (X : Bool) : (true && Nat.beq (61 : TypeId) (61 : TypeId) && X) = X := rfl
theorem b32' : ByteArray.mk #[Nat.toUInt8 (Int.toNat (32 : Int))] = sp1 := rfl
theorem weta (w : Wd) : Wd.mk (Wd.text w) (Wd.q w) = w := rfl
theorem cF_ok {N : Nat} {x : It} {ind b : ByteArray} (h1 : okL x.kids = true) (h2 : dep x.kids < N) (h3 : b.size + (fmt ind x.kids).size ≤ bMax) : cF N (kidsD x) ind (bg.sz b) (bg.sz b) (bg.fn b) = true := by
  unfold cF
  rw [okI_kids, theI_kids, h1, decide_eq_true h2]
  have e1 : bytesOk (bg.sz b) (bg.fn b) = true := bytesOk_bF b
  have e2 : Nat.beq (bg.sz b) (bg.sz b) = true := by rw [beqD]; simp
  rw [e1, e2, decide_eq_true (show bg.sz b + (fmt ind x.kids).size ≤ bMax from h3)]
  rfl
theorem gt0 (k : Nat) : decide (((k + 1 : Nat) : Int) > 0) = true := decide_eq_true (by omega)
theorem gt00 : decide (((0 : Nat) : Int) > 0) = false := by simp

/-- fuel that is enough -/
def wmax : List It → Nat
  | [] => 0
  | x :: r => max x.words.length (wmax r)
theorem wmax_get : ∀ (l : List It) (i : Nat), i < l.length → (l.getD i i0).words.length ≤ wmax l
  | [], i, h => by simp at h
  | x :: r, 0, _ => by simp only [List.getD_cons_zero, wmax]; omega
  | x :: r, i + 1, h => by
    have := wmax_get r i (by simpa using h)
    simp only [List.getD_cons_succ, wmax]
    omega
theorem src_le (w : Wd) : w.text.size ≤ (src w).size := by
  unfold src
  cases w.q
  · simp only [cond_false]; omega
  · simp only [cond_true, size_app]; omega
theorem bMax_le : bMax ≤ 140737488355328 := Nat.le_refl _

theorem inA (N : Nat) (l : List It) (ind : ByteArray) (x : It) (g m i : Nat) (hi : i < l.length) (hl : l.length ≤ 9223372036854775807) (hw : okWs x.words = true) (hk : okL x.kids = true) (hd : dep x.kids < N) (hind : ind.size ≤ bMax) :
    ∀ (m1 j : Nat) (b : ByteArray), j ≤ x.words.length → x.words.length - j < m1 → b.size + (wtx (decide ((j : Int) > 0)) (x.words.drop j)).size + (tl ind x).size ≤ bMax →
      IA (Z0 N) l ind x g m m1 b i j = LA (Z0 N) l ind g m (b ++ (wtx (decide ((j : Int) > 0)) (x.words.drop j) ++ tl ind x)) ((i + 1 : Nat) : Int)
  | 0, j, b, _, h, _ => by omega
  | m1 + 1, j, b, hj, h, hb => by
    have hM := bMax_le
    rw [siA]
    simp only [zG, zc, ze, zf, zs, zw, bg_of, ga, t1, b32', weta, tn]
    by_cases hlt : j < x.words.length
    · rw [drop_cons x.words w0 hlt] at hb ⊢
      generalize hwd : x.words.getD j w0 = w at hb ⊢
      simp only [wtx, size_app] at hb
      have hsrc := src_le w
      have hcw : cwF w = true := decide_eq_true (by omega)
      simp only [lt1 hlt, ge0, Bool.and_self, cond_true]
      rw [nx hlt (okWs_len hw)]
      cases j with
      | zero =>
        simp only [gt00, cond_false] at hb ⊢
        have e0 : ByteArray.empty.size = 0 := rfl
        rw [hcw, bg_ok b (src w) (by omega), cond_true, cond_true]
        have ih := inA N l ind x g m i hi hl hw hk hd hind m1 1 (b ++ src w) (by omega) (by omega)
        have g1 : decide (((1 : Nat) : Int) > 0) = true := by simp
        rw [g1] at ih
        have ih := ih (by simp only [size_app]; simp only [e0, Nat.zero_add] at hb; omega)
        rw [show ((0 + 1 : Nat)) = 1 from rfl, ih]
        simp only [wtx, cond_false, e_app, app_as]
      | succ j =>
        simp only [gt0, cond_true] at hb ⊢
        have e1 : sp1.size = 1 := rfl
        rw [hcw, bg_ok b sp1 (by omega), bg_ok (b ++ sp1) (src w) (by rw [size_app]; omega), cond_true, cond_true, cond_true]
        have ih := inA N l ind x g m i hi hl hw hk hd hind m1 (j + 1 + 1) (b ++ sp1 ++ src w) (by omega) (by omega)
        rw [gt0] at ih
        rw [ih (by simp only [size_app]; omega)]
        simp only [wtx, cond_true, app_as]
    · rw [List.drop_of_length_le (by omega)] at hb ⊢
      have e0 : ByteArray.empty.size = 0 := rfl
      simp only [wtx, e0] at hb
      simp only [lt0 hlt, cond_false, wtx, e_app]
      rw [nx hi hl]
      unfold tl at hb ⊢
      cases hbl : x.block with
      | false =>
        rw [hbl] at hb
        simp only [cond_false] at hb ⊢
        rw [bg_ok b sc (by omega)]
        rfl
      | true =>
        rw [hbl] at hb
        simp only [cond_true, size_app] at hb ⊢
        have e3 : ob.size = 3 := rfl
        have e4 : cb.size = 2 := rfl
        have e5 : sp2.size = 2 := rfl
        simp only [Bool.not_true, cond_false]
        rw [bg_ok b ob (by omega), cond_true, decide_eq_true (show ind.size + sp2.size ≤ 9223372036854775807 by omega), cond_true, cF_ok (ind := ind ++ sp2) (b := b ++ ob) hk hd (by simp only [size_app]; omega), cond_true,
          decide_eq_true (show ind.size + cb.size ≤ 9223372036854775807 by omega), cond_true, cond_true]
        simp only [theI_kids]
        cases hke : x.kids with
        | nil =>
          simp only [List.isEmpty_nil, cond_true, fmt_nil, e_app]
          rw [bg_ok (b ++ ob) (ind ++ cb) (by simp only [size_app]; omega), cond_true, app_as]
        | cons y r =>
          rw [hke] at hb
          simp only [List.isEmpty_cons, cond_false]
          rw [bg_ok (b ++ ob ++ fmt (ind ++ sp2) (y :: r)) (ind ++ cb) (by simp only [size_app]; omega), cond_true]
          simp only [app_as]

theorem lpA (N : Nat) (l : List It) (ind : ByteArray) (g : Nat) (hN : dep l ≤ N) (hL : okL l = true) (hg : wmax l < g) (hind : ind.size ≤ bMax) : ∀ (m k : Nat) (b : ByteArray), k ≤ l.length → l.length - k < m → b.size + (fmt ind (l.drop k)).size ≤ bMax →
    LA (Z0 N) l ind g m b k = some (.leaf (.tup [], HA bg (b ++ fmt ind (l.drop k))))
  | 0, k, b, _, h, _ => by omega
  | m + 1, k, b, hk, h, hb => by
    rw [stA]
    simp only [zG, bg_of, ga, t1, tn]
    by_cases hlt : k < l.length
    · rw [drop_cons l i0 hlt, fmt_cons] at hb ⊢
      simp only [size_app] at hb
      simp only [lt1 hlt, ge0, Bool.and_self, cond_true]
      rw [bg_ok b ind (by omega), cond_true]
      obtain ⟨h1, h2⟩ := okL_get hL hlt
      have hin := inA N l ind (l.getD k i0) g m k hlt (okL_len hL) h2 h1 (by have := dep_get l k hlt; omega) hind g 0 (b ++ ind) (by omega) (by have := wmax_get l k hlt; omega)
      simp only [gt00, List.drop_zero] at hin
      have hin := hin (by simp only [size_app]; omega)
      have hin' : IA (Z0 N) l ind (l.getD k i0) g m g (b ++ ind) (k : Int) 0 = _ := hin
      rw [hin', lpA N l ind g hN hL hg hind m (k + 1) _ (by omega) (by omega) (by simp only [size_app]; omega)]
      simp only [app_as]
    · rw [lt0 hlt, List.drop_of_length_le (by omega), fmt_nil, app_e]
      rfl

theorem topA (N : Nat) (l : List It) (g : Nat) (hN : dep l ≤ N) (hL : okL l = true) (hg : wmax l + l.length < g) (hb : (fmt .empty l).size ≤ bMax) :
    FA (Z0 N) l .empty g g 0 = some (.leaf (.tup [], bif l.isEmpty then HA0 else HA bg (fmt .empty l))) := by
  obtain ⟨m, rfl⟩ : ∃ m, g = m + 1 := ⟨g - 1, by omega⟩
  rw [sfA]
  simp only [zG, t0]
  cases l with
  | nil => rfl
  | cons x r =>
    have hlt : 0 < (x :: r).length := by simp
    have e1 : decide ((0 : Int) < (((x :: r).length : Nat) : Int)) = true := decide_eq_true (by omega)
    rw [e1]
    have e2 : bg.ok 0 0 (fun _ => []) ByteArray.empty = true := by decide
    rw [e2]
    obtain ⟨h1, h2⟩ := okL_get hL hlt
    have e0 : ByteArray.empty.size = 0 := rfl
    rw [fmt_cons] at hb
    simp only [size_app] at hb
    have hin := inA N (x :: r) .empty ((x :: r).getD 0 i0) (m + 1) m 0 hlt (okL_len hL) h2 h1 (by have := dep_get (x :: r) 0 hlt; omega) (by rw [e0]; exact Nat.zero_le _) (m + 1) 0 .empty (by omega) (by have := wmax_get (x :: r) 0 hlt; omega)
    simp only [gt00, List.drop_zero, List.getD_cons_zero] at hin
    have hin := hin (by omega)
    have hin' : IA (Z0 N) (x :: r) .empty x (m + 1) m (m + 1) .empty 0 0 = _ := hin
    have hlp := lpA N (x :: r) .empty (m + 1) hN hL (by omega) (by rw [e0]; exact Nat.zero_le _) m 1 (.empty ++ (wtx false x.words ++ tl .empty x)) (by simp) (by simp only [List.length_cons] at hg ⊢; omega) (by simp only [size_app, List.drop_succ_cons, List.drop_zero]; omega)
    have e3 : List.getD (x :: r) (Int.toNat 0) i0 = x := rfl
    simp only [Bool.and_self, cond_true, show decide ((0 : Int) ≤ 0) = true from rfl, e3]
    rw [hin']
    have e4 : ((0 + 1 : Nat) : Int) = ((1 : Nat) : Int) := rfl
    rw [e4, hlp]
    simp only [List.drop_succ_cons, List.drop_zero, List.isEmpty_cons, cond_false, fmt_cons, e_app, app_as]

theorem inC (N : Nat) (l : List It) (ind : ByteArray) (x : It) (g m i : Nat) (hi : i < l.length) (hl : l.length ≤ 9223372036854775807) (hw : okWs x.words = true) (hk : okL x.kids = true) (hd : dep x.kids < N) (hind : ind.size ≤ bMax) :
    ∀ (m1 j : Nat) (b : ByteArray), j ≤ x.words.length → x.words.length - j < m1 → b.size + (wtx (decide ((j : Int) > 0)) (x.words.drop j)).size + (tl ind x).size ≤ bMax →
      IC (Z0 N) l ind x g m m1 b i j = LC (Z0 N) l ind g m (b ++ (wtx (decide ((j : Int) > 0)) (x.words.drop j) ++ tl ind x)) ((i + 1 : Nat) : Int)
  | 0, j, b, _, h, _ => by omega
  | m1 + 1, j, b, hj, h, hb => by
    have hM := bMax_le
    rw [siC]
    simp only [zG, zc, ze, zf, zs, zw, bg_of, ga, t1, b32', weta, tn]
    by_cases hlt : j < x.words.length
    · rw [drop_cons x.words w0 hlt] at hb ⊢
      generalize hwd : x.words.getD j w0 = w at hb ⊢
      simp only [wtx, size_app] at hb
      have hsrc := src_le w
      have hcw : cwF w = true := decide_eq_true (by omega)
      simp only [lt1 hlt, ge0, Bool.and_self, cond_true]
      rw [nx hlt (okWs_len hw)]
      cases j with
      | zero =>
        simp only [gt00, cond_false] at hb ⊢
        have e0 : ByteArray.empty.size = 0 := rfl
        rw [hcw, bg_ok b (src w) (by omega), cond_true, cond_true]
        have ih := inC N l ind x g m i hi hl hw hk hd hind m1 1 (b ++ src w) (by omega) (by omega)
        have g1 : decide (((1 : Nat) : Int) > 0) = true := by simp
        rw [g1] at ih
        have ih := ih (by simp only [size_app]; simp only [e0, Nat.zero_add] at hb; omega)
        rw [show ((0 + 1 : Nat)) = 1 from rfl, ih]
        simp only [wtx, cond_false, e_app, app_as]
      | succ j =>
        simp only [gt0, cond_true] at hb ⊢
        have e1 : sp1.size = 1 := rfl
        rw [hcw, bg_ok b sp1 (by omega), bg_ok (b ++ sp1) (src w) (by rw [size_app]; omega), cond_true, cond_true, cond_true]
        have ih := inC N l ind x g m i hi hl hw hk hd hind m1 (j + 1 + 1) (b ++ sp1 ++ src w) (by omega) (by omega)
        rw [gt0] at ih
        rw [ih (by simp only [size_app]; omega)]
        simp only [wtx, cond_true, app_as]
    · rw [List.drop_of_length_le (by omega)] at hb ⊢
      have e0 : ByteArray.empty.size = 0 := rfl
      simp only [wtx, e0] at hb
      simp only [lt0 hlt, cond_false, wtx, e_app]
      rw [nx hi hl]
      unfold tl at hb ⊢
      cases hbl : x.block with
      | false =>
        rw [hbl] at hb
        simp only [cond_false] at hb ⊢
        rw [bg_ok b sc (by omega)]
        rfl
      | true =>
        rw [hbl] at hb
        simp only [cond_true, size_app] at hb ⊢
        have e3 : ob.size = 3 := rfl
        have e4 : cb.size = 2 := rfl
        have e5 : sp2.size = 2 := rfl
        simp only [Bool.not_true, cond_false]
        rw [bg_ok b ob (by omega), cond_true, decide_eq_true (show ind.size + sp2.size ≤ 9223372036854775807 by omega), cond_true, cF_ok (ind := ind ++ sp2) (b := b ++ ob) hk hd (by simp only [size_app]; omega), cond_true,
          decide_eq_true (show ind.size + cb.size ≤ 9223372036854775807 by omega), cond_true, cond_true]
        simp only [theI_kids]
        cases hke : x.kids with
        | nil =>
          simp only [List.isEmpty_nil, cond_true, fmt_nil, e_app]
          rw [bg_ok (b ++ ob) (ind ++ cb) (by simp only [size_app]; omega), cond_true, app_as]
        | cons y r =>
          rw [hke] at hb
          simp only [List.isEmpty_cons, cond_false]
          rw [bg_ok (b ++ ob ++ fmt (ind ++ sp2) (y :: r)) (ind ++ cb) (by simp only [size_app]; omega), cond_true]
          simp only [app_as]

theorem lpC (N : Nat) (l : List It) (ind : ByteArray) (g : Nat) (hN : dep l ≤ N) (hL : okL l = true) (hg : wmax l < g) (hind : ind.size ≤ bMax) : ∀ (m k : Nat) (b : ByteArray), k ≤ l.length → l.length - k < m → b.size + (fmt ind (l.drop k)).size ≤ bMax →
    LC (Z0 N) l ind g m b k = some (.leaf (.tup [], HC bg (b ++ fmt ind (l.drop k))))
  | 0, k, b, _, h, _ => by omega
  | m + 1, k, b, hk, h, hb => by
    rw [stC]
    simp only [zG, bg_of, ga, t1, tn]
    by_cases hlt : k < l.length
    · rw [drop_cons l i0 hlt, fmt_cons] at hb ⊢
      simp only [size_app] at hb
      simp only [lt1 hlt, ge0, Bool.and_self, cond_true]
      rw [bg_ok b ind (by omega), cond_true]
      obtain ⟨h1, h2⟩ := okL_get hL hlt
      have hin := inC N l ind (l.getD k i0) g m k hlt (okL_len hL) h2 h1 (by have := dep_get l k hlt; omega) hind g 0 (b ++ ind) (by omega) (by have := wmax_get l k hlt; omega)
      simp only [gt00, List.drop_zero] at hin
      have hin := hin (by simp only [size_app]; omega)
      have hin' : IC (Z0 N) l ind (l.getD k i0) g m g (b ++ ind) (k : Int) 0 = _ := hin
      rw [hin', lpC N l ind g hN hL hg hind m (k + 1) _ (by omega) (by omega) (by simp only [size_app]; omega)]
      simp only [app_as]
    · rw [lt0 hlt, List.drop_of_length_le (by omega), fmt_nil, app_e]
      rfl

theorem topC (N : Nat) (l : List It) (ind b : ByteArray) (g : Nat) (hN : dep l ≤ N) (hL : okL l = true) (hg : wmax l + l.length < g) (hb : b.size + (fmt ind l).size ≤ bMax) :
    FC (Z0 N) l ind g g b 0 = some (.leaf (.tup [], bif l.isEmpty then HC0 bg b else HC bg (b ++ fmt ind l))) := by
  obtain ⟨m, rfl⟩ : ∃ m, g = m + 1 := ⟨g - 1, by omega⟩
  rw [sfC]
  simp only [zG, bg_of, ga, t1]
  cases l with
  | nil => rfl
  | cons x r =>
    have hlt : 0 < (x :: r).length := by simp
    have e1 : decide ((0 : Int) < (((x :: r).length : Nat) : Int)) = true := decide_eq_true (by omega)
    rw [e1]
    obtain ⟨h1, h2⟩ := okL_get hL hlt
    rw [fmt_cons] at hb
    simp only [size_app] at hb
    rw [bg_ok b ind (by omega)]
    have hin := inC N (x :: r) ind ((x :: r).getD 0 i0) (m + 1) m 0 hlt (okL_len hL) h2 h1 (by have := dep_get (x :: r) 0 hlt; omega) (by omega) (m + 1) 0 (b ++ ind) (by omega) (by have := wmax_get (x :: r) 0 hlt; omega)
    simp only [gt00, List.drop_zero, List.getD_cons_zero] at hin
    have hin := hin (by simp only [size_app]; omega)
    have hin' : IC (Z0 N) (x :: r) ind x (m + 1) m (m + 1) (b ++ ind) 0 0 = _ := hin
    have hlp := lpC N (x :: r) ind (m + 1) hN hL (by omega) (by omega) m 1 (b ++ ind ++ (wtx false x.words ++ tl ind x)) (by simp) (by simp only [List.length_cons] at hg ⊢; omega) (by simp only [size_app, List.drop_succ_cons, List.drop_zero]; omega)
    have e3 : List.getD (x :: r) (Int.toNat 0) i0 = x := rfl
    simp only [Bool.and_self, cond_true, show decide ((0 : Int) ≤ 0) = true from rfl, e3]
    rw [hin']
    have e4 : ((0 + 1 : Nat) : Int) = ((1 : Nat) : Int) := rfl
    rw [e4, hlp]
    simp only [List.drop_succ_cons, List.drop_zero, List.isEmpty_cons, cond_false, fmt_cons, app_as]

/-- the calls inside -/
theorem ans31_ok {N : Nat} (hc : ∀ (l : List It) (ind b : ByteArray), dep l < N → okL l = true → b.size + (fmt ind l).size ≤ bMax → CX Try.prog 31 [aI l, vS ind, .c (.ptr 0 0), .c (.ptr 2 0)] (HC0 bg b) (.tup []) (bif l.isEmpty then HC0 bg b else HC bg (b ++ fmt ind l))) :
    ∀ (R : Type) args H (k : AV → Hp → Option (T R)) t, ans31 (Z0 N) R args H k = some t → ∃ x H', k x H' = some t ∧ CX Try.prog 31 args H x H' := fun R args H k t h => by
  unfold ans31 at h
  split at h
  · rename_i x ind n m f
    simp only [zc, ze, zf, zG] at h
    cases hcc : cF N x ind n m f with
    | false => rw [hcc] at h; cases h
    | true =>
      rw [hcc] at h
      simp only [cond_true] at h
      unfold cF at hcc
      simp only [Bool.and_eq_true, decide_eq_true_eq] at hcc
      obtain ⟨⟨⟨⟨⟨q1, q2⟩, q3⟩, q4⟩, q5⟩, q6⟩ := hcc
      have q4 := Nat.eq_of_beq_eq_true q4
      subst q4
      have key := hc (theI x) ind (bytesS m f) q3 q2 (by rw [bytesS_size]; exact q6)
      have hle : Hle [(0, .cells [.ptr 0 0, .row 1 1 m] 61), (1, .row m f 1 5), W2] (HC0 bg (bytesS m f)) := .cons (by show Ble _ (.cells [.ptr 0 0, .row 1 1 (bytesS m f).size] 61); rw [bytesS_size]; exact .refl _) (.cons (row_bF q5 _) (.refl _))
      have key := key.ge (.cons (ale_d (theI_de q1)) (.refl _)) hle
      cases he : (theI x).isEmpty with
      | true =>
        rw [he] at h key
        exact ⟨_, _, h, key⟩
      | false =>
        rw [he] at h key
        exact ⟨_, _, h, key⟩
  · simp at h

theorem b31 : Try.f31.body = some (bodyOf Try.f31) := by kernel_rfl
theorem b15 : Try.f15.body = some (bodyOf Try.f15) := by kernel_rfl
theorem argS_some {x : AV} {s : ByteArray} (h : argS x = some s) : x = vS s := by
  unfold argS at h
  split at h
  · cases h; rfl
  · cases h
theorem arg8_some {x : AV} {s : ByteArray} (h : arg8 x = some s) : ∃ c : UInt8, x = v8 c.toNat ∧ s = ⟨#[c]⟩ := by
  unfold arg8 at h
  split at h
  · obtain ⟨c, e1, e2⟩ := byte1_some h
    exact ⟨c, by rw [e1], e2⟩
  · cases h
theorem o31_ok {N : Nat} (hc : ∀ (l : List It) (ind b : ByteArray), dep l < N → okL l = true → b.size + (fmt ind l).size ≤ bMax → CX Try.prog 31 [aI l, vS ind, .c (.ptr 0 0), .c (.ptr 2 0)] (HC0 bg b) (.tup []) (bif l.isEmpty then HC0 bg b else HC bg (b ++ fmt ind l))) : OrcOk Try.prog (o31 (Z0 N)) :=
  Orc.cons_ok (Orc.cons_ok (Orc.cons_ok (Orc.cons_ok (Orc.nil_ok _) (ans31_ok hc)) (ansC_ok ck.decWd_ok fun w h => bu.c34 w (by unfold Z0 cwF at h; simpa using h)))
    (ansWr_ok (fun h => by cases h) fun x s b hx hs => by
      obtain ⟨c, rfl, rfl⟩ := arg8_some hx
      exact bu.c33b c b hs))
    (ansWr_ok (fun _ x s hx hs => by rw [argS_some hx]; exact bu.c32a s hs) fun x s b hx hs => by rw [argS_some hx]; exact bu.c32b s b hs)

theorem c31C : ∀ (N : Nat) (l : List It) (ind b : ByteArray), dep l < N → okL l = true → b.size + (fmt ind l).size ≤ bMax → CX Try.prog 31 [aI l, vS ind, .c (.ptr 0 0), .c (.ptr 2 0)] (HC0 bg b) (.tup []) (bif l.isEmpty then HC0 bg b else HC bg (b ++ fmt ind l))
  | 0, l, ind, b, h, _, _ => by omega
  | N + 1, l, ind, b, h, hL, hb => by
    refine cx_of (o31_ok (c31C N)) Try.func31 b31 rfl ((evC (Z0 N) l ind (wmax l + l.length + 1) b).trans ?_)
    exact topC N l ind b (wmax l + l.length + 1) (by omega) hL (by omega) hb
theorem c31A (l : List It) (hL : okL l = true) (hb : (fmt .empty l).size ≤ bMax) : CX Try.prog 31 [aI l, vS .empty, .c (.ptr 0 0), .c (.ptr 1 0)] HA0 (.tup []) (bif l.isEmpty then HA0 else HA bg (fmt .empty l)) := by
  refine cx_of (o31_ok (c31C (dep l))) Try.func31 b31 rfl ((evA (Z0 (dep l)) l .empty (wmax l + l.length + 1)).trans ?_)
  exact topA (dep l) l (wmax l + l.length + 1) (Nat.le_refl _) hL (by omega) hb

noncomputable def c0F (x : D) : Bool := okI x && okL (theI x) && decide ((fmt .empty (theI x)).size ≤ bMax)
noncomputable def okF (x : D) : Bool := okI x && okL (theI x)
noncomputable def ckF (x : D) : Int := ck.chk (theI x)
theorem empty_of {b : ByteArray} (h : Nat.beq b.size 0 = true) : b = .empty := by
  have := Nat.eq_of_beq_eq_true h
  cases b with
  | mk a => congr 1; exact Array.eq_empty_of_size_eq_zero this
theorem ans31t_ok : ∀ (R : Type) args H (k : AV → Hp → Option (T R)) t, ans31t (Z0 0) c0F R args H k = some t → ∃ x H', k x H' = some t ∧ CX Try.prog 31 args H x H' := fun R args H k t h => by
  unfold ans31t at h
  split at h
  · rename_i x ind
    simp only [ze, zf, zG] at h
    cases hcc : (Nat.beq ind.size 0 && c0F x) with
    | false => rw [hcc] at h; cases h
    | true =>
      rw [hcc] at h
      simp only [cond_true] at h
      simp only [Bool.and_eq_true] at hcc
      have e := empty_of hcc.1
      subst e
      have hc := hcc.2
      unfold c0F at hc
      simp only [Bool.and_eq_true, decide_eq_true_eq] at hc
      have key := (c31A (theI x) hc.1.2 hc.2).ge (.cons (ale_d (theI_de hc.1.1)) (.refl _)) (.refl _)
      rw [e_app] at h
      cases he : (theI x).isEmpty with
      | true => rw [he] at h key; exact ⟨_, _, h, key⟩
      | false => rw [he] at h key; exact ⟨_, _, h, key⟩
  · simp at h

/-- Format -/
def fmtK (l : List It) : ByteArray := bif ck.chk l != 0 then .empty else fmt .empty l
theorem chk_ok {f : FuncId} (hc : ∀ l, okL l = true → CX Try.prog f [aI l] [] (vI (ck.chk l)) []) : ∀ x, okF x = true → CX Try.prog f [.c (.d x)] [] (vI (ckF x)) [] := fun x hx => by
  unfold okF at hx
  simp only [Bool.and_eq_true] at hx
  exact (hc (theI x) hx.2).ge (asle1 (theI_de hx.1)) (.refl _)
theorem o15_ok : OrcOk Try.prog (o15 (Z0 0) ckF okF c0F) :=
  Orc.cons_ok (Orc.cons_ok (Orc.cons_ok (Orc.nil_ok _) (ansSt_ok bu.c35a bu.c35b)) ans31t_ok) (ans1_ok (chk_ok ck.c16))
theorem c15 (l : List It) (hL : okL l = true) : CX Try.prog 15 [aI l] [] (vS (fmtK l)) [] := by
  refine cx_of o15_ok Try.func15 b15 rfl ((ev15 (Z0 0) ckF okF c0F l).trans ?_)
  have e1 : okF (itemsD l) = true := by unfold okF; rw [okI_items, theI_items, hL]; rfl
  rw [e1]
  unfold fmtK ckF
  simp only [theI_items, cond_true, ze, zf, zG, bg_of, t1, e_app]
  cases hc : (ck.chk l != 0) with
  | true => rfl
  | false =>
    have hs := chk_size l (by simpa using hc)
    have e2 : c0F (itemsD l) = true := by
      unfold c0F
      rw [okI_items, theI_items, hL, decide_eq_true (show (fmt .empty l).size ≤ bMax by unfold bMax; omega)]
      rfl
    rw [e2]
    cases l with
    | nil => simp only [List.isEmpty_nil, fmt_nil]; rfl
    | cons x r =>
      have e3 : Nat.blt 0 (bg.sz (fmt .empty (x :: r))) = true := by rw [bltD]; exact decide_eq_true (fmt_pos _ _ _)
      rw [bg_ok (fmt .empty (x :: r)) .empty (by have e0 : ByteArray.empty.size = 0 := rfl; unfold bMax; omega), e3]
      rfl
end Go.Proofs.Ytkmmkdeoamhpfaa.fo
