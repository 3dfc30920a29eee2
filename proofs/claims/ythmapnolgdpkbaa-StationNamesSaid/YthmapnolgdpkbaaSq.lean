/-
  Same of the reference, Large: contracts. No condition.
-/
import Derived.Test.YthmapnolgdpkbaaSp
namespace Go.Proofs.Ythmapnolgdpkbaa.st
open Go.RowKit Go.Eb

theorem b39 : Try.f39.body = some (bodyOf Try.f39) := by kernel_rfl
theorem c39 (x y : SBay) (hx : x.links.length ≤ 9223372036854775807) : CX Try.prog 39 [aBay x, aBay y] [] (vB (same x y)) [] := by
  obtain ⟨g, hg⟩ : ∃ g, x.links.length < g := ⟨x.links.length + 1, by omega⟩
  refine cx_of (Orc.nil_ok _) Try.func39 b39 rfl ((ev39 x y g).trans ?_)
  have e := eq_whole (L := L39 x y g) (eq := eq56) (d := link0) (l := x.links) (r := y.links) (fun m i => st39 x y g m i) hx hg
  rw [eqL_same same_link] at e
  rw [e, same_bay]
  have b1 : ∀ a b : Int, (a != b) = !(a == b) := fun _ _ => rfl
  simp only [b1, bNot]
  congr 4
  generalize (x.name.toList == y.name.toList) = t1
  generalize (x.kind == y.kind) = t2
  generalize (x.off == y.off) = t3
  generalize (x.fin == y.fin) = t4
  generalize (x.zr == y.zr && (x.zx == y.zx && true)) = t5
  generalize same x.links y.links = t6
  cases t1 <;> cases t2 <;> cases t3 <;> cases t4 <;> cases t5 <;> cases t6 <;> simp

/-- a loop that gathers an answer -/
theorem and_loop {β : Type} {L : Nat → Bool → Int → Option (T (AV × Hp))} {l r : List β} {d : β} {eq : β → β → Bool} {NX : Bool → Option (T (AV × Hp))} (hl : l.length = r.length)
    (hst : ∀ (m k : Nat) (b : Bool), k < l.length → L (m + 1) b k = L m (b && eq (l.getD k d) (r.getD k d)) ((k + 1 : Nat) : Int)) (hend : ∀ m b, L (m + 1) b l.length = NX b) :
    ∀ (m k : Nat) (b : Bool), k ≤ l.length → l.length - k < m → L m b k = NX (b && eqL eq (l.drop k) (r.drop k))
  | 0, k, _, _, h => by omega
  | m + 1, k, b, hk, h => by
    by_cases e : k = l.length
    · subst e
      rw [hend, List.drop_of_length_le (Nat.le_refl _), List.drop_of_length_le (by omega)]
      simp [eqL]
    · have hlt : k < l.length := by omega
      rw [hst m k b hlt, and_loop hl hst hend m (k + 1) _ (by omega) (by omega), drop_at' (d := d) hlt, drop_at' (d := d) (show k < r.length by omega)]
      simp only [eqL, Bool.and_assoc]

noncomputable def ok14 (a b : RBay) : Bool := okRB a && okRB b
noncomputable def sm14 (a b : RBay) : Bool := same (rbay a) (rbay b)
theorem okRB_len' {x : RBay} (h : okRB x = true) : (rbay x).links.length ≤ 9223372036854775807 := by
  unfold okRB okLk at h
  simp only [Bool.and_eq_true, decide_eq_true_eq] at h
  exact h.2
theorem s14 : OrcS Try.prog (o14 ok14 sm14) := by
  refine .cons (.d fun a ha => ?_) .nil
  have ha' : ok14 a.1.1 a.1.2.1 = true := ha
  unfold ok14 at ha'
  simp only [Bool.and_eq_true] at ha'
  exact (c39 (rbay a.1.1) (rbay a.1.2.1) (okRB_len' ha'.1)).ge (.cons (bay_le _ ha'.1) (.cons (bay_le _ ha'.2) .nil)) (.refl _)
theorem same_len {α : Type} {l r : List α} (h : l.length ≠ r.length) : same l r = false := same_ne fun e => h (by rw [e])
section
variable (a b : SSta) (g : Nat)
theorem q14_17 (h4 : a.bays.length = b.bays.length) (a4 : a.bays.length ≤ 9223372036854775807) (a5 : lksOk a.bays = true) (b5 : lksOk b.bays = true) (m k : Nat) (f : Bool) (hk : k < a.bays.length) : L14_17 ok14 sm14 a b g (m + 1) f k = L14_17 ok14 sm14 a b g m (f && same (a.bays.getD k bay0) (b.bays.getD k bay0)) ((k + 1 : Nat) : Int) := by
  have q1 : ok14 (bayR (a.bays.getD k bay0)) (bayR (b.bays.getD k bay0)) = true := by
    unfold ok14
    rw [show okRB (bayR (a.bays.getD k bay0)) = true from okLk_links (lks_getD a5 k), show okRB (bayR (b.bays.getD k bay0)) = true from okLk_links (lks_getD b5 k)]; rfl
  have q2 : sm14 (bayR (a.bays.getD k bay0)) (bayR (b.bays.getD k bay0)) = same (a.bays.getD k bay0) (b.bays.getD k bay0) := by
    unfold sm14; rw [rbay_bayR, rbay_bayR]
  unfold bayR at q1 q2
  rw [st14_17]
  simp only [lt1 hk, lt1 (show k < b.bays.length by omega), ge0, tn, tt, cond_true, nx hk a4, q1, q2]
  cases f
  · simp only [cond_false, Bool.false_and]
  · simp only [cond_true, Bool.true_and]
theorem l14_17 (h4 : a.bays.length = b.bays.length) (a4 : a.bays.length ≤ 9223372036854775807) (a5 : lksOk a.bays = true) (b5 : lksOk b.bays = true) (hg : a.bays.length < g) (f : Bool) : L14_17 ok14 sm14 a b g g f 0 = lB (f && eqL same a.bays b.bays) :=
  and_loop (L := fun m f i => L14_17 ok14 sm14 a b g m f i) (NX := fun f => lB f) (d := bay0) (eq := same) h4 (fun m k f hk => q14_17 a b g h4 a4 a5 b5 m k f hk) (fun m f => by rw [st14_17, lt0 (Nat.lt_irrefl _)]; simp only [cond_false]) g 0 f (by omega) (by omega)
theorem q14_13 (h : a.srcs.length = b.srcs.length) (h1 : a.srcs.length ≤ 9223372036854775807) (m k : Nat) (f : Bool) (hk : k < a.srcs.length) : L14_13 ok14 sm14 a b g (m + 1) f k = L14_13 ok14 sm14 a b g m (f && eq36 (a.srcs.getD k src0) (b.srcs.getD k src0)) ((k + 1 : Nat) : Int) := by
  rw [st14_13]
  have e1 := lt1 hk
  have e2 := lt1 (show k < b.srcs.length by omega)
  rw [e1, e2, ge0, tn, nx hk h1]
  cases f <;> rfl
theorem l14_13 (h : a.srcs.length = b.srcs.length) (h1 : a.srcs.length ≤ 9223372036854775807) (hg : a.srcs.length < g) (f : Bool) : L14_13 ok14 sm14 a b g g f 0 = L14_17 ok14 sm14 a b g g (f && eqL eq36 a.srcs b.srcs) 0 :=
  and_loop (L := fun m f i => L14_13 ok14 sm14 a b g m f i) (NX := fun f => L14_17 ok14 sm14 a b g g f 0) (d := src0) (eq := eq36) h (fun m k f hk => q14_13 a b g h h1 m k f hk) (fun m f => by rw [st14_13, lt0 (Nat.lt_irrefl _)]; simp only [cond_false]) g 0 f (by omega) (by omega)
theorem q14_9 (h : a.lines.length = b.lines.length) (h1 : a.lines.length ≤ 9223372036854775807) (m k : Nat) (f : Bool) (hk : k < a.lines.length) : L14_9 ok14 sm14 a b g (m + 1) f k = L14_9 ok14 sm14 a b g m (f && eq35 (a.lines.getD k line0) (b.lines.getD k line0)) ((k + 1 : Nat) : Int) := by
  rw [st14_9]
  have e1 := lt1 hk
  have e2 := lt1 (show k < b.lines.length by omega)
  rw [e1, e2, ge0, tn, nx hk h1]
  cases f <;> rfl
theorem l14_9 (h : a.lines.length = b.lines.length) (h1 : a.lines.length ≤ 9223372036854775807) (hg : a.lines.length < g) (f : Bool) : L14_9 ok14 sm14 a b g g f 0 = L14_13 ok14 sm14 a b g g (f && eqL eq35 a.lines b.lines) 0 :=
  and_loop (L := fun m f i => L14_9 ok14 sm14 a b g m f i) (NX := fun f => L14_13 ok14 sm14 a b g g f 0) (d := line0) (eq := eq35) h (fun m k f hk => q14_9 a b g h h1 m k f hk) (fun m f => by rw [st14_9, lt0 (Nat.lt_irrefl _)]; simp only [cond_false]) g 0 f (by omega) (by omega)
theorem q14_5 (h : a.buses.length = b.buses.length) (h1 : a.buses.length ≤ 9223372036854775807) (m k : Nat) (f : Bool) (hk : k < a.buses.length) : L14_5 ok14 sm14 a b g (m + 1) f k = L14_5 ok14 sm14 a b g m (f && eqS (a.buses.getD k e0) (b.buses.getD k e0)) ((k + 1 : Nat) : Int) := by
  rw [st14_5]
  have e1 := lt1 hk
  have e2 := lt1 (show k < b.buses.length by omega)
  rw [e1, e2, ge0, tn, nx hk h1]
  cases f <;> rfl
theorem l14_5 (h : a.buses.length = b.buses.length) (h1 : a.buses.length ≤ 9223372036854775807) (hg : a.buses.length < g) (f : Bool) : L14_5 ok14 sm14 a b g g f 0 = L14_9 ok14 sm14 a b g g (f && eqL eqS a.buses b.buses) 0 :=
  and_loop (L := fun m f i => L14_5 ok14 sm14 a b g m f i) (NX := fun f => L14_9 ok14 sm14 a b g g f 0) (d := e0) (eq := eqS) h (fun m k f hk => q14_5 a b g h h1 m k f hk) (fun m f => by rw [st14_5, lt0 (Nat.lt_irrefl _)]; simp only [cond_false]) g 0 f (by omega) (by omega)
end
theorem c14 (a b : SSta) (ha : okSta a = true) (hb : okSta b = true) : CX Try.prog 14 [aSta a, aSta b] [] (vB (same a b)) [] := by
  obtain ⟨a1, a2, a3, a4, a5⟩ := okSta_len ha
  obtain ⟨b1, b2, b3, b4, b5⟩ := okSta_len hb
  obtain ⟨g, g1, g2, g3, g4⟩ : ∃ g, a.buses.length < g ∧ a.lines.length < g ∧ a.srcs.length < g ∧ a.bays.length < g := ⟨a.buses.length + a.lines.length + a.srcs.length + a.bays.length + 1, by omega⟩
  refine cx_of s14.ok Try.func14 b14 rfl ((ev14 ok14 sm14 a b g).trans ?_)
  rw [same_sta]
  simp only [lenne]
  by_cases h1 : a.buses.length = b.buses.length
  · by_cases h2 : a.lines.length = b.lines.length
    · by_cases h3 : a.srcs.length = b.srcs.length
      · by_cases h4 : a.bays.length = b.bays.length
        · rw [l14_5 a b g h1 a1 g1, l14_9 a b g h2 a2 g2, l14_13 a b g h3 a3 g3, l14_17 a b g h4 a4 a5 b5 g4, eqL_same same_str, eqL_same same_line, eqL_same same_src, eqL_same (eq := same) (fun _ _ => rfl)]
          simp only [h1, h2, h3, h4, decide_true, Bool.not_true, cond_false, fNot, bAnd, Bool.true_and, Bool.and_assoc]
        · rw [same_len h4]
          simp only [h1, h2, h3, h4, decide_true, decide_false, Bool.not_true, Bool.not_false, cond_false, cond_true, Bool.and_false, fNot, bAnd]
      · rw [same_len h3]
        simp only [h1, h2, h3, decide_true, decide_false, Bool.not_true, Bool.not_false, cond_false, cond_true, Bool.and_false, Bool.false_and, fNot, bAnd]
    · rw [same_len h2]
      simp only [h1, h2, decide_true, decide_false, Bool.not_true, Bool.not_false, cond_false, cond_true, Bool.and_false, Bool.false_and, fNot, bAnd]
  · rw [same_len h1]
    simp only [h1, decide_true, decide_false, Bool.not_true, Bool.not_false, cond_false, cond_true, Bool.and_false, Bool.false_and, fNot, bAnd]

/-! Large -/
def large (s : SSta) : Bool := decide (8 < s.buses.length) || (decide (10 < s.lines.length) || (decide (8 < s.srcs.length) || (decide (20 < s.bays.length) || s.bays.any fun b => decide (6 < b.links.length))))
theorem b7 : Try.f7.body = some (bodyOf Try.f7) := by kernel_rfl
theorem gtD (n k : Nat) : decide ((n : Int) > (k : Int)) = decide (k < n) := by
  by_cases h : k < n
  · rw [decide_eq_true h, decide_eq_true (by omega)]
  · rw [decide_eq_false h, decide_eq_false (by omega)]
theorem lp7 (s : SSta) (g : Nat) (hb : s.bays.length ≤ 9223372036854775807) : ∀ (m k : Nat), k ≤ s.bays.length → s.bays.length - k < m → L7 s g m k = lB ((s.bays.drop k).any fun b => decide (6 < b.links.length))
  | 0, k, _, h => by omega
  | m + 1, k, hk, h => by
    rw [st7]
    by_cases hlt : k < s.bays.length
    · have ih := lp7 s g hb m (k + 1) (by omega) (by omega)
      rw [drop_at' (d := bay0) hlt]
      have e6 : decide (((s.bays.getD k bay0).links.length : Int) > (6 : Int)) = decide (6 < (s.bays.getD k bay0).links.length) := gtD _ 6
      simp only [lt1 hlt, ge0, tn, tt, cond_true, nx hlt hb, ih, List.any_cons, e6]
      cases decide (6 < (s.bays.getD k bay0).links.length) <;> rfl
    · rw [lt0 hlt, List.drop_of_length_le (by omega)]
      rfl
theorem c7 (s : SSta) (hs : okSta s = true) : CX Try.prog 7 [aSta s] [] (vB (large s)) [] := by
  obtain ⟨a1, a2, a3, a4, a5⟩ := okSta_len hs
  obtain ⟨g, hg⟩ : ∃ g, s.bays.length < g := ⟨s.bays.length + 1, by omega⟩
  refine cx_of (Orc.nil_ok _) Try.func7 b7 rfl ((ev7 s g).trans ?_)
  have hl : L7 s g g 0 = lB (s.bays.any fun b => decide (6 < b.links.length)) := lp7 s g a4 g 0 (by omega) (by omega)
  have t8 : ∀ n : Nat, decide ((n : Int) > 8) = decide (8 < n) := fun n => gtD n 8
  have t10 : ∀ n : Nat, decide ((n : Int) > 10) = decide (10 < n) := fun n => gtD n 10
  have t20 : ∀ n : Nat, decide ((n : Int) > 20) = decide (20 < n) := fun n => gtD n 20
  rw [hl]
  simp only [t8, t10, t20]
  unfold large
  cases decide (8 < s.buses.length) <;> cases decide (10 < s.lines.length) <;> cases decide (8 < s.srcs.length) <;> cases decide (20 < s.bays.length) <;> rfl
end Go.Proofs.Ythmapnolgdpkbaa.st
