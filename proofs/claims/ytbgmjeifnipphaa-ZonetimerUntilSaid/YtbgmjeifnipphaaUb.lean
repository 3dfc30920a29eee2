/-
  The law ZonetimerUntil, in plain terms. No condition.
-/
import Derived.Test.YtbgmjeifnipphaaUa
namespace Go.Proofs.Ytbgmjeifnipphaa.zt
open Go.RowKit Go.Ev

theorem act_us {u p b : Bool} (h : act u p b = true) : u = true := by unfold act at h; simp at h; exact h.1.1
theorem mx_val {z : Rc} {c : Int} (hu : usable z = true) (hc : okc z c = true) : mx z c = max (z.d + 1 - c) 1 := by
  have h1 := usable_bd hu
  have h2 := okc_bd hc
  rw [most_eq hu] at h2
  unfold mx
  rw [wr_in (n := z.d + 1) (by omega), wr_in (by omega)]
  split <;> omega

/-- one zone after i - 1 equal steps -/
def Z1 (z : Rc) (c0 : Int) (p b : Bool) (i c : Int) : Prop := okc z c = true ∧ (act (usable z) p b = true → c = min (c0 + (i - 1)) (z.d + 1))
theorem z1_tr {z : Rc} {c0 c i : Int} {p b : Bool} (h0 : okc z c0 = true) (hi : 1 ≤ i) (h : Z1 z c0 p b i c) : tr true z c p b = (act (usable z) p b && decide (mx z c0 ≤ i)) := by
  unfold tr
  cases ha : act (usable z) p b
  · rfl
  · have hu := act_us ha
    have h1 := usable_bd hu
    have h2 := okc_bd h0
    rw [most_eq hu] at h2
    rw [mn_eq hu h.1, h.2 ha, mx_val hu h0]
    simp only [Bool.true_and]
    rw [decide_eq_decide]
    omega
theorem z1_nx {z : Rc} {c0 c i : Int} {p b : Bool} (h0 : okc z c0 = true) (h : Z1 z c0 p b i c) : Z1 z c0 p b (i + 1) (nx true z c p b) := by
  refine ⟨okc_nx true z c p b (fun _ => h.1), fun ha => ?_⟩
  have hu := act_us ha
  have h1 := usable_bd hu
  unfold nx
  rw [ha]
  simp only [cond_true]
  rw [mn_eq hu h.1, h.2 ha]
  omega
structure Inv (a : In) (i : Int) (c : I3) : Prop where
  x : Z1 a.z.z0 a.c.a a.p.a a.b.a i c.a
  y : Z1 a.z.z1 a.c.b a.p.b a.b.b i c.b
  z : Z1 a.z.z2 a.c.c a.p.c a.b.c i c.c
theorem Inv.va {a : In} {i : Int} {c : I3} (h : Inv a i c) : zt.va (at7 a c) = true := by
  unfold zt.va valid; simp only; rw [h.x.1, h.y.1, h.z.1]; rfl
theorem inv0 {a : In} (hv : va a = true) : Inv a 1 a.c := by
  obtain ⟨h1, h2, h3⟩ := va_and hv
  have key : ∀ {z : Rc} {c : Int} {p b : Bool}, okc z c = true → Z1 z c p b 1 c := fun hc => ⟨hc, fun ha => by
    have h1 := okc_bd hc
    rw [most_eq (act_us ha)] at h1
    omega⟩
  exact ⟨key h1, key h2, key h3⟩
def trips (a : In) (i : Int) : Bool :=
  (act (usable a.z.z0) a.p.a a.b.a && decide (mx a.z.z0 a.c.a ≤ i)) || (act (usable a.z.z1) a.p.b a.b.b && decide (mx a.z.z1 a.c.b ≤ i)) || (act (usable a.z.z2) a.p.c a.b.c && decide (mx a.z.z2 a.c.c ≤ i))
theorem quiet_eq {a : In} {i : Int} {c : I3} (hv : va a = true) (hi : 1 ≤ i) (h : Inv a i c) : (!(quiet (trI (at7 a c)))) = trips a i := by
  obtain ⟨h1, h2, h3⟩ := va_and hv
  unfold quiet trI trips
  simp only [h.va]
  rw [z1_tr h1 hi h.x, z1_tr h2 hi h.y, z1_tr h3 hi h.z]
  generalize (act (usable a.z.z0) a.p.a a.b.a && decide (mx a.z.z0 a.c.a ≤ i)) = A
  generalize (act (usable a.z.z1) a.p.b a.b.b && decide (mx a.z.z1 a.c.b ≤ i)) = A'
  generalize (act (usable a.z.z2) a.p.c a.b.c && decide (mx a.z.z2 a.c.c ≤ i)) = A''
  cases A <;> cases A' <;> cases A'' <;> rfl
theorem inv_next {a : In} {i : Int} {c : I3} (hv : va a = true) (h : Inv a i c) : Inv a (i + 1) (nxI (at7 a c)) := by
  obtain ⟨h1, h2, h3⟩ := va_and hv
  have e : nxI (at7 a c) = ⟨nx true a.z.z0 c.a a.p.a a.b.a, nx true a.z.z1 c.b a.p.b a.b.b, nx true a.z.z2 c.c a.p.c a.b.c⟩ := by
    unfold nxI; rw [h.va]
  rw [e]
  exact ⟨z1_nx h1 h.x, z1_nx h2 h.y, z1_nx h3 h.z⟩
/-- what Until's pair says -/
theorem un_trips {a : In} (hv : va a = true) (i : Int) (hi : 1 ≤ i) : trips a i = ((un a).2 && decide ((un a).1 ≤ i)) := by
  have m0 := mx_pos a.z.z0 a.c.a
  have m1 := mx_pos a.z.z1 a.c.b
  have m2 := mx_pos a.z.z2 a.c.c
  unfold trips un
  rw [hv]
  simp only [Bool.not_true, cond_false]
  generalize act (usable a.z.z0) a.p.a a.b.a = A
  generalize act (usable a.z.z1) a.p.b a.b.b = A'
  generalize act (usable a.z.z2) a.p.c a.b.c = A''
  generalize mx a.z.z0 a.c.a = x at *
  generalize mx a.z.z1 a.c.b = y at *
  generalize mx a.z.z2 a.c.c = z at *
  unfold updL
  cases A <;> cases A' <;> cases A'' <;> simp only [Bool.not_true, Bool.not_false, cond_true, cond_false, Bool.true_and, Bool.false_and, Bool.true_or, Bool.false_or, Bool.or_false, Bool.or_true]
  · by_cases h : z < y <;> simp [h] <;> first | omega | (rw [Bool.eq_iff_iff]; simp; omega) | skip
  · by_cases h : z < x <;> simp [h] <;> first | omega | (rw [Bool.eq_iff_iff]; simp; omega) | skip
  · by_cases h : y < x <;> simp [h] <;> first | omega | (rw [Bool.eq_iff_iff]; simp; omega) | skip
  · by_cases h : y < x <;> simp [h]
    · by_cases h' : z < y <;> simp [h'] <;> first | omega | (rw [Bool.eq_iff_iff]; simp; omega) | skip
    · by_cases h' : z < x <;> simp [h'] <;> first | omega | (rw [Bool.eq_iff_iff]; simp; omega) | skip
theorem un_pos {a : In} : (un a).2 = decide ((un a).1 > 0) ∧ 0 ≤ (un a).1 := by
  have m0 := mx_pos a.z.z0 a.c.a
  have m1 := mx_pos a.z.z1 a.c.b
  have m2 := mx_pos a.z.z2 a.c.c
  unfold un
  cases va a
  · simp
  simp only [Bool.not_true, cond_false]
  generalize act (usable a.z.z0) a.p.a a.b.a = A
  generalize act (usable a.z.z1) a.p.b a.b.b = A'
  generalize act (usable a.z.z2) a.p.c a.b.c = A''
  generalize mx a.z.z0 a.c.a = x at *
  generalize mx a.z.z1 a.c.b = y at *
  generalize mx a.z.z2 a.c.c = z at *
  unfold updL
  cases A <;> cases A' <;> cases A'' <;> simp only [Bool.not_true, Bool.not_false, cond_true, cond_false, Bool.true_or, Bool.false_or, Bool.or_false, Bool.or_true]
  · simp
  · simp; omega
  · simp; omega
  · by_cases h : z < y <;> simp [h] <;> omega
  · simp; omega
  · by_cases h : z < x <;> simp [h] <;> omega
  · by_cases h : y < x <;> simp [h] <;> omega
  · by_cases h : y < x <;> simp [h]
    · by_cases h' : z < y <;> simp [h'] <;> omega
    · by_cases h' : z < x <;> simp [h'] <;> omega
theorem E4_eq (a : In) : E4 a = some (.c (B true)) := by
  unfold E4
  have e : fV (a.z, a.c) = va a := rfl
  rw [e]
  cases hv : va a
  · have : un a = (0, false) := by unfold un; rw [hv]; rfl
    rw [this]; rfl
  · rfl
theorem loop7 {a : In} (g : Nat) (hv : va a = true) (hn : (un a).1 ≤ 60) : ∀ (m : Nat) (i : Int) (c : I3), 1 ≤ i → i ≤ (un a).1 + 2 → (un a).1 + 2 - i < m → Inv a i c →
    loopK Try.prog orc3 an7 g (loopOf Try.f7) (some kp7) 31 m (st7 a (un a).1 (un a).2 c i) (K7 g) = some (.c (B true)) := by
  have hp := un_pos (a := a)
  intro m
  induction m with
  | zero => intro i c h1 h2 h3; omega
  | succ m ih =>
    intro i c h1 h2 h3 hinv
    rw [step7, quiet_eq hv h1 hinv, un_trips hv i h1, wr_in (n := (un a).1 + 1) (by omega)]
    by_cases hle : i ≤ (un a).1 + 1
    · have e1 : decide (i ≤ (un a).1 + 1) = true := by simpa using hle
      have hnext := ih (i + 1) (nxI (at7 a c)) (by omega) (by omega) (by omega) (inv_next hv hinv)
      rw [e1, wr_in (n := i + 1) (by omega), hnext]
      simp only [cond_true]
      cases (un a).2
      · simp
      · simp only [cond_true, Bool.true_and]
        have : decide ((un a).1 ≤ i) = decide (i ≥ (un a).1) := rfl
        rw [this]; simp
    · have e1 : decide (i ≤ (un a).1 + 1) = false := by simpa using hle
      rw [e1]
      simp only [cond_false]
      rw [hp.1]; simp
theorem ev7 (a : In) : callA Try.prog orc3 an7 70 Try.f7 (bodyOf Try.f7) (eL a) = some (.c (B true)) := by
  rw [pre7, E4_eq]
  have e : fV (a.z, a.c) = va a := rfl
  rw [e]
  by_cases hn : (un a).1 > 60
  · have e1 : decide ((un a).1 > 60) = true := by simpa using hn
    rw [e1]; rfl
  · have e1 : decide ((un a).1 > 60) = false := by simpa using hn
    rw [e1]
    cases hv : va a
    · rfl
    · simp only [cond_false, Bool.not_true]
      have hp := un_pos (a := a)
      exact loop7 70 hv (by omega) 70 1 a.c (by omega) (by omega) (by omega) (inv0 hv)
theorem b7 : Try.f7.body = some (bodyOf Try.f7) := by kernel_rfl
theorem cr7 (a : In) : ∃ Hc, CR Try.prog 7 (eL a) [] (.c (B true)) Hc := callA_ok orc3_ok Try.func7 b7 (ev7 a)
end Go.Proofs.Ytbgmjeifnipphaa.zt
