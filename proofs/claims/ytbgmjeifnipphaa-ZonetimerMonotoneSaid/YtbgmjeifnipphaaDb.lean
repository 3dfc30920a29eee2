/-
  The law ZonetimerDelays, in plain terms. No condition.
-/
import Derived.Test.YtbgmjeifnipphaaDa
namespace Go.Proofs.Ytbgmjeifnipphaa.zt
open Go.RowKit Go.Ev

theorem R3_ok (z : Rc) (run : Int) (t : B3) (r : K) (ht : t = ⟨false, usable z && decide (run > z.d), false⟩) : R3 z run t r = r := by
  subst ht
  unfold R3 T3 usable
  cases z.on
  · rfl
  cases z.fw
  · rfl
  cases decide (z.d ≥ 0)
  · rfl
  cases decide (z.d ≤ 500)
  · rfl
  cases decide (run > z.d) <;> rfl
theorem rz_no : usable rz = false := rfl
theorem okc_rz : okc rz 0 = true := by decide
structure Iv (z : Rc) (run : Int) (q : I3) : Prop where
  a : q.a = 0
  c : q.c = 0
  ok : okc z q.b = true
  eq : usable z = true → q.b = min run (z.d + 1)
theorem Iv.va {z : Rc} {run : Int} {c : I3} (h : Iv z run c) (p b : Bool) : zt.va (in3 z c p b) = true := by
  unfold zt.va valid; simp only; rw [h.a, h.c, h.ok, okc_rz]; rfl
def nrun (run : Int) (p b : Bool) : Int := bif p && !b then run + 1 else 0
theorem Iv.next {z : Rc} {run : Int} {c : I3} (h : Iv z run c) (p b : Bool) (h0 : 0 ≤ run) : Iv z (nrun run p b) (nxI (in3 z c p b)) ∧ trI (in3 z c p b) = ⟨false, usable z && decide (nrun run p b > z.d), false⟩ := by
  have hv := h.va p b
  have e1 : (nxI (in3 z c p b)).b = nx true z c.b p b := by unfold nxI; rw [hv]
  refine ⟨⟨?_, ?_, ?_, ?_⟩, ?_⟩
  · unfold nxI; rw [hv]; simp [nx, act, rz_no]
  · unfold nxI; rw [hv]; simp [nx, act, rz_no]
  · rw [e1]; exact okc_nx true z c.b p b (fun _ => h.ok)
  · intro hu
    have hb := usable_bd hu
    rw [e1]
    unfold nx nrun act
    rw [hu]
    cases p <;> cases b <;> simp only [Bool.and_true, Bool.and_false, Bool.not_true, Bool.not_false, cond_true, cond_false]
    · omega
    · omega
    · rw [mn_eq hu h.ok, h.eq hu]; omega
    · omega
  · unfold trI
    rw [hv]
    have e2 : ∀ (c : Int) (p b : Bool), tr true rz c p b = false := fun c p b => by simp [tr, act, rz_no]
    simp only [e2]
    congr 1
    unfold tr nrun act
    cases hu : usable z
    · simp
    · have hb := usable_bd hu
      cases p <;> cases b <;> simp only [Bool.and_true, Bool.and_false, Bool.not_true, Bool.not_false, cond_true, cond_false, Bool.true_and, Bool.false_and]
      · symm; simp; omega
      · symm; simp; omega
      · rw [mn_eq hu h.ok, h.eq hu, decide_eq_decide]; omega
      · symm; simp; omega
theorem chk_ok {n : Nat} {k : Int} (r : K) (h0 : 0 ≤ k) (h1 : k < n) : chk n k r = r := by
  unfold chk
  have e0 : decide (0 ≤ k) = true := by simpa using h0
  have e1 : decide (k < (n : Int)) = true := by simpa using h1
  rw [e0, e1]; rfl
theorem loop3 (z : Rc) (p b : List Bool) (g : Nat) (hl : p.length = b.length) (hn : p.length ≤ 80) : ∀ (m : Nat) (run k : Int) (c : I3), 0 ≤ k → k ≤ p.length → 0 ≤ run → run ≤ k → (p.length : Int) - k < m → Iv z run c →
    loopK Try.prog orc3 an3 g (loopOf Try.f3) (some kp3) 25 m (st3 z p b run k c) (K3 g) = some (.c (B true)) := by
  intro m
  induction m with
  | zero => intro run k c h0 h1 h2 h3 h4; omega
  | succ m ih =>
    intro run k c h0 h1 h2 h3 h4 hiv
    rw [step3]
    by_cases hlt : k < (p.length : Int)
    · have e1 : decide (k < (p.length : Int)) = true := by simpa using hlt
      have hltb : k < (b.length : Int) := by omega
      rw [e1]
      simp only [cond_true]
      rw [chk_ok _ h0 hlt, chk_ok _ h0 hltb, chk_ok _ h0 hlt, chk_ok _ h0 hltb, wr_in (n := k + 1) (by omega), wr_in (n := run + 1) (by omega)]
      generalize p.getD k.toNat false = pk
      generalize b.getD k.toNat false = bk
      obtain ⟨hn1, ht⟩ := hiv.next pk bk h2
      have hrun : nrun run pk bk = bif !pk then 0 else bif bk then 0 else run + 1 := by unfold nrun; cases pk <;> cases bk <;> rfl
      have hb : 0 ≤ nrun run pk bk ∧ nrun run pk bk ≤ k + 1 := by unfold nrun; cases (pk && !bk) <;> simp <;> omega
      have hrec := ih (nrun run pk bk) (k + 1) _ (by omega) (by omega) hb.1 hb.2 (by omega) hn1
      cases pk
      · simp only [Bool.not_false, cond_true] at hrun ⊢
        rw [hrun] at hrec ht
        rw [R3_ok z 0 _ _ ht]; exact hrec
      · cases bk
        · simp only [Bool.not_true, cond_false] at hrun ⊢
          rw [hrun] at hrec ht
          rw [R3_ok z (run + 1) _ _ ht]; exact hrec
        · simp only [Bool.not_true, cond_false, cond_true] at hrun ⊢
          rw [hrun] at hrec ht
          rw [R3_ok z 0 _ _ ht]; exact hrec
    · have e1 : decide (k < (p.length : Int)) = false := by simpa using hlt
      rw [e1]; rfl
theorem ev3 (z : Rc) (p b : List Bool) : callA Try.prog orc3 an3 90 Try.f3 (bodyOf Try.f3) (eD z p b) = some (.c (B true)) := by
  rw [pre3]
  by_cases hl : p.length = b.length
  · have e1 : ((p.length : Int) != (b.length : Int)) = false := by simp [hl]
    rw [e1]
    by_cases hn : (p.length : Int) > 80
    · have e2 : decide ((p.length : Int) > 80) = true := by simpa using hn
      rw [e2]; rfl
    · have e2 : decide ((p.length : Int) > 80) = false := by simpa using hn
      rw [e2]
      simp only [cond_false]
      refine loop3 z p b 90 hl (by omega) 90 0 0 _ (by omega) (by omega) (by omega) (by omega) (by omega) ⟨rfl, rfl, ?_, ?_⟩
      · exact okc_mk (by simp) (most_nn z)
      · intro hu; have := usable_bd hu; show (0 : Int) = _; omega
  · have e1 : ((p.length : Int) != (b.length : Int)) = true := by
      rw [bne_iff_ne]; intro h; exact hl (by omega)
    rw [e1]; rfl
theorem b3 : Try.f3.body = some (bodyOf Try.f3) := by kernel_rfl
theorem cr3 (z : Rc) (p b : List Bool) : ∃ Hc, CR Try.prog 3 (eD z p b) [] (.c (B true)) Hc := callA_ok orc3_ok Try.func3 b3 (ev3 z p b)
end Go.Proofs.Ytbgmjeifnipphaa.zt
