/-
  The plain facts about zones, and the law ZonetimerSteps. No condition.
-/
import Derived.Test.YtbgmjeifnipphaaZu
namespace Go.Proofs.Ytbgmjeifnipphaa.zt
open Go.RowKit Go.Ev
set_option maxRecDepth 100000

theorem wr_in {n : Int} (h : -9223372036854775808 ≤ n ∧ n ≤ 9223372036854775807) : wr n = n := IntWalk.i64_in n (by omega)
theorem usable_bd {z : Rc} (h : usable z = true) : 0 ≤ z.d ∧ z.d ≤ 500 := by
  unfold usable at h
  cases h1 : z.on <;> cases h2 : z.fw <;> simp [h1, h2] at h
  omega

/-- Until, as a pair -/
def updL (a : Bool) (n l : Int) (f : Bool) : Int := bif a then (bif !f then n else bif decide (n < l) then n else l) else l
theorem rU_eq (u p b : Bool) (n l : Int) (f : Bool) (k : Int → Bool → K) : rU u p b n l f k = k (updL (act u p b) n l f) (f || act u p b) := by
  unfold rU updL act
  cases u <;> cases p <;> cases b <;> cases f <;> simp only [Bool.not_true, Bool.not_false, Bool.and_true, Bool.and_false, Bool.true_and, Bool.false_and, cond_true, cond_false, Bool.or_true, Bool.or_false, Bool.true_or, Bool.false_or]
  all_goals (cases decide (n < l) <;> rfl)
def un (a : In) : Int × Bool :=
  bif !va a then (0, false) else
  let a0 := act (usable a.z.z0) a.p.a a.b.a; let a1 := act (usable a.z.z1) a.p.b a.b.b; let a2 := act (usable a.z.z2) a.p.c a.b.c
  let l0 := updL a0 (mx a.z.z0 a.c.a) 0 false; let l1 := updL a1 (mx a.z.z1 a.c.b) l0 a0; let l2 := updL a2 (mx a.z.z2 a.c.c) l1 (a0 || a1)
  (l2, a0 || a1 || a2)
theorem uF_eq (a : In) : uF a = some (oU (un a).1 (un a).2) := by
  unfold uF un
  simp only [rU_eq, Bool.false_or]
  cases va a <;> rfl
theorem mx_eq (z : Rc) (c : Int) : mx2 z c = mx z c := by unfold mx mx2; split <;> split <;> omega
theorem mx_pos (z : Rc) (c : Int) : 1 ≤ mx z c := by unfold mx; split <;> omega
/-- the reference's way with one number -/
theorem rV_act (u p b : Bool) (n l : Int) (k : Int → K) : rV u p b n l k = bif act u p b then (bif l == 0 then k n else bif decide (n < l) then k n else k l) else k l := by
  cases u <;> cases p <;> cases b <;> rfl
theorem rV_eq (u p b : Bool) (n l : Int) (f : Bool) (k : Int → K) (hf : f = decide (l > 0)) (h0 : 0 ≤ l) (hn : 1 ≤ n) : rV u p b n l k = k (updL (act u p b) n l f) ∧ (f || act u p b) = decide (updL (act u p b) n l f > 0) ∧ 0 ≤ updL (act u p b) n l f := by
  rw [rV_act]
  generalize act u p b = A
  cases A with
  | false => exact ⟨rfl, by simp [updL, hf], h0⟩
  | true =>
    by_cases hl : l = 0
    · subst hl
      have e0 : f = false := by rw [hf]; decide
      subst e0
      exact ⟨rfl, by simp [updL]; omega, by simp [updL]; omega⟩
    · have e0 : f = true := by rw [hf]; simp; omega
      subst e0
      have e1 : (l == 0) = false := by simpa using hl
      by_cases hn' : n < l
      · have e2 : decide (n < l) = true := by simpa using hn'
        exact ⟨by simp [updL, e1, hn'], by simp [updL, hn']; omega, by simp [updL, hn']; omega⟩
      · exact ⟨by simp [updL, e1, hn'], by simp [updL, hn']; omega, by simp [updL, hn']; omega⟩
theorem wF_eq (a : In) : wF a = some (oU (un a).1 (un a).2) := by
  rw [← uF_eq]
  unfold wF uF
  simp only [mx_eq, rU_eq]
  obtain ⟨h1, h2, h3⟩ := rV_eq (usable a.z.z0) a.p.a a.b.a (mx a.z.z0 a.c.a) 0 false (fun l => rV (usable a.z.z1) a.p.b a.b.b (mx a.z.z1 a.c.b) l fun l => rV (usable a.z.z2) a.p.c a.b.c (mx a.z.z2 a.c.c) l fun l => some (oU l (decide (l > 0)))) (by simp) (by omega) (mx_pos _ _)
  rw [h1]
  obtain ⟨k1, k2, k3⟩ := rV_eq (usable a.z.z1) a.p.b a.b.b (mx a.z.z1 a.c.b) _ _ (fun l => rV (usable a.z.z2) a.p.c a.b.c (mx a.z.z2 a.c.c) l fun l => some (oU l (decide (l > 0)))) h2 h3 (mx_pos _ _)
  rw [k1]
  obtain ⟨m1, m2, m3⟩ := rV_eq (usable a.z.z2) a.p.c a.b.c (mx a.z.z2 a.c.c) _ _ (fun l => some (oU l (decide (l > 0)))) k2 k3 (mx_pos _ _)
  rw [m1, m2]
theorem cr10 (a : In) : ∃ Hc, CR Try.prog 10 (eI a) [] (oU (un a).1 (un a).2) Hc := callA_ok orc2_ok Try.func10 b10 (by rw [ev10, uF_eq])
theorem cr12 (a : In) : ∃ Hc, CR Try.prog 12 (eI a) [] (oU (un a).1 (un a).2) Hc := callA_ok orc2_ok Try.func12 b12 (by rw [ev12, wF_eq])

def dN : List AV → Option Unit
  | [] => some ()
  | _ => none
theorem dN_inv (args : List AV) (a : Unit) (h : dN args = some a) : args = (fun _ => []) a := by
  unfold dN at h; split at h
  · rfl
  · simp at h
/-- all of the package and its reference by contract -/
def orc3 : Orc := Orc.cons 9 (ans dI oS) (Orc.cons 11 (ans dI oS) (Orc.cons 10 (ans dI fun a => oU (un a).1 (un a).2) (Orc.cons 12 (ans dI fun a => oU (un a).1 (un a).2) (Orc.cons 8 (ans dN fun _ => .c (B true)) orc2))))
theorem orc3_ok : OrcOk Try.prog orc3 :=
  Orc.cons_ok (Orc.cons_ok (Orc.cons_ok (Orc.cons_ok (Orc.cons_ok orc2_ok (ans_ok dN_inv fun _ => cr8)) (ans_ok dI_inv cr12)) (ans_ok dI_inv cr10)) (ans_ok dI_inv cr11)) (ans_ok dI_inv cr9)

abbrev eL (a : In) : List AV := [zs a.z.z0 a.z.z1 a.z.z2, cs3 a.c.a a.c.b a.c.c, .agg [B a.p.a, B a.p.b, B a.p.c, B a.b.a, B a.b.b, B a.b.c]]
def no : K := some (.c (B false))
def lF (a : In) : K :=
  bif ((nxI a).a == (nxI a).a && ((nxI a).b == (nxI a).b && ((nxI a).c == (nxI a).c && true))) then
  (bif ((trI a).a == (trI a).a && ((trI a).b == (trI a).b && ((trI a).c == (trI a).c && true))) then
  (bif (fV (a.z, a.c) == fV (a.z, a.c)) then
  (bif ((un a).1 == (un a).1) then (bif ((un a).2 == (un a).2) then some (.c (B (fV (a.z, nxI a)))) else no) else no) else no) else no) else no
theorem ev6 (a : In) : callA Try.prog orc3 na 4 Try.f6 (bodyOf Try.f6) (eL a) = lF a := by kernel_rfl
end Go.Proofs.Ytbgmjeifnipphaa.zt
