/-
  The law ZonetimerMonotone: its loop, and the law in plain terms. No condition but that the Delay is a 64-bit integer.
-/
import Derived.Test.YtbgmjeifnipphaaDb
namespace Go.Proofs.Ytbgmjeifnipphaa.zt
open Go.RowKit Go.Ev
set_option maxRecDepth 100000

def kp4 : List Nat := [6, 8, 9, 38, 39, 40]
def an4 : Ann := fun r => bif Nat.beq r 8 then some kp4 else none
abbrev eM (z : Rc) (less : Int) (p : List Bool) : List AV := [.agg z.cs, .c (Z less), slB p]
abbrev shr (z : Rc) (less : Int) : Rc := ⟨z.on, z.fw, z.x, z.r, z.l, wr (z.d - less)⟩
def st4 (z : Rc) (less : Int) (p : List Bool) (k : Int) (c : I3) : St :=
  ⟨frm [(6, .c (B false)), (8, .c (.ptr 28 0)), (9, .c (.ptr 31 0)), (38, slB p), (39, .c (Z p.length)), (40, .c (Z k))] 0 68,
   [(0, .cells z.cs 23), (16, .cells (shr z less).cs 23), (28, .cells (z.cs ++ (shr z less).cs ++ z0c) 26), (31, .cells [Z c.a, Z c.b, Z c.c] 28)], 36⟩
noncomputable def K4 (g : Nat) : Out → St → K := kBlock 0 (kSeq Try.prog orc3 an4 g (sub [true, true, true, true, true, true, true] (bodyOf Try.f4)) (kFin Try.prog Try.f4))
theorem pre4 (z : Rc) (less : Int) (p : List Bool) (g : Nat) : callA Try.prog orc3 an4 g Try.f4 (bodyOf Try.f4) (eM z less p) =
    bif decide (less < 0) then yes else bif decide (less > z.d) then yes else bif decide ((p.length : Int) > 60) then yes else
      loopK Try.prog orc3 an4 g (loopOf Try.f4) (some kp4) 36 g (st4 z less p 0 ⟨0, 0, 0⟩) (K4 g) := by kernel_rfl
abbrev in4 (z : Rc) (less : Int) (c : I3) (pk : Bool) : In := ⟨⟨z, shr z less, rz⟩, c, ⟨pk, pk, pk⟩, ⟨false, false, false⟩⟩
def T4 (t : B3) (r : K) : K := bif t.a then (bif !t.b then no else bif t.c then no else r) else bif t.c then no else r
theorem step4 (z : Rc) (less : Int) (p : List Bool) (k : Int) (c : I3) (g m : Nat) : loopK Try.prog orc3 an4 g (loopOf Try.f4) (some kp4) 36 (m + 1) (st4 z less p k c) (K4 g) =
    bif decide (k < (p.length : Int)) then
      chk p.length k (T4 (trI (in4 z less c (p.getD k.toNat false))) (loopK Try.prog orc3 an4 g (loopOf Try.f4) (some kp4) 36 m (st4 z less p (wr (k + 1)) (nxI (in4 z less c (p.getD k.toNat false)))) (K4 g)))
    else yes := by kernel_rfl

/-- one zone that is never blocked -/
structure Zr (z : Rc) (run q : Int) : Prop where
  ok : okc z q = true
  eq : usable z = true → q = min run (z.d + 1)
theorem Zr.next {z : Rc} {run q : Int} (h : Zr z run q) (p : Bool) (h0 : 0 ≤ run) : Zr z (bif p then run + 1 else 0) (nx true z q p false) ∧ tr true z q p false = (usable z && decide ((bif p then run + 1 else 0) > z.d)) := by
  refine ⟨⟨okc_nx true z q p false (fun _ => h.ok), fun hu => ?_⟩, ?_⟩
  · have hb := usable_bd hu
    unfold nx act
    rw [hu]
    cases p <;> simp only [Bool.and_true, Bool.and_false, Bool.not_false, cond_true, cond_false]
    · omega
    · rw [mn_eq hu h.ok, h.eq hu]; omega
  · unfold tr act
    cases hu : usable z
    · simp
    · have hb := usable_bd hu
      cases p <;> simp only [Bool.and_true, Bool.and_false, Bool.not_false, cond_true, cond_false, Bool.true_and, Bool.false_and]
      · symm; simp; omega
      · rw [mn_eq hu h.ok, h.eq hu, decide_eq_decide]; omega
structure Iw (z s : Rc) (run : Int) (q : I3) : Prop where
  a : Zr z run q.a
  b : Zr s run q.b
  c : q.c = 0
theorem loop4 (z : Rc) (less : Int) (p : List Bool) (g : Nat) (hn : p.length ≤ 60) (hs : usable z = true → usable (shr z less) = true ∧ (shr z less).d ≤ z.d) : ∀ (m : Nat) (run k : Int) (c : I3), 0 ≤ k → k ≤ p.length → 0 ≤ run → run ≤ k → (p.length : Int) - k < m → Iw z (shr z less) run c →
    loopK Try.prog orc3 an4 g (loopOf Try.f4) (some kp4) 36 m (st4 z less p k c) (K4 g) = some (.c (B true)) := by
  intro m
  induction m with
  | zero => intro run k c h0 h1 h2 h3 h4; omega
  | succ m ih =>
    intro run k c h0 h1 h2 h3 h4 hiv
    rw [step4]
    by_cases hlt : k < (p.length : Int)
    · have e1 : decide (k < (p.length : Int)) = true := by simpa using hlt
      rw [e1]
      simp only [cond_true]
      rw [chk_ok _ h0 hlt, wr_in (n := k + 1) (by omega)]
      generalize p.getD k.toNat false = pk
      have hv : va (in4 z less c pk) = true := by unfold va valid; simp only; rw [hiv.a.ok, hiv.b.ok, hiv.c, okc_rz]; rfl
      obtain ⟨ha, hta⟩ := hiv.a.next pk h2
      obtain ⟨hb, htb⟩ := hiv.b.next pk h2
      have hnx : nxI (in4 z less c pk) = ⟨nx true z c.a pk false, nx true (shr z less) c.b pk false, 0⟩ := by unfold nxI; rw [hv]; simp [nx, act, rz_no]
      have htr : trI (in4 z less c pk) = ⟨tr true z c.a pk false, tr true (shr z less) c.b pk false, false⟩ := by unfold trI; rw [hv]; simp [tr, act, rz_no]
      have hbd : 0 ≤ (bif pk then run + 1 else 0) ∧ (bif pk then run + 1 else 0) ≤ k + 1 := by cases pk <;> simp <;> omega
      have hrec := ih (bif pk then run + 1 else 0) (k + 1) ⟨nx true z c.a pk false, nx true (shr z less) c.b pk false, 0⟩ (by omega) (by omega) hbd.1 hbd.2 (by omega) ⟨ha, hb, rfl⟩
      rw [hnx, htr, hrec, hta, htb]
      unfold T4
      simp only
      cases hu : usable z
      · rfl
      · obtain ⟨hu', hd⟩ := hs hu
        rw [hu']
        simp only [Bool.true_and]
        generalize (bif pk then run + 1 else 0) = R at *
        by_cases hR : R > z.d
        · have q1 : decide (R > z.d) = true := by simpa using hR
          have q2 : decide (R > (shr z less).d) = true := decide_eq_true (Int.lt_of_le_of_lt hd hR)
          rw [q1, q2]; rfl
        · have q1 : decide (R > z.d) = false := by simpa using hR
          rw [q1]; rfl
    · have e1 : decide (k < (p.length : Int)) = false := by simpa using hlt
      rw [e1]; rfl
theorem ev4 (z : Rc) (less : Int) (p : List Bool) (hz : fits z.d) : callA Try.prog orc3 an4 70 Try.f4 (bodyOf Try.f4) (eM z less p) = some (.c (B true)) := by
  have hzb : -9223372036854775808 ≤ z.d ∧ z.d ≤ 9223372036854775807 := by
    have := hz
    simp [fits, Lit.wf, IntKind.min, IntKind.max, IntKind.signed, IntKind.bits] at this
    exact this
  rw [pre4]
  by_cases h1 : less < 0
  · have e1 : decide (less < 0) = true := by simpa using h1
    rw [e1]; rfl
  by_cases h2 : less > z.d
  · have e1 : decide (less > z.d) = true := by simpa using h2
    rw [e1]; cases decide (less < 0) <;> rfl
  by_cases h3 : (p.length : Int) > 60
  · have e1 : decide ((p.length : Int) > 60) = true := by simpa using h3
    rw [e1]; cases decide (less < 0) <;> cases decide (less > z.d) <;> rfl
  · have e1 : decide (less < 0) = false := by simpa using h1
    have e2 : decide (less > z.d) = false := by simpa using h2
    have e3 : decide ((p.length : Int) > 60) = false := by simpa using h3
    rw [e1, e2, e3]
    simp only [cond_false]
    have hd : (shr z less).d = z.d - less := wr_in (by omega)
    refine loop4 z less p 70 (by omega) (fun hu => ?_) 70 0 0 _ (by omega) (by omega) (by omega) (by omega) (by omega) ⟨⟨okc_mk (by simp) (most_nn z), fun hu => ?_⟩, ⟨okc_mk (by simp) (most_nn _), fun hu => ?_⟩, rfl⟩
    · have hb := usable_bd hu
      refine ⟨?_, by omega⟩
      unfold usable at hu ⊢
      rw [hd]
      cases hon : z.on
      · simp [hon] at hu
      cases hfw : z.fw
      · simp [hon, hfw] at hu
      simp; omega
    · have := usable_bd hu; show (0 : Int) = _; omega
    · have := usable_bd hu; show (0 : Int) = _; omega
theorem b4 : Try.f4.body = some (bodyOf Try.f4) := by kernel_rfl
theorem cr4 (z : Rc) (less : Int) (p : List Bool) (hz : fits z.d) : ∃ Hc, CR Try.prog 4 (eM z less p) [] (.c (B true)) Hc := callA_ok orc3_ok Try.func4 b4 (ev4 z less p hz)
end Go.Proofs.Ytbgmjeifnipphaa.zt
