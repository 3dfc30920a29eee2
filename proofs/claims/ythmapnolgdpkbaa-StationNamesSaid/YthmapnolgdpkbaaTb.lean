/-
  StationNames: contracts of its parts. No condition.
-/
import Derived.Test.YthmapnolgdpkbaaTa
namespace Go.Proofs.Ythmapnolgdpkbaa.st
open Go.RowKit Go.Eb

/-! Names -/
abbrev eN5 := en5 aSta vN vN vN vN
theorem aSta_inj : InjA aSta := aG_inj staC_inj
theorem eN5_inj : InjT eN5 := en5_inj aSta_inj vN_inj vN_inj vN_inj vN_inj
def c5 (a : SSta × Nat × Nat × Nat × Nat) : Bool := (decide (a.2.1 ≤ a.1.buses.length) && (decide (a.2.2.1 ≤ a.1.lines.length) && (decide (a.2.2.2.1 ≤ a.1.srcs.length) && decide (a.2.2.2.2 ≤ a.1.bays.length)))) && (decide (a.2.1 ≤ 900) && (decide (a.2.2.1 ≤ 900) && (decide (a.2.2.2.1 ≤ 900) && decide (a.2.2.2.2 ≤ 900))))
def nm5 (a : SSta × Nat × Nat × Nat × Nat) : List ByteArray := namesOf a.1 a.2.1 a.2.2.1 a.2.2.2.1 a.2.2.2.2
theorem s9 : OrcS Try.prog (o9 (okG eN5 c5) fun x => nm5 (theT eN5 x)) := by
  refine .cons (.t' (r := fun a => .c (.d (busesD (nm5 a)))) fun a h => ?_) .nil
  unfold c5 at h
  simp only [Bool.and_eq_true, decide_eq_true_eq] at h
  exact c21 a.1 a.2.1 a.2.2.1 a.2.2.2.1 a.2.2.2.2 h.1.1 h.1.2.1 h.1.2.2.1 h.1.2.2.2 h.2.1 h.2.2.1 h.2.2.2.1 h.2.2.2.2
theorem c9 (s : SSta) (h1 : s.buses.length ≤ 900) (h2 : s.lines.length ≤ 900) (h3 : s.srcs.length ≤ 900) (h4 : s.bays.length ≤ 900) : CX Try.prog 9 [aSta s] [] (.c (.d (busesD (namesS s)))) [] := by
  refine cx_of s9.ok Try.func9 b9 rfl ((ev9 _ _ s 1).trans ?_)
  have k := okG_enc eN5_inj (c := c5) (s, s.buses.length, s.lines.length, s.srcs.length, s.bays.length) (by unfold c5; simp only [h1, h2, h3, h4, Nat.le_refl, decide_true, tt])
  have t := theT_enc eN5_inj (s, s.buses.length, s.lines.length, s.srcs.length, s.bays.length)
  have e : nm5 (s, s.buses.length, s.lines.length, s.srcs.length, s.bays.length) = namesS s := by unfold nm5 namesOf namesS; simp
  simp only [en5, vN] at k t
  rw [k, t, e]
  rfl

/-! within -/
theorem c10 (n : Int) (q : Nat) (hn : -9223372036854775808 ≤ n ∧ n ≤ 9223372036854775807) (h0 : 0 < q) (h1 : q ≤ 9000) : CX Try.prog 10 [vI n, vI q] [] (vI (n % (q : Int))) [] := by
  refine cx_of (Orc.nil_ok _) Try.func10 b10 rfl ((ev10 n q 1).trans ?_)
  have e0 : (!((q : Int) == 0)) = true := by simp; omega
  have hq : (0 : Int) < (q : Int) := by omega
  simp only [e0, cond_true]
  have hm : n.tmod (q : Int) = n % (q : Int) ∨ (n.tmod (q : Int) < 0 ∧ n.tmod (q : Int) + q = n % (q : Int)) := by
    rcases Int.le_total 0 n with h | h
    · exact .inl (Int.tmod_eq_emod_of_nonneg h)
    · rw [Int.tmod_eq_emod]
      split
      · left; omega
      · rename_i hh
        right
        have := Int.emod_lt_of_pos n hq
        have := Int.emod_nonneg n (show (q : Int) ≠ 0 by omega)
        simp only [Int.natAbs_natCast]
        omega
  have hr := Int.emod_nonneg n (show (q : Int) ≠ 0 by omega)
  have hr2 := Int.emod_lt_of_pos n hq
  rcases hm with h | ⟨h, h'⟩
  · rw [h, decide_eq_false (by omega)]; rfl
  · rw [decide_eq_true h, wrap_id (by omega) (by omega), h']; rfl

/-! renamed -/
theorem appF0 (f g : Nat → List D) : appF 0 f g = g := by
  funext i; unfold appF; rw [bltD]; simp
theorem RL.setAt {β : Type} {c : β → List D} {d0 : β} {l : List β} {k : Nat} {x : β} {ds : List D} (hk : k < l.length) (h : splice (c (l.getD k d0)) 0 ds = c x) :
    RL c d0 l.length (fun j => bif Nat.beq j k then splice (c (l.getD j d0)) 0 ds else c (l.getD j d0)) (l.set k x) := by
  refine .eq (by simp) fun i hi => ?_
  simp only [beqD]
  by_cases e : i = k
  · subst e
    rw [decide_eq_true rfl]
    simp only [cond_true]
    rw [h]; congr 1
    simp [List.getD, hi]
  · rw [decide_eq_false e]
    simp only [cond_false]
    congr 1
    have : ¬ k = i := fun x => e x.symm
    simp [List.getD, hi, this]
theorem c11 (s : SSta) (p : Nat) (nw : ByteArray) (h1 : s.buses.length ≤ 900) (h2 : s.lines.length ≤ 900) (h3 : s.srcs.length ≤ 900) (h4 : s.bays.length ≤ 900) (hp : p < (namesS s).length) : CX Try.prog 11 [aSta s, vI p, vS nw] [] (aSta (renS s p nw)) [] := by
  have hev := ev11 s p nw 1
  have hpl : p < s.buses.length + (s.lines.length + (s.srcs.length + s.bays.length)) := by unfold namesS at hp; simpa using hp
  have a1 : (decide ((0 + s.buses.length) * 16 ≤ 140737488355328) && decide (0 + s.buses.length ≤ 9223372036854775807)) = true := by rw [decide_eq_true (by omega), decide_eq_true (by omega)]; rfl
  have a2 : (decide ((0 + s.lines.length) * 48 ≤ 140737488355328) && decide (0 + s.lines.length ≤ 9223372036854775807)) = true := by rw [decide_eq_true (by omega), decide_eq_true (by omega)]; rfl
  have a3 : (decide ((0 + s.srcs.length) * 56 ≤ 140737488355328) && decide (0 + s.srcs.length ≤ 9223372036854775807)) = true := by rw [decide_eq_true (by omega), decide_eq_true (by omega)]; rfl
  have a4 : (decide ((0 + s.bays.length) * 120 ≤ 140737488355328) && decide (0 + s.bays.length ≤ 9223372036854775807)) = true := by rw [decide_eq_true (by omega), decide_eq_true (by omega)]; rfl
  rw [a1, a2, a3, a4] at hev
  simp only [cond_true, appF0, Nat.zero_add] at hev
  have w1 : IntKind.wrap IntKind.i64 ((s.buses.length : Int) + (s.lines.length : Int)) = ((s.buses.length + s.lines.length : Nat) : Int) := by rw [wrap_id (by omega) (by omega)]; omega
  have w2 : IntKind.wrap IntKind.i64 (((s.buses.length + s.lines.length : Nat) : Int) + (s.srcs.length : Int)) = ((s.buses.length + s.lines.length + s.srcs.length : Nat) : Int) := by rw [wrap_id (by omega) (by omega)]; omega
  rw [w1, w2] at hev
  unfold renS
  by_cases q1 : p < s.buses.length
  · rw [lt1 q1, ge0] at hev
    simp only [tt, cond_true, tn] at hev
    rw [if_pos q1]
    have hc := cr_of (Orc.nil_ok Try.prog) Try.func11 b11 rfl hev
    have hd := hc.data (y := .agg [.d (dS s.name), .d (.sl 1 s.buses.length _), .d (.sl 5 s.lines.length _), .d (.sl 6 s.srcs.length _), .d (.sl 12 s.bays.length _)]) rfl
    refine (CX.of_cr Try.func11 b11 hd).le ?_ (.refl _)
    exact .cons (.refl _) (.cons (RL.setAt (c := busC) q1 rfl).de (.cons (RL.data s.lines).de (.cons (RL.data s.srcs).de (.cons (RL.data s.bays).de .nil))))
  · rw [lt0 q1] at hev
    simp only [cond_false] at hev
    rw [if_neg q1]
    have v1 : IntKind.wrap IntKind.i64 ((p : Int) - (s.buses.length : Int)) = ((p - s.buses.length : Nat) : Int) := by rw [wrap_id (by omega) (by omega)]; omega
    rw [v1] at hev
    by_cases q2 : p < s.buses.length + s.lines.length
    · rw [lt1 q2, ge0, lt1 (show p - s.buses.length < s.lines.length by omega)] at hev
      simp only [tt, cond_true, tn] at hev
      rw [if_pos q2]
      have hc := cr_of (Orc.nil_ok Try.prog) Try.func11 b11 rfl hev
      have hd := hc.data (y := .agg [.d (dS s.name), .d (.sl 1 s.buses.length _), .d (.sl 5 s.lines.length _), .d (.sl 6 s.srcs.length _), .d (.sl 12 s.bays.length _)]) rfl
      refine (CX.of_cr Try.func11 b11 hd).le ?_ (.refl _)
      exact .cons (.refl _) (.cons (RL.data s.buses).de (.cons (RL.setAt (c := lineC) (show p - s.buses.length < s.lines.length by omega) rfl).de (.cons (RL.data s.srcs).de (.cons (RL.data s.bays).de .nil))))
    · rw [lt0 q2] at hev
      simp only [cond_false] at hev
      rw [if_neg q2]
      have v2 : IntKind.wrap IntKind.i64 (((p - s.buses.length : Nat) : Int) - (s.lines.length : Int)) = ((p - s.buses.length - s.lines.length : Nat) : Int) := by rw [wrap_id (by omega) (by omega)]; omega
      rw [v2] at hev
      by_cases q3 : p < s.buses.length + s.lines.length + s.srcs.length
      · rw [lt1 q3, ge0, lt1 (show p - s.buses.length - s.lines.length < s.srcs.length by omega)] at hev
        simp only [tt, cond_true, tn] at hev
        rw [if_pos q3]
        have hc := cr_of (Orc.nil_ok Try.prog) Try.func11 b11 rfl hev
        have hd := hc.data (y := .agg [.d (dS s.name), .d (.sl 1 s.buses.length _), .d (.sl 5 s.lines.length _), .d (.sl 6 s.srcs.length _), .d (.sl 12 s.bays.length _)]) rfl
        refine (CX.of_cr Try.func11 b11 hd).le ?_ (.refl _)
        exact .cons (.refl _) (.cons (RL.data s.buses).de (.cons (RL.data s.lines).de (.cons (RL.setAt (c := srcC') (show p - s.buses.length - s.lines.length < s.srcs.length by omega) rfl).de (.cons (RL.data s.bays).de .nil))))
      · rw [lt0 q3] at hev
        simp only [cond_false] at hev
        rw [if_neg q3]
        have v3 : IntKind.wrap IntKind.i64 (((p - s.buses.length - s.lines.length : Nat) : Int) - (s.srcs.length : Int)) = ((p - s.buses.length - s.lines.length - s.srcs.length : Nat) : Int) := by rw [wrap_id (by omega) (by omega)]; omega
        rw [v3, ge0, lt1 (show p - s.buses.length - s.lines.length - s.srcs.length < s.bays.length by omega)] at hev
        simp only [tt, cond_true, tn] at hev
        have hc := cr_of (Orc.nil_ok Try.prog) Try.func11 b11 rfl hev
        have hd := hc.data (y := .agg [.d (dS s.name), .d (.sl 1 s.buses.length _), .d (.sl 5 s.lines.length _), .d (.sl 6 s.srcs.length _), .d (.sl 12 s.bays.length _)]) rfl
        refine (CX.of_cr Try.func11 b11 hd).le ?_ (.refl _)
        exact .cons (.refl _) (.cons (RL.data s.buses).de (.cons (RL.data s.lines).de (.cons (RL.data s.srcs).de (.cons (RL.setAt (c := bayC) (show p - s.buses.length - s.lines.length - s.srcs.length < s.bays.length by omega) rfl).de .nil))))
end Go.Proofs.Ythmapnolgdpkbaa.st
