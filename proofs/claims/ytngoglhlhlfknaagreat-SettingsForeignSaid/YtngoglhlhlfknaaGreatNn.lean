/-
  Names of a diagram, by the reference: the contract. No condition.
-/
import Derived.Test.YtngoglhlhlfknaaGreatNm
namespace Go.Proofs.YtngoglhlhlfknaaGreat.st
open Go.RowKit Go.Eb
set_option maxRecDepth 100000

abbrev eN5 := en5 aSta vN vN vN vN
theorem eN5_inj : InjT eN5 := en5_inj aSta_inj vN_inj vN_inj vN_inj vN_inj
def c5 (a : SSta × Nat × Nat × Nat × Nat) : Bool := (decide (a.2.1 ≤ a.1.buses.length) && (decide (a.2.2.1 ≤ a.1.lines.length) && (decide (a.2.2.2.1 ≤ a.1.srcs.length) && decide (a.2.2.2.2 ≤ a.1.bays.length)))) && (decide (a.2.1 ≤ 900) && (decide (a.2.2.1 ≤ 900) && (decide (a.2.2.2.1 ≤ 900) && decide (a.2.2.2.2 ≤ 900))))
def nm5 (a : SSta × Nat × Nat × Nat × Nat) : List ByteArray := namesOf a.1 a.2.1 a.2.2.1 a.2.2.2.1 a.2.2.2.2
theorem s9n : OrcS Tryz.prog (o9n (okG eN5 c5) fun x => nm5 (theT eN5 x)) := by
  refine .cons (.t' (r := fun a => .c (.d (busesD (nm5 a)))) fun a h => ?_) .nil
  unfold c5 at h
  simp only [Bool.and_eq_true, decide_eq_true_eq] at h
  exact c21 a.1 a.2.1 a.2.2.1 a.2.2.2.1 a.2.2.2.2 h.1.1 h.1.2.1 h.1.2.2.1 h.1.2.2.2 h.2.1 h.2.2.1 h.2.2.2.1 h.2.2.2.2
theorem cNm (s : SSta) (h1 : s.buses.length ≤ 900) (h2 : s.lines.length ≤ 900) (h3 : s.srcs.length ≤ 900) (h4 : s.bays.length ≤ 900) : CX Tryz.prog 86 [aSta s] [] (.c (.d (busesD (namesS s)))) [] := by
  refine cx_of s9n.ok Tryz.func86 b9n rfl ((ev9n _ _ s 1).trans ?_)
  have k := okG_enc eN5_inj (c := c5) (s, s.buses.length, s.lines.length, s.srcs.length, s.bays.length) (by unfold c5; simp only [h1, h2, h3, h4, Nat.le_refl, decide_true, tt])
  have t := theT_enc eN5_inj (s, s.buses.length, s.lines.length, s.srcs.length, s.bays.length)
  have e : nm5 (s, s.buses.length, s.lines.length, s.srcs.length, s.bays.length) = namesS s := by unfold nm5 namesOf namesS; simp
  simp only [en5, vN] at k t
  rw [k, t, e]
  rfl
end Go.Proofs.YtngoglhlhlfknaaGreat.st
