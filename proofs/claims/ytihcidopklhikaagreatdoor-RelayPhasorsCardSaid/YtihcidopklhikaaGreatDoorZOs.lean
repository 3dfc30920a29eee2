/-
  Diagrams whose lists are not too long. No condition.
-/
import Derived.Test.YtihcidopklhikaaGreatDoorZSt
import Derived.Test.YtihcidopklhikaaGreatDoorZTy
namespace Go.Eb
open Go.RowKit

def lksOk (l : List SBay) : Bool := l.all fun b => decide (b.links.length ≤ 9223372036854775807)
theorem lksOk_get {l : List SBay} (h : lksOk l = true) (i : Nat) (hi : i < l.length) : (l.getD i bay0).links.length ≤ 9223372036854775807 := by
  unfold lksOk at h
  rw [List.all_eq_true] at h
  have := h (l.getD i bay0) (by rw [List.getD_eq_getElem?_getD, List.getElem?_eq_getElem hi]; simp)
  simpa using this

theorem lks_getD {l : List SBay} (h : lksOk l = true) (i : Nat) : (l.getD i bay0).links.length ≤ 9223372036854775807 := by
  by_cases hi : i < l.length
  · exact lksOk_get h i hi
  · have : l.getD i bay0 = bay0 := by simp [List.getD, hi]
    rw [this]; simp [bay0]
def okSta (s : SSta) : Bool := lenOk s.buses && (lenOk s.lines && (lenOk s.srcs && (lenOk s.bays && s.bays.all fun b => lenOk b.links)))
theorem okSta_len {s : SSta} (h : okSta s = true) : s.buses.length ≤ 9223372036854775807 ∧ s.lines.length ≤ 9223372036854775807 ∧ s.srcs.length ≤ 9223372036854775807 ∧ s.bays.length ≤ 9223372036854775807 ∧ lksOk s.bays = true := by
  unfold okSta lenOk at h
  simp only [Bool.and_eq_true, decide_eq_true_eq] at h
  exact ⟨h.1, h.2.1, h.2.2.1, h.2.2.2.1, h.2.2.2.2⟩
theorem aSta_inj : InjA aSta := aG_inj staC_inj
end Go.Eb
