/-
  Large: its contract. No condition.
-/
import Derived.Test.YtngoglhlhlfknaaGreatZOs
import Derived.Test.YtngoglhlhlfknaaGreatSt
namespace Go.Proofs.YtngoglhlhlfknaaGreat.st
open Go.RowKit Go.Eb
set_option maxRecDepth 100000

/-! Large -/
def large (s : SSta) : Bool := decide (8 < s.buses.length) || (decide (10 < s.lines.length) || (decide (8 < s.srcs.length) || (decide (20 < s.bays.length) || s.bays.any fun b => decide (6 < b.links.length))))
theorem b7 : Tryz.f8.body = some (bodyOf Tryz.f8) := by kernel_rfl
theorem gtD (n k : Nat) : decide ((n : Int) > (k : Int)) = decide (k < n) := by
  by_cases h : k < n
  · rw [decide_eq_true h, decide_eq_true (by omega)]
  · rw [decide_eq_false h, decide_eq_false (by omega)]
theorem lp7 (s : SSta) (g : Nat) (hb : s.bays.length ≤ 9223372036854775807) : ∀ (m k : Nat), k ≤ s.bays.length → s.bays.length - k < m → L7 s g m k = lB ((s.bays.drop k).any fun b => decide (6 < b.links.length))
  | 0, k, _, h => by omega
  | m + 1, k, hk, h => by
    rw [st7]
    by_cases hlt : k < s.bays.length
    · have ih := lp7 s g hb m (k + 1) (by omega) (by omega)
      rw [drop_at' (d := bay0) hlt]
      have e6 : decide (((s.bays.getD k bay0).links.length : Int) > (6 : Int)) = decide (6 < (s.bays.getD k bay0).links.length) := gtD _ 6
      simp only [lt1 hlt, ge0, tn, tt, cond_true, nx hlt hb, ih, List.any_cons, e6]
      cases decide (6 < (s.bays.getD k bay0).links.length) <;> rfl
    · rw [lt0 hlt, List.drop_of_length_le (by omega)]
      rfl
theorem c7 (s : SSta) (hs : okSta s = true) : CX Tryz.prog 8 [aSta s] [] (vB (large s)) [] := by
  obtain ⟨a1, a2, a3, a4, a5⟩ := okSta_len hs
  obtain ⟨g, hg⟩ : ∃ g, s.bays.length < g := ⟨s.bays.length + 1, by omega⟩
  refine cx_of (Orc.nil_ok _) Tryz.func8 b7 rfl ((ev7 s g).trans ?_)
  have hl : L7 s g g 0 = lB (s.bays.any fun b => decide (6 < b.links.length)) := lp7 s g a4 g 0 (by omega) (by omega)
  have t8 : ∀ n : Nat, decide ((n : Int) > 8) = decide (8 < n) := fun n => gtD n 8
  have t10 : ∀ n : Nat, decide ((n : Int) > 10) = decide (10 < n) := fun n => gtD n 10
  have t20 : ∀ n : Nat, decide ((n : Int) > 20) = decide (20 < n) := fun n => gtD n 20
  rw [hl]
  simp only [t8, t10, t20]
  unfold large
  cases decide (8 < s.buses.length) <;> cases decide (10 < s.lines.length) <;> cases decide (8 < s.srcs.length) <;> cases decide (20 < s.bays.length) <;> rfl
end Go.Proofs.YtngoglhlhlfknaaGreat.st
