/-
  Name, of the program and of the reference: their contracts. No condition.
-/
import Derived.Test.YtngoglhlhlfknaaGreatZNu
import Derived.Test.YtngoglhlhlfknaaGreatSt
namespace Go.Proofs.YtngoglhlhlfknaaGreat.st
open Go.RowKit Go.Eb
set_option maxRecDepth 100000

theorem b15 : Tryz.f50.body = some (bodyOf Tryz.f50) := by kernel_rfl
theorem b16 : Tryz.f19.body = some (bodyOf Tryz.f19) := by kernel_rfl

theorem z0 (k : Nat) : ((k : Int) == 0) = (k == 0) := by cases k <;> rfl
theorem lp15 (s : ByteArray) (g : Nat) (hs : s.size ≤ 12) : ∀ (m k : Nat), k ≤ s.size → s.size - k < m → L15 s g m k = some (.leaf (vB (nmT k (s.data.toList.drop k)), []))
  | 0, k, _, h => by omega
  | m + 1, k, hk, h => by
    rw [st15]
    by_cases hlt : k < s.size
    · have hl : k < s.data.toList.length := by simpa using hlt
      have ih := lp15 s g hs m (k + 1) (by omega) (by omega)
      rw [drop_at' (d := 0) hl]
      simp only [lt1 hlt, ge0, tn, Bool.and_self, cond_true, nx hlt (by omega), ih, nmT, letterB, otherB, ge_iff_le, z0, bne]
      generalize s.data.toList.getD k 0 = c
      generalize nmT (k + 1) (s.data.toList.drop (k + 1)) = t
      generalize decide (65 ≤ (c.toNat : Int)) = a1
      generalize decide ((c.toNat : Int) ≤ 90) = a2
      generalize decide (97 ≤ (c.toNat : Int)) = b1
      generalize decide ((c.toNat : Int) ≤ 122) = b2
      generalize decide (48 ≤ (c.toNat : Int)) = d1
      generalize decide ((c.toNat : Int) ≤ 57) = d2
      generalize ((c.toNat : Int) == 95) = e1
      generalize (k == 0) = z
      cases a1 <;> cases a2 <;> cases b1 <;> cases b2 <;> cases d1 <;> cases d2 <;> cases e1 <;> cases z <;> rfl
    · rw [lt0 hlt, List.drop_of_length_le (by simp; omega)]
      rfl
theorem c15 (s : ByteArray) : CX Tryz.prog 50 [vS s] [] (vB (nameOk s)) [] := by
  refine cx_of (Orc.nil_ok _) Tryz.func50 b15 rfl ((ev15 s (s.size + 1)).trans ?_)
  generalize hg : s.size + 1 = g
  unfold nameOk
  cases h0 : ((s.size : Int) == 0) with
  | true => rfl
  | false =>
    cases h1 : decide ((s.size : Int) > 12) with
    | true => rfl
    | false =>
      have hs : s.size ≤ 12 := by simp at h1; omega
      have := lp15 s g hs g 0 (by omega) (by omega)
      simp only [cond_false, Bool.not_false, Bool.true_and]
      exact this

theorem ltn (x y : Int) : decide (x < y) = !decide (y ≤ x) := by
  by_cases h : x < y
  · rw [decide_eq_true h, decide_eq_false (by omega)]; rfl
  · rw [decide_eq_false h, decide_eq_true (by omega)]; rfl
theorem gtn (x y : Int) : decide (x > y) = !decide (x ≤ y) := by
  by_cases h : x > y
  · rw [decide_eq_true h, decide_eq_false (by omega)]; rfl
  · rw [decide_eq_false h, decide_eq_true (by omega)]; rfl
theorem lt1z (n : Nat) : decide ((n : Int) < 1) = ((n : Int) == 0) := by
  by_cases h : n = 0
  · subst h; rfl
  · have h2 : ((n : Int) == 0) = false := beq_eq_false_iff_ne.2 (by omega)
    rw [decide_eq_false (by omega), h2]
theorem lp16 (s : ByteArray) (g : Nat) (hs : s.size ≤ 12) : ∀ (m k : Nat), k ≤ s.size → s.size - k < m → L16 s g m k = some (.leaf (vB (nmT k (s.data.toList.drop k)), []))
  | 0, k, _, h => by omega
  | m + 1, k, hk, h => by
    rw [st16]
    by_cases hlt : k < s.size
    · have hl : k < s.data.toList.length := by simpa using hlt
      have ih := lp16 s g hs m (k + 1) (by omega) (by omega)
      rw [drop_at' (d := 0) hl]
      generalize hc : s.data.toList.getD k 0 = c
      have e48 : decide ((c.toNat : Int) < 48) = !decide (48 ≤ (c.toNat : Int)) := ltn _ _
      have e57 : decide ((c.toNat : Int) > 57) = !decide ((c.toNat : Int) ≤ 57) := gtn _ _
      simp only [lt1 hlt, ge0, tn, hc, Bool.and_self, cond_true, nx hlt (by omega), ih, nmT, letterB, otherB, e48, e57, z0, bne, ge_iff_le]
      generalize nmT (k + 1) (s.data.toList.drop (k + 1)) = t
      generalize decide (65 ≤ (c.toNat : Int)) = a1
      generalize decide ((c.toNat : Int) ≤ 90) = a2
      generalize decide (97 ≤ (c.toNat : Int)) = b1
      generalize decide ((c.toNat : Int) ≤ 122) = b2
      generalize decide (48 ≤ (c.toNat : Int)) = d1
      generalize decide ((c.toNat : Int) ≤ 57) = d2
      generalize ((c.toNat : Int) == 95) = e1
      generalize (k == 0) = z
      cases a1 <;> cases a2 <;> cases b1 <;> cases b2 <;> cases d1 <;> cases d2 <;> cases e1 <;> cases z <;> rfl
    · rw [lt0 hlt, List.drop_of_length_le (by simp; omega)]
      rfl
theorem r16 (s : ByteArray) (g : Nat) (hg : s.size < g) : callC Tryz.prog Orc.nil ann16 g Tryz.f19 (bodyOf Tryz.f19) [vS s] [] = some (.leaf (vB (nameOk s), [])) := by
  rw [ev16, lt1z]
  unfold nameOk
  cases h0 : ((s.size : Int) == 0) with
  | true => rfl
  | false =>
    cases h1 : decide ((s.size : Int) > 12) with
    | true => rfl
    | false =>
      have hs : s.size ≤ 12 := by simp at h1; omega
      have := lp16 s g hs g 0 (by omega) (by omega)
      simp only [cond_false, Bool.not_false, Bool.true_and]
      exact this
theorem c16 (s : ByteArray) : CX Tryz.prog 19 [vS s] [] (vB (nameOk s)) [] := cx_of (Orc.nil_ok _) Tryz.func19 b16 rfl (r16 s (s.size + 1) (by omega))

end Go.Proofs.YtngoglhlhlfknaaGreat.st
