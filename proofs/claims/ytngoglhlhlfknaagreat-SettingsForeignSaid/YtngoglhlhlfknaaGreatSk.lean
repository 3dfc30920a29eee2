/-
  Check of the reference: links, ranges, bays: contracts. No condition.
-/
import Derived.Test.YtngoglhlhlfknaaGreatSj
namespace Go.Proofs.YtngoglhlhlfknaaGreat.st
open Go.RowKit Go.Eb
set_option maxRecDepth 100000

theorem bOr (a b : Bool) : (bif a then lB false else lB b) = lB (!a && b) := by cases a <;> rfl
theorem sBe : OrcS Tryz.prog oBe := .cons (.inl .nil Tryz.func45 (by kernel_rfl)) .nil
theorem sOh : OrcS Tryz.prog oOh := .cons (.inl sBe Tryz.func22 (by kernel_rfl)) sBe
theorem c49 (x : SBay) : CX Tryz.prog 47 [aBay x] [] (vB (rngOk x)) [] := by
  refine cx_of sOh.ok Tryz.func47 b49 rfl ((ev49 x 1).trans ?_)
  unfold rngOk impOk within
  cases h3 : (x.kind == 3) with
  | true =>
    cases h1 : (x.kind == 1) with
    | true => simp at h1 h3; omega
    | false =>
      simp only [cond_true, cond_false, fNot, bAnd, bOr, neN, Bool.and_true]
      refine congrArg lB ?_
      rw [Bool.eq_iff_iff]
      simp only [Bool.and_eq_true, decide_eq_true_eq, beq_iff_eq, Bool.not_eq_true', bne_iff_ne, ne_eq, Bool.not_not, Bool.or_eq_true, Bool.and_eq_false_iff, decide_eq_false_iff_not, beq_eq_false_iff_ne, Bool.not_eq_false', Bool.not_and, Bool.not_or]
      omega
  | false =>
    cases h1 : (x.kind == 1) with
    | true =>
      simp only [cond_true, cond_false, fNot, bAnd, bOr, neN, Bool.and_true]
      refine congrArg lB ?_
      rw [Bool.eq_iff_iff]
      simp only [Bool.and_eq_true, decide_eq_true_eq, beq_iff_eq, Bool.not_eq_true', bne_iff_ne, ne_eq, Bool.not_not, Bool.or_eq_true, Bool.and_eq_false_iff, decide_eq_false_iff_not, beq_eq_false_iff_ne, Bool.not_eq_false', Bool.not_and, Bool.not_or]
      omega
    | false =>
      simp only [cond_true, cond_false, fNot, bAnd, bOr, neN, Bool.and_true]
      refine congrArg lB ?_
      rw [Bool.eq_iff_iff]
      simp only [Bool.and_eq_true, decide_eq_true_eq, beq_iff_eq, Bool.not_eq_true', bne_iff_ne, ne_eq, Bool.not_not, Bool.or_eq_true, Bool.and_eq_false_iff, decide_eq_false_iff_not, beq_eq_false_iff_ne, Bool.not_eq_false', Bool.not_and, Bool.not_or]
      omega

theorem bge (b : Int) (n : Nat) : (decide (b < 0) || decide (b ≥ (n : Int))) = !within b 0 ((n : Int) - 1) := by
  unfold within
  rw [Bool.eq_iff_iff]
  simp only [Bool.or_eq_true, decide_eq_true_eq, Bool.not_eq_true', Bool.and_eq_false_iff, decide_eq_false_iff_not]
  omega
theorem lp50 (s : SSta) (x : SBay) (hl : x.links.length ≤ 9223372036854775807) (g : Nat) : ∀ (m k : Nat), k ≤ x.links.length → x.links.length - k < m → L50_5 s x g m k = lI (linkErr s.buses.length x.kind (prevB x.links k) (x.links.drop k)) []
  | 0, k, _, h => by omega
  | m + 1, k, hk, h => by
    rw [st50_5]
    by_cases hlt : k < x.links.length
    · have ih := lp50 s x hl g m (k + 1) (by omega) (by omega)
      rw [drop_at' (d := link0) hlt]
      simp only [lt1 hlt, ge0, tn, Bool.and_self, cond_true, nx hlt (by omega), ih, linkErr, fOr, bge]
      cases k with
      | zero =>
        simp only [prevB, List.getD_cons_zero]
        generalize within (x.links.getD 0 link0).bus 0 ((s.buses.length : Int) - 1) = b1
        generalize ((x.links.getD 0 link0).pos != 1) = b3
        generalize ((x.links.getD 0 link0).pos != 0) = b4
        generalize (x.kind == 3) = b5
        cases b1 <;> cases b3 <;> cases b4 <;> cases b5 <;> rfl
      | succ k =>
        have e1 : IntKind.wrap IntKind.i64 (((k + 1 : Nat) : Int) - 1) = (k : Int) := by rw [wrap_id (by omega) (by omega)]; omega
        have e2 : decide (((k + 1 : Nat) : Int) > 0) = true := by rw [gt0]; simp
        have e3 : decide ((k : Int) < (x.links.length : Int)) = true := lt1 (by omega)
        have e4 : (some (x.links.getD k link0).bus == some (x.links.getD (k + 1) link0).bus) = ((x.links.getD (k + 1) link0).bus == (x.links.getD k link0).bus) := by
          show ((x.links.getD k link0).bus == (x.links.getD (k + 1) link0).bus) = _
          exact Bool.beq_comm
        simp only [prevB, e1, e2, e3, e4, ge0, tn, Bool.and_self, cond_true]
        generalize within (x.links.getD (k + 1) link0).bus 0 ((s.buses.length : Int) - 1) = b1
        generalize ((x.links.getD (k + 1) link0).pos != 1) = b3
        generalize ((x.links.getD (k + 1) link0).pos != 0) = b4
        generalize (x.kind == 3) = b5
        generalize ((x.links.getD (k + 1) link0).bus == (x.links.getD k link0).bus) = b6
        cases b1 <;> cases b3 <;> cases b4 <;> cases b5 <;> cases b6 <;> rfl
    · rw [lt0 hlt, List.drop_of_length_le (by omega)]
      rfl
theorem c50 (s : SSta) (x : SBay) (hl : x.links.length ≤ 9223372036854775807) : CX Tryz.prog 48 [aSta s, aBay x] [] (vI (linksErr s.buses.length x)) [] := by
  obtain ⟨g, hg⟩ : ∃ g, x.links.length < g := ⟨x.links.length + 1, by omega⟩
  refine cx_of (Orc.nil_ok _) Tryz.func48 b50 rfl ((ev50 s x g).trans ?_)
  have e0 : L50_5 s x g g 0 = lI (linkErr s.buses.length x.kind none x.links) [] := lp50 s x hl g g 0 (by omega) (by omega)
  rw [e0, len_lt1, len_gt2, len_ne2]
  unfold linksErr
  generalize decide (x.links.length < 1) = b1
  generalize decide (2 < x.links.length) = b2
  generalize (x.kind == 3) = b3
  generalize (x.links.length != 2) = b4
  cases b1 <;> cases b2 <;> cases b3 <;> cases b4 <;> rfl
end Go.Proofs.YtngoglhlhlfknaaGreat.st
