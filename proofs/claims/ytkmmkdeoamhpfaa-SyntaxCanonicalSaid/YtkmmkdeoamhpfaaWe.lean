/-
  The functions that SyntaxWords calls: their contracts. No condition.
-/
import Derived.Test.YtkmmkdeoamhpfaaWd
import Derived.Laws.RangeAny
namespace Go.Proofs.Ytkmmkdeoamhpfaa.wd
open Go.RowKit Go.Eb

/-- what a test leaves -/
theorem leaf2 {b : Bool} {x y : AV} : (bif b then some (T.leaf (x, ([] : Hp))) else some (T.leaf (y, []))) = some (T.leaf (bif b then x else y, [])) := by cases b <;> rfl

theorem b46 : Try.f46.body = some (bodyOf Try.f46) := by kernel_rfl
theorem b47 : Try.f47.body = some (bodyOf Try.f47) := by kernel_rfl
theorem b28 : Try.f28.body = some (bodyOf Try.f28) := by kernel_rfl
theorem b29 : Try.f29.body = some (bodyOf Try.f29) := by kernel_rfl
theorem b30 : Try.f30.body = some (bodyOf Try.f30) := by kernel_rfl
theorem b13 : Try.f13.body = some (bodyOf Try.f13) := by kernel_rfl
theorem b14 : Try.f14.body = some (bodyOf Try.f14) := by kernel_rfl
theorem b53 : Try.f53.body = some (bodyOf Try.f53) := by kernel_rfl
theorem b45 : Try.f45.body = some (bodyOf Try.f45) := by kernel_rfl
theorem b27 : Try.f27.body = some (bodyOf Try.f27) := by kernel_rfl
theorem b11 : Try.f11.body = some (bodyOf Try.f11) := by kernel_rfl
theorem b12 : Try.f12.body = some (bodyOf Try.f12) := by kernel_rfl

theorem c46 (r : Int) : CX Try.prog 46 [v32 r] [] (vB (letter r)) [] := by
  refine cx_of (Orc.nil_ok _) Try.func46 b46 rfl ((ev46 r).trans ?_)
  unfold letter
  by_cases h1 : 65 ≤ r <;> by_cases h2 : r ≤ 90 <;> by_cases h3 : 97 ≤ r <;> by_cases h4 : r ≤ 122 <;> simp [h1, h2, h3, h4]
theorem c47 (r : Int) : CX Try.prog 47 [v8 r] [] (vB (letter r)) [] := by
  refine cx_of (Orc.nil_ok _) Try.func47 b47 rfl ((ev47 r).trans ?_)
  unfold letter
  by_cases h1 : 65 ≤ r <;> by_cases h2 : r ≤ 90 <;> by_cases h3 : 97 ≤ r <;> by_cases h4 : r ≤ 122 <;> simp [h1, h2, h3, h4]
theorem c28 (r : Int) : CX Try.prog 28 [v8 r] [] (vB (digit r)) [] := by
  refine cx_of (Orc.nil_ok _) Try.func28 b28 rfl ((ev28 r).trans ?_)
  unfold digit
  by_cases h1 : 48 ≤ r <;> by_cases h2 : r ≤ 57 <;> simp [h1, h2]
theorem ok29 : OrcOk Try.prog o29 := Orc.cons_ok (Orc.nil_ok _) (ansP_ok dec32_ok c46)
theorem ok30 : OrcOk Try.prog o30 := Orc.cons_ok (Orc.cons_ok (Orc.nil_ok _) (ansP_ok dec8_ok c28)) (ansP_ok dec8_ok c47)

theorem bcond {α : Type} {b : Bool} {x y : α} : (bif b then x else y) = if b = true then x else y := by cases b <;> rfl

theorem c29 (r : Int) : CX Try.prog 29 [v32 r] [] (vB (plainR r)) [] := by
  refine cx_of ok29 Try.func29 b29 rfl ((ev29 r).trans ?_)
  unfold plainR digit
  simp only [ge_iff_le]
  generalize letter r = l
  generalize decide (48 ≤ r) = d1
  generalize decide (r ≤ 57) = d2
  generalize (r == 95) = e1
  generalize (r == 45) = e2
  generalize (r == 43) = e3
  generalize (r == 46) = e4
  generalize (r == 47) = e5
  generalize (r == 58) = e6
  cases l <;> cases d1 <;> cases d2 <;> cases e1 <;> cases e2 <;> cases e3 <;> cases e4 <;> cases e5 <;> cases e6 <;> rfl
theorem c30 (r : Int) : CX Try.prog 30 [v8 r] [] (vB (plainR r)) [] := by
  refine cx_of ok30 Try.func30 b30 rfl ((ev30 r).trans ?_)
  unfold plainR
  generalize letter r = l
  generalize digit r = d
  generalize (r == 95) = e1
  generalize (r == 45) = e2
  generalize (r == 43) = e3
  generalize (r == 46) = e4
  generalize (r == 47) = e5
  generalize (r == 58) = e6
  cases l <;> cases d <;> cases e1 <;> cases e2 <;> cases e3 <;> cases e4 <;> cases e5 <;> rfl
theorem ok13 : OrcOk Try.prog o13 := Orc.cons_ok (Orc.nil_ok _) (ansP_ok dec32_ok c29)
theorem ok14 : OrcOk Try.prog o14 := Orc.cons_ok (Orc.nil_ok _) (ansP_ok dec8_ok c30)

/-- a text's bytes -/
abbrev bs (s : ByteArray) : List UInt8 := s.data.toList
theorem bs_len (s : ByteArray) : (bs s).length = s.size := by simp [bs]

/-- a plain word -/
def plainS (s : ByteArray) : Bool := (bs s).all (fun c => plainR c.toNat) && !(s.toList == (ByteArray.mk #[]).toList)

theorem all_drop (l : List UInt8) (p : UInt8 → Bool) {k : Nat} (h : k < l.length) : (l.drop k).all p = (p (l.getD k 0) && (l.drop (k + 1)).all p) := by
  rw [List.drop_eq_getElem_cons h, List.all_cons]
  simp [List.getD, h]

theorem wrap_id {n : Int} (h0 : -9223372036854775808 ≤ n) (h1 : n ≤ 9223372036854775807) : IntKind.wrap IntKind.i64 n = n := by
  exact IntWalk.i64_in n (by omega)

theorem lp14 (s : ByteArray) (g : Nat) (hs : s.size ≤ 9223372036854775807) : ∀ (m k : Nat), k ≤ s.size → s.size - k < m →
    L14 s g m k = some (.leaf (vB ((bs s |>.drop k).all (fun c => plainR c.toNat) && !(s.toList == (ByteArray.mk #[]).toList)), []))
  | 0, k, _, h => by omega
  | m + 1, k, hk, h => by
    rw [st14]
    by_cases hlt : k < s.size
    · have hl : k < (bs s).length := by rw [bs_len]; exact hlt
      have e1 : decide ((k : Int) < (s.size : Int)) = true := by simp; omega
      have e2 : decide ((0 : Int) ≤ (k : Int)) = true := by simp
      have e3 : Int.toNat (k : Int) = k := by simp
      rw [all_drop _ _ hl]
      simp only [e1, e2, e3, Bool.and_self, cond_true]
      have ew : IntKind.wrap IntKind.i64 ((k : Int) + 1) = ((k + 1 : Nat) : Int) := by rw [wrap_id (by omega) (by omega)]; omega
      rw [ew, lp14 s g hs m (k + 1) (by omega) (by omega)]
      cases plainR ((bs s).getD k 0).toNat <;> rfl
    · have e1 : decide ((k : Int) < (s.size : Int)) = false := by simp; omega
      have hd : (bs s).drop k = [] := List.drop_of_length_le (by rw [bs_len]; omega)
      simp only [e1, cond_false]
      rw [hd]
      rfl

theorem c14 (s : ByteArray) (hs : s.size ≤ 9223372036854775807) : CX Try.prog 14 [vS s] [] (vB (plainS s)) [] := by
  refine cx_of ok14 Try.func14 b14 rfl ((ev14 s (s.size + 1)).trans ?_)
  have := lp14 s (s.size + 1) hs (s.size + 1) 0 (by omega) (by omega)
  exact this

theorem lp13 (s : ByteArray) (g : Nat) : ∀ (m k : Nat), k ≤ s.size → s.size - k < m →
    L13 s g m k = some (.leaf (vB ((bs s |>.drop k).all (fun c => plainR c.toNat) && !(s.toList == (ByteArray.mk #[]).toList)), []))
  | 0, k, _, h => by omega
  | m + 1, k, hk, h => by
    rw [st13]
    by_cases hlt : k < s.size
    · have hl : k < (bs s).length := by rw [bs_len]; exact hlt
      have e1 : Nat.blt k s.size = true := by rw [bltD]; simpa using hlt
      have eb : (bs s).getD k 0 = s[k] := by
        have hl' : k < s.data.size := hlt
        simp only [bs, List.getD, Array.getElem?_toList, Array.getElem?_eq_getElem hl', Option.getD_some]
        rfl
      rw [all_drop _ _ hl, eb]
      simp only [e1, cond_true]
      by_cases ha : s[k].toNat < 128
      · rw [decode_ascii s k hlt ha]
        simp only
        rw [lp13 s g m (k + 1) (by omega) (by omega)]
        cases plainR (s[k].toNat : Int) <;> rfl
      · obtain ⟨h1, h2⟩ := decode_high s k hlt (by omega)
        have no : ∀ r : Int, 128 ≤ r → plainR r = false := fun r hr => by
          unfold plainR letter digit
          have a1 : ¬ r ≤ 90 := by omega
          have a2 : ¬ r ≤ 122 := by omega
          have a3 : ¬ r ≤ 57 := by omega
          have a4 : ¬ r = 95 := by omega
          have a5 : ¬ r = 45 := by omega
          have a6 : ¬ r = 43 := by omega
          have a7 : ¬ r = 46 := by omega
          have a8 : ¬ r = 47 := by omega
          have a9 : ¬ r = 58 := by omega
          simp [a1, a2, a3, a4, a5, a6, a7, a8, a9]
        rw [no _ (by omega), no _ (by omega)]
        rfl
    · have e1 : Nat.blt k s.size = false := by rw [bltD]; simpa using hlt
      have hd : (bs s).drop k = [] := List.drop_of_length_le (by rw [bs_len]; omega)
      simp only [e1, cond_false]
      rw [hd]
      rfl

theorem c13 (s : ByteArray) : CX Try.prog 13 [vS s] [] (vB (plainS s)) [] := by
  refine cx_of ok13 Try.func13 b13 rfl ((ev13 s (s.size + 1)).trans ?_)
  exact lp13 s (s.size + 1) (s.size + 1) 0 (by omega) (by omega)
end Go.Proofs.Ytkmmkdeoamhpfaa.wd
