/-
  A window's fundamental: the contracts. No condition.
-/
import Derived.Test.YtihcidopklhikaaGreatDoorPd
namespace Go.Proofs.YtihcidopklhikaaGreatDoor.ph
open Go.RowKit Go.Eb
set_option maxRecDepth 100000

/-! the program -/
theorem oCl_s : OrcS Tryz.prog oCl := .cons (.c dRo_ok cRo_ok) (.cons (.c dW_ok fun x hx => by
  unfold cSc at hx
  simp only [Bool.and_eq_true] at hx
  exact cSc_ok _ _ _ _ _ hx.1 (inI_iff.1 hx.2)) .nil)
theorem oSu_s : OrcS Tryz.prog oSu := .cons (.inl oCl_s Tryz.func23 (by kernel_rfl)) (.cons (.c dAd_ok fun x hx => by
  unfold cAd at hx
  simp only [Bool.and_eq_true] at hx
  exact cAd_ok _ _ hx.1 hx.2) .nil)
theorem oHa_s : OrcS Tryz.prog oHa := .cons (.inl .nil Tryz.func21 (by kernel_rfl)) (.cons (.inl oSu_s Tryz.func22 (by kernel_rfl)) .nil)
theorem in4_le {n m : Int} {a : I4} (h : n ≤ m) (ha : in4 n a = true) : in4 m a = true := by
  rw [in4_iff] at ha ⊢
  omega
theorem chn_ok {x : Nat → Int} (hx : ∀ k, k < 12 → -16383 ≤ x k ∧ x k ≤ 16383) : ∀ n k : Nat, k + n = 12 → chn x (List.range' k n) (hs x k) = some (.leaf (cyO (hs x 12) 0, []))
  | 0, k, h => by
    obtain rfl : k = 12 := by omega
    rfl
  | n + 1, k, h => by
    have ih := chn_ok hx n (k + 1) (by omega)
    have hk := hx k (by omega)
    have r := rt_in k (by omega)
    have b := hs_in (m := 16383) (by omega) hx k (by omega)
    have b1 := hs_in (m := 16383) (x := fun _ => x k) (by omega) (fun _ _ => hk) 12 (by omega)
    rw [List.range'_succ]
    simp only [chn]
    have c1 : cSc ((rt k).1, (rt k).2.1, (rt k).2.2.1, (rt k).2.2.2, x k) = true := by
      unfold cSc
      simp only [Bool.and_eq_true, inI_iff]
      exact ⟨in4_le (n := 1) (by omega) r, by omega, by omega⟩
    have m4 : in4 288230376151711744 (mul4 (rt k) (x k)) = true := by
      obtain ⟨r1, r2, r3, r4⟩ := in4_iff.1 r
      have q1 := one_mul_in r1 hk
      have q2 := one_mul_in r2 hk
      have q3 := one_mul_in r3 hk
      have q4 := one_mul_in r4 hk
      rw [in4_iff]
      simp only [mul4]
      refine ⟨⟨?_, ?_⟩, ⟨?_, ?_⟩, ⟨?_, ?_⟩, ?_, ?_⟩ <;> omega
    have c2 : cAd (hs x k, mul4 (rt k) (x k)) = true := by
      unfold cAd
      simp only [Bool.and_eq_true]
      exact ⟨in4_le (by omega) b, m4⟩
    rw [c1, c2]
    exact ih
def e12 (x : Nat → Int) : Int := bif winOk x then 0 else 2
def h12 (x : Nat → Int) : I4 := bif winOk x then hs x 12 else (0, 0, 0, 0)
theorem out12 (x : Nat → Int) : (bif winOk x then some (T.leaf (cyO (hs x 12) 0, ([] : Hp))) else some (T.leaf (cyO (0, 0, 0, 0) 2, []))) = some (.leaf (cyO (h12 x) (e12 x), [])) := by
  unfold h12 e12
  cases winOk x <;> rfl
theorem cHa (x : Nat → Int) : CX Tryz.prog 14 [.c (.d (winD x)), vI 1] [] (cyO (h12 x) (e12 x)) [] := by
  refine cx_of oHa_s.ok Tryz.func14 (by kernel_rfl) rfl ((evHa x).trans ?_)
  unfold hF
  rw [tst_eq, ← out12]
  show (bif winOk x then _ else _) = _
  cases h : winOk x with
  | false => rfl
  | true => exact chn_ok (winOk_iff.1 h) 12 0 (by omega)
/-! the reference -/
theorem oRh_s : OrcS Tryz.prog oRh := .cons (.inl .nil Tryz.func26 (by kernel_rfl)) (.cons (.inl (.cons (.inl .nil Tryz.func54 (by kernel_rfl)) .nil) Tryz.func27 (by kernel_rfl)) .nil)
theorem w64_id {n : Int} (h : -1000000 ≤ n ∧ n ≤ 1000000) : w64 n = n := wrap_id (by omega) (by omega)
theorem chR_ok {x : Nat → Int} (hx : ∀ k, k < 12 → -16383 ≤ x k ∧ x k ≤ 16383) : ∀ n k : Nat, k + n = 12 → chR x (List.range' k n) (hs x k) = hs x 12
  | 0, k, h => by
    obtain rfl : k = 12 := by omega
    rfl
  | n + 1, k, h => by
    have ih := chR_ok hx n (k + 1) (by omega)
    have hk := hx k (by omega)
    have b := in4_iff.1 (hs_in (m := 16383) (by omega) hx k (by omega))
    obtain ⟨r1, r2, r3, r4⟩ := in4_iff.1 (rt_in k (by omega))
    have q1 := one_mul_in r1 hk
    have q2 := one_mul_in r2 hk
    have q3 := one_mul_in r3 hk
    have q4 := one_mul_in r4 hk
    rw [List.range'_succ]
    simp only [chR]
    have e : (w64 ((hs x k).1 + w64 (x k * (rt k).1)), w64 ((hs x k).2.1 + w64 (x k * (rt k).2.1)), w64 ((hs x k).2.2.1 + w64 (x k * (rt k).2.2.1)), w64 ((hs x k).2.2.2 + w64 (x k * (rt k).2.2.2))) = hs x (k + 1) := by
      rw [Int.mul_comm (x k), Int.mul_comm (x k), Int.mul_comm (x k), Int.mul_comm (x k)]
      rw [w64_id (n := (rt k).1 * x k) (by omega), w64_id (n := (rt k).2.1 * x k) (by omega), w64_id (n := (rt k).2.2.1 * x k) (by omega), w64_id (n := (rt k).2.2.2 * x k) (by omega)]
      rw [w64_id (by omega), w64_id (by omega), w64_id (by omega), w64_id (by omega)]
      rfl
    rw [e]
    exact ih
theorem cHr (x : Nat → Int) : CX Tryz.prog 15 [.c (.d (winD x)), vI 1] [] (cyO (h12 x) (e12 x)) [] := by
  refine cx_of oRh_s.ok Tryz.func15 (by kernel_rfl) rfl ((evRh x).trans ?_)
  unfold hR
  rw [tst_eq, ← out12]
  show (bif winOk x then _ else _) = _
  cases h : winOk x with
  | false => rfl
  | true =>
    have e : chR x (List.range 12) (0, 0, 0, 0) = hs x 12 := chR_ok (winOk_iff.1 h) 12 0 (by omega)
    rw [e]
end Go.Proofs.YtihcidopklhikaaGreatDoor.ph
