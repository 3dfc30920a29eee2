/-
  Numbers of the ring: contracts of the program's functions. No condition.
-/
import Derived.Lib.Mul64
import Derived.Laws.Bits64b
import Derived.Test.YtihcidopklhikaaGreatDoorPc
namespace Go.Proofs.YtihcidopklhikaaGreatDoor.ph
open Go.RowKit Go.Eb
set_option maxRecDepth 100000

/-! Mul64 -/
theorem hM (a : Nat) (ha : a < 18446744073709551616) : IntKind.wrap IntKind.u64 ((BitVec.toNat (BitVec.ofInt (IntKind.bits IntKind.u64) (a : Int) &&& BitVec.ofInt (IntKind.bits IntKind.u64) (4294967295 : Int)) : Nat) : Int) = ((a % 4294967296 : Nat) : Int) := by
  have h := bits_and_u64_nat a 4294967295 ha (by omega)
  have e : a &&& 4294967295 = a % 4294967296 := Nat.and_two_pow_sub_one_eq_mod a 32
  rw [e] at h
  exact h
theorem hD (a : Nat) : Int.fdiv (a : Int) ((2 : Int) ^ min (Int.toNat (32 : Int)) (IntKind.bits IntKind.u64)) = ((a / 4294967296 : Nat) : Int) := by
  have e : ((2 : Int) ^ min (Int.toNat (32 : Int)) (IntKind.bits IntKind.u64)) = 4294967296 := by rfl
  rw [e, Int.fdiv_eq_ediv_of_nonneg _ (by omega)]
  omega
theorem mulN (a b : Nat) : (a : Int) * (b : Int) = ((a * b : Nat) : Int) := (Int.natCast_mul a b).symm
theorem addN (a b : Nat) : (a : Int) + (b : Int) = ((a + b : Nat) : Int) := (Int.natCast_add a b).symm
theorem wrapN (a : Nat) (ha : a < 18446744073709551616) : IntKind.wrap IntKind.u64 (a : Int) = (a : Int) := by rw [IntKind.wrap_u64]; omega
theorem wrapM (a : Nat) : IntKind.wrap IntKind.u64 (a : Int) = ((a % 18446744073709551616 : Nat) : Int) := by rw [IntKind.wrap_u64]; omega
theorem cMulN (x y : Nat) (hx : x < 18446744073709551616) (hy : y < 18446744073709551616) : CX Tryz.prog 154 [uD x, uD y] [] (gU2 ((x : Int), (y : Int))) [] := by
  refine cx_of (Orc.nil_ok _) Tryz.func154 (by kernel_rfl) rfl ((evMul x y).trans ?_)
  obtain ⟨bd, bt, bw, hhi⟩ := Lib.mul64_hi x y hx hy
  have ba := Lib.half_mul_le (a := x / 4294967296) (b := y / 4294967296) (by omega) (by omega)
  have bb := Lib.half_mul_le (a := x / 4294967296) (b := y % 4294967296) (by omega) (by omega)
  have bc := Lib.half_mul_le (a := x % 4294967296) (b := y / 4294967296) (by omega) (by omega)
  have ba' : x / 4294967296 * (y / 4294967296) < 18446744073709551616 := by omega
  have bb' : x / 4294967296 * (y % 4294967296) < 18446744073709551616 := by omega
  have bc' : x % 4294967296 * (y / 4294967296) < 18446744073709551616 := by omega
  have bh1 : x / 4294967296 * (y / 4294967296) + (x / 4294967296 * (y % 4294967296) + x % 4294967296 * (y % 4294967296) / 4294967296) / 4294967296 < 18446744073709551616 := by omega
  have bh : x / 4294967296 * (y / 4294967296) + (x / 4294967296 * (y % 4294967296) + x % 4294967296 * (y % 4294967296) / 4294967296) / 4294967296 + ((x / 4294967296 * (y % 4294967296) + x % 4294967296 * (y % 4294967296) / 4294967296) % 4294967296 + x % 4294967296 * (y / 4294967296)) / 4294967296 < 18446744073709551616 := by omega
  simp only [hM x hx, hM y hy, hD, mulN, addN, wrapN _ bd, wrapN _ bb', wrapN _ bt, hM _ bt, wrapN _ bc', wrapN _ bw, wrapN _ ba', wrapN _ bh1, wrapN _ bh, wrapM (x * y)]
  rw [hhi]
  have e1 : ((x * y / 18446744073709551616 : Nat) : Int) = (x : Int) * (y : Int) / 18446744073709551616 := by rw [Int.natCast_ediv, Int.natCast_mul]; rfl
  have e2 : ((x * y % 18446744073709551616 : Nat) : Int) = (x : Int) * (y : Int) % 18446744073709551616 := by rw [Int.natCast_emod, Int.natCast_mul]; rfl
  rw [e1, e2]
  rfl
theorem dU2_ok : ∀ args a, dU2 args = some a → args = [uD a.1, uD a.2] := fun args a h => by
  unfold dU2 at h
  split at h
  · cases h; rfl
  · cases h
theorem sTi : OrcS Tryz.prog oTi := .cons (.c dU2_ok fun a h => by
    obtain ⟨x, y⟩ := a
    unfold cU2 at h
    simp only [Bool.and_eq_true, decide_eq_true_eq] at h
    obtain ⟨m, rfl⟩ := Int.eq_ofNat_of_zero_le h.1
    obtain ⟨n, rfl⟩ := Int.eq_ofNat_of_zero_le h.2.2.1
    exact cMulN m n (by omega) (by omega)) (.cons (.inl .nil Tryz.func155 (by kernel_rfl)) .nil)

/-! times -/
theorem mul_in {a b m k : Int} (hm : 0 ≤ m) (hk : 0 ≤ k) (ha : -m ≤ a ∧ a ≤ m) (hb : -k ≤ b ∧ b ≤ k) : -(m * k) ≤ a * b ∧ a * b ≤ m * k := by
  have h := Nat.mul_le_mul (show a.natAbs ≤ m.natAbs by omega) (show b.natAbs ≤ k.natAbs by omega)
  rw [← Int.natAbs_mul, ← Int.natAbs_mul] at h
  have h0 : 0 ≤ m * k := Int.mul_nonneg hm hk
  generalize a * b = p at *
  generalize m * k = q at *
  omega
theorem size_p {n : Int} (h0 : 0 ≤ n) (h1 : n ≤ 536870912) : IntKind.wrap IntKind.u64 n = n := by rw [IntKind.wrap_u64]; omega
theorem size_n {n : Int} (h0 : n < 0) (h1 : -536870912 ≤ n) : IntKind.wrap IntKind.u64 ((0 : Int) - IntKind.wrap IntKind.u64 n) = -n := by rw [IntKind.wrap_u64, IntKind.wrap_u64]; omega
theorem times_k {a b n k : Int} (ha : 0 ≤ a ∧ a ≤ 536870912) (hb : 0 ≤ b ∧ b ≤ 536870912) (hn : -536870912 ≤ n ∧ n ≤ 536870912) (hk : -536870912 ≤ k ∧ k ≤ 536870912) :
    (bif cU2 (a, b) then (bif a * b / (18446744073709551616 : Int) != (0 : Int) then some (T.leaf (AV.tup [(false, [C.d (D.v (Value.int IntKind.i64 (0 : Int)))]), (false, [C.d (D.v (Value.bool false))])], ([] : Hp)))
      else (bif decide (a * b % (18446744073709551616 : Int) > (4611686018427387904 : Int)) then some (T.leaf (AV.tup [(false, [C.d (D.v (Value.int IntKind.i64 (0 : Int)))]), (false, [C.d (D.v (Value.bool false))])], []))
      else some (T.leaf (AV.tup [(false, [C.d (D.v (Value.int IntKind.i64 (IntKind.wrap IntKind.i64 (n * k))))]), (false, [C.d (D.v (Value.bool true))])], [])))) else none) = some (T.leaf (gTi (n, k), [])) := by
  have h1 := mul_in (m := 536870912) (k := 536870912) (by omega) (by omega) ⟨by omega, ha.2⟩ ⟨by omega, hb.2⟩
  have h0 : 0 ≤ a * b := Int.mul_nonneg ha.1 hb.1
  have h2 := mul_in (m := 536870912) (k := 536870912) (by omega) (by omega) hn hk
  have c1 : cU2 (a, b) = true := by unfold cU2; simp only [Bool.and_eq_true, decide_eq_true_eq]; omega
  have c2 : (a * b / (18446744073709551616 : Int) != (0 : Int)) = false := by
    have : a * b / (18446744073709551616 : Int) = 0 := by generalize a * b = p at *; omega
    rw [this]; rfl
  have c3 : decide (a * b % (18446744073709551616 : Int) > (4611686018427387904 : Int)) = false := decide_eq_false (by generalize a * b = p at *; omega)
  rw [c1, c2, c3, wrap_id (by generalize n * k = p at *; omega) (by generalize n * k = p at *; omega)]
  rfl
theorem cTi_ok (n k : Int) (hn : -536870912 ≤ n ∧ n ≤ 536870912) (hk : -536870912 ≤ k ∧ k ≤ 536870912) : CX Tryz.prog 95 [vI n, vI k] [] (gTi (n, k)) [] := by
  refine cx_of sTi.ok Tryz.func95 (by kernel_rfl) rfl ((evTi n k).trans ?_)
  by_cases h1 : n < 0
  · rw [decide_eq_true h1, cond_true, size_n h1 hn.1]
    by_cases h2 : k < 0
    · rw [decide_eq_true h2, cond_true, size_n h2 hk.1]
      exact times_k ⟨by omega, by omega⟩ ⟨by omega, by omega⟩ hn hk
    · rw [decide_eq_false h2, cond_false, size_p (by omega) hk.2]
      exact times_k ⟨by omega, by omega⟩ ⟨by omega, by omega⟩ hn hk
  · rw [decide_eq_false h1, cond_false, size_p (by omega) hn.2]
    by_cases h2 : k < 0
    · rw [decide_eq_true h2, cond_true, size_n h2 hk.1]
      exact times_k ⟨by omega, by omega⟩ ⟨by omega, by omega⟩ hn hk
    · rw [decide_eq_false h2, cond_false, size_p (by omega) hk.2]
      exact times_k ⟨by omega, by omega⟩ ⟨by omega, by omega⟩ hn hk
theorem dII_ok : ∀ args a, dII args = some a → args = [vI a.1, vI a.2] := fun args a h => by
  unfold dII at h
  split at h
  · cases h; rfl
  · cases h
theorem oSw_s {r : Orc} (h : OrcS Tryz.prog r) : OrcS Tryz.prog (oSw r) := .cons (.inl .nil Tryz.func94 (by kernel_rfl)) h
theorem sSs : OrcS Tryz.prog oSs := oSw_s (.cons (.c dII_ok fun a h => by
    unfold cTi at h
    simp only [Bool.and_eq_true, inI_iff] at h
    exact cTi_ok a.1 a.2 h.1 h.2) (.cons (.inl (oSw_s .nil) Tryz.func96 (by kernel_rfl)) .nil))
theorem w60 : IntKind.wrap IntKind.i64 ((0 : Int) - (1152921504606846976 : Int)) = -1152921504606846976 := by rfl
theorem w59 : IntKind.wrap IntKind.i64 ((0 : Int) - (576460752303423488 : Int)) = -576460752303423488 := by rfl
theorem cSs_ok (a b k : Int) (ha : -536870912 ≤ a ∧ a ≤ 536870912) (hb : -536870912 ≤ b ∧ b ≤ 536870912) (hk : -536870912 ≤ k ∧ k ≤ 536870912) : CX Tryz.prog 50 [.agg [.d (iD a), .d (iD b)], vI k] [] (gSs (a, b, k)) [] := by
  refine cx_of sSs.ok Tryz.func50 (by kernel_rfl) rfl ((evSs a b k).trans ?_)
  have p1 := mul_in (m := 536870912) (k := 536870912) (by omega) (by omega) ha hk
  have p2 := mul_in (m := 536870912) (k := 536870912) (by omega) (by omega) hb hk
  have c1 : cTi (a, k) = true := by unfold cTi; simp only [Bool.and_eq_true, inI_iff]; exact ⟨ha, hk⟩
  have c2 : cTi (b, k) = true := by unfold cTi; simp only [Bool.and_eq_true, inI_iff]; exact ⟨hb, hk⟩
  rw [w60, c1, c2]
  generalize hp : a * k = p at *
  generalize hq : b * k = q at *
  rw [decide_eq_false (show ¬ a < -1152921504606846976 by omega), decide_eq_false (show ¬ a > 1152921504606846976 by omega), decide_eq_false (show ¬ b < -1152921504606846976 by omega), decide_eq_false (show ¬ b > 1152921504606846976 by omega),
    decide_eq_false (show ¬ k < -1152921504606846976 by omega), decide_eq_false (show ¬ k > 1152921504606846976 by omega), decide_eq_false (show ¬ p < -1152921504606846976 by omega), decide_eq_false (show ¬ p > 1152921504606846976 by omega),
    decide_eq_false (show ¬ q < -1152921504606846976 by omega), decide_eq_false (show ¬ q > 1152921504606846976 by omega), ← hp, ← hq]
  rfl

/-! the ring -/
theorem dW_ok : ∀ args x, dW args = some x → args = [cyA (x.1, x.2.1, x.2.2.1, x.2.2.2.1), vI x.2.2.2.2] := fun args x h => by
  unfold dW at h
  split at h
  · cases h; rfl
  · cases h
theorem sCf : OrcS Tryz.prog oCf := .cons (.inl (.cons (.inl (.cons (.inl .nil Tryz.func49 (by kernel_rfl)) .nil) Tryz.func153 (by kernel_rfl)) .nil) Tryz.func93 (by kernel_rfl)) .nil
theorem cW_ok (a b c d n : Int) (hn : -2305843009213693952 ≤ n ∧ n ≤ 2305843009213693952) : CX Tryz.prog 48 [cyA (a, b, c, d), vI n] [] (vB (in4 n (a, b, c, d))) [] := by
  have h := cx_of sCf.ok Tryz.func48 (by kernel_rfl) rfl (evW a b c d n)
  have e : evW_v a b c d n = in4 n (a, b, c, d) := by
    unfold evW_v
    have w : IntKind.wrap IntKind.i64 ((0 : Int) - n) = -n := by rw [wrap_id (by omega) (by omega)]; omega
    rw [w]
    have key : ∀ (x : Int) (r : Bool), (bif decide (x < -n) then false else bif decide (x > n) then false else r) = (inI n x && r) := fun x r => by
      have := outI_eq n x
      unfold outI at this
      cases h1 : decide (x < -n) <;> cases h2 : decide (x > n) <;> rw [h1, h2] at this <;> cases h3 : inI n x <;> rw [h3] at this <;> first | rfl | cases this
    rw [key, key, key, key, Bool.and_true]
    rfl
  rw [e] at h
  exact h
theorem oCw_s {r : Orc} (h : OrcS Tryz.prog r) : OrcS Tryz.prog (oCw r) := .cons (.c dW_ok fun x hx => by
  unfold cW at hx
  exact cW_ok _ _ _ _ _ (inI_iff.1 hx)) h
theorem oLi_s : OrcS Tryz.prog oLi := .cons (.inl (oCw_s .nil) Tryz.func51 (by kernel_rfl)) .nil
theorem dSs_ok : ∀ args x, dSs args = some x → args = [.agg [.d (iD x.1), .d (iD x.2.1)], vI x.2.2] := fun args x h => by
  unfold dSs at h
  split at h
  · cases h; rfl
  · cases h
theorem sSc : OrcS Tryz.prog oSc := oCw_s (.cons (.inl .nil Tryz.func49 (by kernel_rfl)) (.cons (.c dSs_ok fun x hx => by
  unfold cSs at hx
  simp only [Bool.and_eq_true, inI_iff] at hx
  exact cSs_ok _ _ _ hx.1 hx.2.1 hx.2.2) oLi_s))
theorem in4_of {n : Int} {a b c d : Int} (ha : -n ≤ a ∧ a ≤ n) (hb : -n ≤ b ∧ b ≤ n) (hc : -n ≤ c ∧ c ≤ n) (hd : -n ≤ d ∧ d ≤ n) : in4 n (a, b, c, d) = true := in4_iff.2 ⟨ha, hb, hc, hd⟩
def cSc (x : Int × Int × Int × Int × Int) : Bool := in4 536870912 (x.1, x.2.1, x.2.2.1, x.2.2.2.1) && inI 536870912 x.2.2.2.2
def gSc (x : Int × Int × Int × Int × Int) : AV := .tup [(true, [.d (iD (x.1 * x.2.2.2.2)), .d (iD (x.2.1 * x.2.2.2.2)), .d (iD (x.2.2.1 * x.2.2.2.2)), .d (iD (x.2.2.2.1 * x.2.2.2.2))]), (false, [.d (iD 0)])]
theorem cSc_ok (a b c d k : Int) (h4 : in4 536870912 (a, b, c, d) = true) (hk : -536870912 ≤ k ∧ k ≤ 536870912) : CX Tryz.prog 24 [cyA (a, b, c, d), vI k] [] (gSc (a, b, c, d, k)) [] := by
  refine cx_of sSc.ok Tryz.func24 (by kernel_rfl) rfl ((evSc a b c d k).trans ?_)
  obtain ⟨ha, hb, hc, hd⟩ := in4_iff.1 h4
  simp only at ha hb hc hd
  have p1 := mul_in (m := 536870912) (k := 536870912) (by omega) (by omega) ha hk
  have p2 := mul_in (m := 536870912) (k := 536870912) (by omega) (by omega) hb hk
  have p3 := mul_in (m := 536870912) (k := 536870912) (by omega) (by omega) hc hk
  have p4 := mul_in (m := 536870912) (k := 536870912) (by omega) (by omega) hd hk
  have c1 : cSs (a, b, k) = true := by unfold cSs; simp only [Bool.and_eq_true, inI_iff]; exact ⟨ha, hb, hk⟩
  have c2 : cSs (c, d, k) = true := by unfold cSs; simp only [Bool.and_eq_true, inI_iff]; exact ⟨hc, hd, hk⟩
  have c3 : in4 576460752303423488 (a, b, c, d) = true := in4_of ⟨by omega, by omega⟩ ⟨by omega, by omega⟩ ⟨by omega, by omega⟩ ⟨by omega, by omega⟩
  have c4 : in4 576460752303423488 (a * k, b * k, c * k, d * k) = true := in4_of ⟨by omega, by omega⟩ ⟨by omega, by omega⟩ ⟨by omega, by omega⟩ ⟨by omega, by omega⟩
  rw [w59, c1, c2, c3, c4, decide_eq_false (show ¬ k < -576460752303423488 by omega), decide_eq_false (show ¬ k > 576460752303423488 by omega)]
  rfl
def dAd : List AV → Option (I4 × I4)
  | [.agg [.d (.v (.int .i64 a)), .d (.v (.int .i64 b)), .d (.v (.int .i64 c)), .d (.v (.int .i64 d))], .agg [.d (.v (.int .i64 e)), .d (.v (.int .i64 f)), .d (.v (.int .i64 g)), .d (.v (.int .i64 h))]] => some ((a, b, c, d), (e, f, g, h))
  | _ => none
theorem dAd_ok : ∀ args x, dAd args = some x → args = [cyA x.1, cyA x.2] := fun args x h => by
  unfold dAd at h
  split at h
  · cases h; rfl
  · cases h
def cAd (x : I4 × I4) : Bool := in4 288230376151711744 x.1 && in4 288230376151711744 x.2
def gAd (x : I4 × I4) : AV := .tup [(true, [.d (iD (x.1.1 + x.2.1)), .d (iD (x.1.2.1 + x.2.2.1)), .d (iD (x.1.2.2.1 + x.2.2.2.1)), .d (iD (x.1.2.2.2 + x.2.2.2.2))]), (false, [.d (iD 0)])]
theorem cAd_ok (x y : I4) (hx : in4 288230376151711744 x = true) (hy : in4 288230376151711744 y = true) : CX Tryz.prog 47 [cyA x, cyA y] [] (gAd (x, y)) [] := by
  obtain ⟨a, b, c, d⟩ := x
  obtain ⟨e, f, g, h⟩ := y
  refine cx_of (oCw_s oLi_s).ok Tryz.func47 (by kernel_rfl) rfl ((evAd a b c d e f g h).trans ?_)
  obtain ⟨ha, hb, hc, hd⟩ := in4_iff.1 hx
  obtain ⟨he, hf, hg, hh⟩ := in4_iff.1 hy
  simp only at ha hb hc hd he hf hg hh
  have c1 : in4 576460752303423488 (a, b, c, d) = true := in4_of ⟨by omega, by omega⟩ ⟨by omega, by omega⟩ ⟨by omega, by omega⟩ ⟨by omega, by omega⟩
  have c2 : in4 576460752303423488 (e, f, g, h) = true := in4_of ⟨by omega, by omega⟩ ⟨by omega, by omega⟩ ⟨by omega, by omega⟩ ⟨by omega, by omega⟩
  have c3 : in4 576460752303423488 (a + e, b + f, c + g, d + h) = true := in4_of ⟨by omega, by omega⟩ ⟨by omega, by omega⟩ ⟨by omega, by omega⟩ ⟨by omega, by omega⟩
  rw [wrap_id (n := a + e) (by omega) (by omega), wrap_id (n := b + f) (by omega) (by omega), wrap_id (n := c + g) (by omega) (by omega), wrap_id (n := d + h) (by omega) (by omega), c1, c2, c3]
  rfl
/-! roots -/
theorem evRo (k : Nat) (h : k < 12) : callC Tryz.prog oRo na 20 Tryz.f25 (bodyOf Tryz.f25) [vI (-(k : Int))] [] = some (.leaf (cyA (rt k), [])) := by
  match k, h with
  | 0, _ => show _ = _; kernel_rfl
  | 1, _ => show _ = _; kernel_rfl
  | 2, _ => show _ = _; kernel_rfl
  | 3, _ => show _ = _; kernel_rfl
  | 4, _ => show _ = _; kernel_rfl
  | 5, _ => show _ = _; kernel_rfl
  | 6, _ => show _ = _; kernel_rfl
  | 7, _ => show _ = _; kernel_rfl
  | 8, _ => show _ = _; kernel_rfl
  | 9, _ => show _ = _; kernel_rfl
  | 10, _ => show _ = _; kernel_rfl
  | 11, _ => show _ = _; kernel_rfl
theorem sRo : OrcS Tryz.prog oRo := .cons (.inl .nil Tryz.func52 (by kernel_rfl)) (.cons (.inl .nil Tryz.func53 (by kernel_rfl)) .nil)
def dRo : List AV → Option Int
  | [.c (.d (.v (.int .i64 n)))] => some n
  | _ => none
theorem dRo_ok : ∀ args n, dRo args = some n → args = [vI n] := fun args n h => by
  unfold dRo at h
  split at h
  · cases h; rfl
  · cases h
def cRo (n : Int) : Bool := decide (-11 ≤ n) && decide (n ≤ 0)
def gRo (n : Int) : AV := cyA (rt (-n).toNat)
theorem cRo_ok (n : Int) (h : cRo n = true) : CX Tryz.prog 25 [vI n] [] (gRo n) [] := by
  unfold cRo at h
  simp only [Bool.and_eq_true, decide_eq_true_eq] at h
  have := cx_of sRo.ok Tryz.func25 (by kernel_rfl) rfl (evRo (-n).toNat (by omega))
  rwa [show -((-n).toNat : Int) = n by omega] at this
end Go.Proofs.YtihcidopklhikaaGreatDoor.ph
