/-
  Number, of the program and of the reference: one contract. No condition.
-/
import Derived.Test.YtkmmkdeoamhpfaaWe
namespace Go.Proofs.Ytkmmkdeoamhpfaa.wd
open Go.RowKit Go.Eb

abbrev rN (x : Int × Bool) : AV := .tup [pI x.1, pB x.2]
def val : List UInt8 → Int → Int
  | [], n => n
  | c :: r, n => val r (10 * n + (c.toNat - 48))
def digs (l : List UInt8) : Bool := l.all fun c => digit c.toNat
def fin (d : ByteArray) (mi : Bool) (n : Int) : Int × Bool :=
  bif d.toList == (ByteArray.mk #[]).toList then (0, false)
  else bif ((bs d).getD 0 0).toNat == 48 then (bif decide (d.size > 1) then (0, false) else bif mi then (0, false) else (n, true))
  else bif mi then (0 - n, true) else (n, true)
def res (d : ByteArray) (mi : Bool) : Int × Bool := bif digs (bs d) && decide (d.size ≤ 7) then fin d mi (val (bs d) 0) else (0, false)
def numS (s : ByteArray) : Int × Bool := res (cutP s (ByteArray.mk #[45])).1 (cutP s (ByteArray.mk #[45])).2

theorem c53 (a : ByteArray × ByteArray) : CX Try.prog 53 [vS a.1, vS a.2] [] (vB (hasP a.1 a.2)) [] := by
  refine cx_of (Orc.nil_ok _) Try.func53 b53 rfl ((ev53 a.1 a.2).trans ?_)
  unfold hasP
  by_cases h : a.2.size ≤ a.1.size
  · have e : (a.2.size : Int) ≤ (a.1.size : Int) := by omega
    simp [h, e]
  · have e : ¬ (a.2.size : Int) ≤ (a.1.size : Int) := by omega
    simp [h, e]
theorem ok45 : OrcOk Try.prog o45 := Orc.cons_ok (Orc.nil_ok _) (ansP_ok decSS_ok c53)
theorem hasP_le {s p : ByteArray} (h : hasP s p = true) : p.size ≤ s.size := by unfold hasP at h; simp at h; exact h.1
theorem c45 (a : ByteArray × ByteArray) : CX Try.prog 45 [vS a.1, vS a.2] [] (.tup [pS (cutP a.1 a.2).1, pB (cutP a.1 a.2).2]) [] := by
  refine cx_of ok45 Try.func45 b45 rfl ((ev45 a.1 a.2).trans ?_)
  unfold cutP
  cases h : hasP a.1 a.2 with
  | false => simp
  | true =>
    have := hasP_le h
    have e : (a.2.size : Int) ≤ (a.1.size : Int) := by omega
    simp [e]
theorem ok27 : OrcOk Try.prog o27 := Orc.cons_ok (Orc.nil_ok _) (ansP_ok decSS_ok c45)
theorem c27 (a : ByteArray × ByteArray) : CX Try.prog 27 [vS a.1, vS a.2] [] (.tup [pS (cutP a.1 a.2).1, pB (cutP a.1 a.2).2]) [] :=
  cx_of ok27 Try.func27 b27 rfl (ev27 a.1 a.2)
theorem ok11 : OrcOk Try.prog o11 := Orc.cons_ok (Orc.nil_ok _) (ansP_ok decSS_ok c27)
theorem ok12 : OrcOk Try.prog o12 := Orc.cons_ok (Orc.nil_ok _) (ansP_ok dec8_ok c28)

theorem digit_bd {c : Int} (h : digit c = true) : 48 ≤ c ∧ c ≤ 57 := by unfold digit at h; simpa using h
theorem wrap32_id {n : Int} (h0 : 0 ≤ n) (h1 : n ≤ 1000) : IntKind.wrap IntKind.i32 n = n := by
  simp [IntKind.wrap, show IntKind.i32.bits = 32 from rfl]
  omega
theorem wrap8_id {n : Int} (h0 : 0 ≤ n) (h1 : n ≤ 200) : IntKind.wrap IntKind.u8 n = n := by
  simp [IntKind.wrap, show IntKind.u8.bits = 8 from rfl, show IntKind.u8.signed = false from rfl]
  omega

/-- powers of ten that bound what has been read -/
def p10 : Nat → Int
  | 0 => 1
  | k + 1 => 10 * p10 k
theorem p10_le : ∀ k, k ≤ 7 → 1 ≤ p10 k ∧ p10 k ≤ 10000000
  | 0, _ => by simp [p10]
  | 1, _ => by simp [p10]
  | 2, _ => by simp [p10]
  | 3, _ => by simp [p10]
  | 4, _ => by simp [p10]
  | 5, _ => by simp [p10]
  | 6, _ => by simp [p10]
  | 7, _ => by simp [p10]
  | k + 8, h => by omega

theorem digs_drop (l : List UInt8) {k : Nat} (h : k < l.length) : digs (l.drop k) = (digit (l.getD k 0).toNat && digs (l.drop (k + 1))) := all_drop l _ h
theorem val_drop (l : List UInt8) {k : Nat} (h : k < l.length) (n : Int) : val (l.drop k) n = val (l.drop (k + 1)) (10 * n + ((l.getD k 0).toNat - 48)) := by
  rw [List.drop_eq_getElem_cons h]
  simp [val, List.getD, h]

theorem step_num {n c : Int} {k : Nat} (hk : k < 7) (h0 : 0 ≤ n) (h1 : n < p10 k) (hc : 48 ≤ c ∧ c ≤ 57) :
    IntKind.wrap IntKind.i64 (IntKind.wrap IntKind.i64 (10 * n) + IntKind.wrap IntKind.i64 (c - 48)) = 10 * n + (c - 48) ∧ 0 ≤ 10 * n + (c - 48) ∧ 10 * n + (c - 48) < p10 (k + 1) := by
  have := p10_le k (by omega)
  have := p10_le (k + 1) (by omega)
  refine ⟨?_, by omega, by simp only [p10]; omega⟩
  rw [wrap_id (n := 10 * n) (by omega) (by omega), wrap_id (n := c - 48) (by omega) (by omega), wrap_id (by omega) (by omega)]

theorem lp11 (d : ByteArray) (mi : Bool) (g : Nat) : ∀ (m k : Nat) (n : Int), k ≤ d.size → d.size - k < m → (d.size ≤ 7 ∨ k = 0) → 0 ≤ n → n < p10 k →
    L11 d mi g m n k = some (.leaf (rN (bif digs ((bs d).drop k) && (decide (d.size ≤ 7) || decide (d.size ≤ k)) then fin d mi (val ((bs d).drop k) n) else (0, false)), []))
  | 0, k, n, _, h, _, _, _ => by omega
  | m + 1, k, n, hk, h, h7, hn0, hn1 => by
    rw [st11]
    by_cases hlt : k < d.size
    · have hl : k < (bs d).length := by rw [bs_len]; exact hlt
      have e1 : Nat.blt k d.size = true := by rw [bltD]; simpa using hlt
      have ek : decide (d.size ≤ k) = false := by simpa using hlt
      have eb : (bs d).getD k 0 = d[k] := by
        have hl' : k < d.data.size := hlt
        simp only [bs, List.getD, Array.getElem?_toList, Array.getElem?_eq_getElem hl', Option.getD_some]
        rfl
      rw [digs_drop _ hl, val_drop _ hl, eb, e1, ek]
      simp only [cond_true, Bool.or_false]
      by_cases ha : d[k].toNat < 128
      · rw [decode_ascii d k hlt ha]
        simp only
        cases hdg : digit (d[k].toNat : Int) with
        | true =>
          have hbd := digit_bd hdg
          have f1 : decide ((d[k].toNat : Int) < 48) = false := by simp; omega
          have f2 : decide ((d[k].toNat : Int) > 57) = false := by simp; omega
          rw [f1, f2]
          simp only [cond_false]
          by_cases h8 : d.size ≤ 7
          · have f3 : decide ((d.size : Int) > 7) = false := by simp; omega
            have f4 : decide (d.size ≤ 7) = true := by simpa using h8
            rw [f3, f4]
            simp only [cond_false]
            obtain ⟨w1, w2, w3⟩ := step_num (k := k) (by omega) hn0 hn1 hbd
            rw [wrap32_id (by omega) (by omega), w1, lp11 d mi g m (k + 1) _ (by omega) (by omega) (.inl h8) w2 w3, f4]
            simp
          · have f3 : decide ((d.size : Int) > 7) = true := by simp; omega
            have f4 : decide (d.size ≤ 7) = false := by simpa using h8
            rw [f3, f4]
            simp
        | false =>
          have hno : ¬ (48 ≤ (d[k].toNat : Int) ∧ (d[k].toNat : Int) ≤ 57) := by unfold digit at hdg; simpa using hdg
          by_cases c1 : (d[k].toNat : Int) < 48
          · have f1 : decide ((d[k].toNat : Int) < 48) = true := by simpa using c1
            rw [f1]; rfl
          · have f1 : decide ((d[k].toNat : Int) < 48) = false := by simpa using c1
            have f2 : decide ((d[k].toNat : Int) > 57) = true := by simp; omega
            rw [f1, f2]; rfl
      · obtain ⟨h1, h2⟩ := decode_high d k hlt (by omega)
        have f1 : decide (((Utf8.decode d k).1 : Int) < 48) = false := by simp; omega
        have f2 : decide (((Utf8.decode d k).1 : Int) > 57) = true := by simp; omega
        have f3 : digit (d[k].toNat : Int) = false := by
          unfold digit
          have : ¬ (d[k].toNat : Int) ≤ 57 := by omega
          simp [this]
        rw [f1, f2, f3]
        rfl
    · have e1 : Nat.blt k d.size = false := by rw [bltD]; simpa using hlt
      have ek : decide (d.size ≤ k) = true := by simpa using Nat.le_of_not_lt hlt
      have hd : (bs d).drop k = [] := List.drop_of_length_le (by rw [bs_len]; omega)
      rw [hd, e1, ek]
      simp only [cond_false, digs, List.all_nil, Bool.or_true, Bool.and_self, cond_true, val]
      unfold fin
      cases hz : (d.toList == (ByteArray.mk #[]).toList) with
      | true => rfl
      | false =>
        have hpos : 0 < d.size := by
          rcases Nat.eq_zero_or_pos d.size with h0 | h0
          · exfalso
            have : d = ByteArray.mk #[] := by
              cases d with
              | mk a => congr 1; exact Array.eq_empty_of_size_eq_zero h0
            rw [this] at hz; simp at hz
          · exact h0
        have g1 : (decide ((0 : Int) ≤ 0) && decide ((0 : Int) < (d.size : Int))) = true := by simp; omega
        have hw : IntKind.wrap IntKind.i64 (0 - n) = 0 - n := by
          rcases h7 with h7 | h7
          · have := p10_le k (by omega); exact wrap_id (by omega) (by omega)
          · subst h7; simp [p10] at hn1; exact wrap_id (by omega) (by omega)
        have hs1 : decide ((d.size : Int) > 1) = decide (d.size > 1) := by rw [Bool.eq_iff_iff]; simp; omega
        have h48 : ((((bs d).getD (Int.toNat 0) 0).toNat : Int) == 48) = (((bs d).getD 0 0).toNat == 48) := by rw [Bool.eq_iff_iff]; simp; omega
        simp only [g1, cond_true, cond_false, hw, hs1]
        rw [h48]
        cases (((bs d).getD 0 0).toNat == 48) <;> cases decide (d.size > 1) <;> cases mi <;> rfl

theorem c11 (s : ByteArray) : CX Try.prog 11 [vS s] [] (rN (numS s)) [] := by
  refine cx_of ok11 Try.func11 b11 rfl ((ev11 s ((cutP s (ByteArray.mk #[45])).1.size + 1)).trans ?_)
  have := lp11 (cutP s (ByteArray.mk #[45])).1 (cutP s (ByteArray.mk #[45])).2 ((cutP s (ByteArray.mk #[45])).1.size + 1) ((cutP s (ByteArray.mk #[45])).1.size + 1) 0 0 (by omega) (by omega) (.inr rfl) (by omega) (by simp [p10])
  rw [this]
  unfold numS res
  have e : (decide ((cutP s (ByteArray.mk #[45])).1.size ≤ 7) || decide ((cutP s (ByteArray.mk #[45])).1.size ≤ 0)) = decide ((cutP s (ByteArray.mk #[45])).1.size ≤ 7) := by
    generalize (cutP s (ByteArray.mk #[45])).1.size = z
    by_cases h : z ≤ 7
    · simp [h]
    · have : ¬ z ≤ 0 := by omega
      simp [h, this]
  rw [e]
  rfl

theorem lp12 (d : ByteArray) (mi : Bool) (g : Nat) (h7 : d.size ≤ 7) : ∀ (m k : Nat) (n : Int), k ≤ d.size → d.size - k < m → 0 ≤ n → n < p10 k →
    L12 d mi g m n k = some (.leaf (rN (bif digs ((bs d).drop k) then (bif mi then 0 - val ((bs d).drop k) n else val ((bs d).drop k) n, true) else (0, false)), []))
  | 0, k, n, _, h, _, _ => by omega
  | m + 1, k, n, hk, h, hn0, hn1 => by
    rw [st12]
    by_cases hlt : k < d.size
    · have hl : k < (bs d).length := by rw [bs_len]; exact hlt
      have e1 : decide ((k : Int) < (d.size : Int)) = true := by simp; omega
      have e2 : decide ((0 : Int) ≤ (k : Int)) = true := by simp
      have e3 : Int.toNat (k : Int) = k := by simp
      rw [digs_drop _ hl, val_drop _ hl]
      simp only [e1, e2, e3, Bool.and_self, cond_true]
      cases hdg : digit (((bs d).getD k 0).toNat : Int) with
      | true =>
        have hbd := digit_bd hdg
        obtain ⟨w1, w2, w3⟩ := step_num (k := k) (by omega) hn0 hn1 hbd
        have w8 : IntKind.wrap IntKind.u8 ((((bs d).getD k 0).toNat : Int) - 48) = (((bs d).getD k 0).toNat : Int) - 48 := wrap8_id (by omega) (by omega)
        have ew : IntKind.wrap IntKind.i64 ((k : Int) + 1) = ((k + 1 : Nat) : Int) := by rw [wrap_id (by omega) (by omega)]; omega
        simp only [Bool.not_true, cond_false, Bool.true_and]
        rw [w8, w1, ew, lp12 d mi g h7 m (k + 1) _ (by omega) (by omega) w2 w3]
      | false => rfl
    · have e1 : decide ((k : Int) < (d.size : Int)) = false := by simp; omega
      have hd : (bs d).drop k = [] := List.drop_of_length_le (by rw [bs_len]; omega)
      rw [hd, e1]
      have := p10_le k (by omega)
      have hw : IntKind.wrap IntKind.i64 (0 - n) = 0 - n := wrap_id (by omega) (by omega)
      simp only [cond_false, digs, List.all_nil, cond_true, val, hw]
      cases mi <;> rfl

/-- what the reference does with the digits -/
theorem tail12 (d : ByteArray) (mi : Bool) (g : Nat) (hg : 8 ≤ g) :
    (bif decide ((d.size : Int) < 1) then some (T.leaf (rN (0, false), ([] : Hp))) else bif decide ((d.size : Int) > 7) then some (T.leaf (rN (0, false), [])) else
      bif decide ((0 : Int) ≤ 0) && decide ((0 : Int) < (d.size : Int)) then (bif (((bs d).getD (Int.toNat 0) 0).toNat : Int) == 48 then (bif decide ((d.size : Int) > 1) then some (T.leaf (rN (0, false), [])) else bif mi then some (T.leaf (rN (0, false), [])) else L12 d mi g g 0 0) else L12 d mi g g 0 0) else none) =
      some (.leaf (rN (res d mi), [])) := by
  by_cases h0 : d.size = 0
  · have e0 : decide ((d.size : Int) < 1) = true := by simp; omega
    have : d = ByteArray.mk #[] := by
      cases d with
      | mk a => congr 1; exact Array.eq_empty_of_size_eq_zero h0
    have er : res d mi = (0, false) := by rw [this]; simp [res, digs, fin]
    rw [e0, er]
    rfl
  · have e0 : decide ((d.size : Int) < 1) = false := by simp; omega
    have g1 : (decide ((0 : Int) ≤ 0) && decide ((0 : Int) < (d.size : Int))) = true := by simp; omega
    have hz : (d.toList == (ByteArray.mk #[]).toList) = false := by
      cases hz : (d.toList == (ByteArray.mk #[]).toList) with
      | false => rfl
      | true =>
        exfalso
        have := congrArg List.length (eq_of_beq hz)
        rw [ByteArray.toList_eq, ByteArray.toList_eq] at this
        exact h0 (by simpa using this)
    by_cases h7 : d.size ≤ 7
    · have e7 : decide ((d.size : Int) > 7) = false := by simp; omega
      have e7' : decide (d.size ≤ 7) = true := by simpa using h7
      have hs1 : decide ((d.size : Int) > 1) = decide (d.size > 1) := by rw [Bool.eq_iff_iff]; simp; omega
      have h48 : ((((bs d).getD (Int.toNat 0) 0).toNat : Int) == 48) = (((bs d).getD 0 0).toNat == 48) := by rw [Bool.eq_iff_iff]; simp; omega
      have hl := lp12 d mi g h7 g 0 0 (by omega) (by omega) (by omega) (by simp [p10])
      simp only [Int.natCast_zero, List.drop_zero] at hl
      have hl' : L12 d mi g g 0 0 = some (.leaf (rN (bif digs (bs d) then (bif mi then 0 - val (bs d) 0 else val (bs d) 0, true) else (0, false)), [])) := hl
      unfold res fin
      rw [e0, e7, e7', g1, hs1, h48, hz, hl']
      simp only [cond_false, cond_true, Bool.and_true]
      cases digs (bs d) <;> cases (((bs d).getD 0 0).toNat == 48) <;> cases decide (d.size > 1) <;> cases mi <;> rfl
    · have e7 : decide ((d.size : Int) > 7) = true := by simp; omega
      have e7' : decide (d.size ≤ 7) = false := by simpa using h7
      unfold res
      rw [e0, e7, e7']
      simp

theorem hasM (s : ByteArray) : hasP s (ByteArray.mk #[45]) = (decide (1 ≤ s.size) && (((bs s).getD 0 0).toNat == 45)) := by
  unfold hasP
  have e : (ByteArray.mk #[45]).size = 1 := rfl
  rw [e, ByteArray.toList_eq, ByteArray.toList_eq]
  by_cases h : 1 ≤ s.size
  · have hl : 0 < (bs s).length := by rw [bs_len]; omega
    have h1 : (s.extract 0 1).data.toList = [(bs s)[0]] := by
      rw [ByteArray.data_extract]
      simp only [Array.toList_extract, List.extract_eq_take_drop]
      match hb : bs s, hl with
      | c :: r, _ => simp [show s.data.toList = c :: r from hb]
    have h2 : (bs s).getD 0 0 = (bs s)[0] := by rw [List.getD, List.getElem?_eq_getElem hl]; rfl
    rw [h1, h2]
    have h3 : decide (s.size ≥ 1) = true := by simpa using h
    rw [h3]
    rw [Bool.eq_iff_iff]
    generalize (bs s)[0] = c
    simp only [Bool.true_and, beq_iff_eq]
    constructor
    · intro hh; simp at hh; rw [hh]; rfl
    · intro hh; rw [show c = 45 from UInt8.toNat_inj.1 hh]
  · have h3 : decide (s.size ≥ 1) = false := by simpa using h
    rw [h3]
    rfl

theorem c12 (s : ByteArray) : CX Try.prog 12 [vS s] [] (rN (numS s)) [] := by
  obtain ⟨g, hg⟩ : ∃ g : Nat, 8 ≤ g := ⟨8, Nat.le_refl _⟩
  refine cx_of ok12 Try.func12 b12 rfl ((ev12 s g).trans ?_)
  have h45 : ((((bs s).getD (Int.toNat 0) 0).toNat : Int) == 45) = (((bs s).getD 0 0).toNat == 45) := by rw [Bool.eq_iff_iff]; simp; omega
  have ht1 : Int.toNat (1 : Int) = 1 := rfl
  have hts : Int.toNat (s.size : Int) = s.size := by simp
  by_cases h1 : 1 < s.size
  · have e1 : decide ((s.size : Int) > 1) = true := by simp; omega
    have e2 : (decide ((0 : Int) ≤ 0) && decide ((0 : Int) < (s.size : Int))) = true := by simp; omega
    have e3 : (decide ((0 : Int) ≤ 1) && decide ((1 : Int) ≤ (s.size : Int)) && decide ((s.size : Int) ≤ (s.size : Int))) = true := by simp; omega
    rw [e1, e2]
    simp only [cond_true]
    cases hm : (((bs s).getD 0 0).toNat == 45) with
    | true =>
      have hc : cutP s (ByteArray.mk #[45]) = (s.extract 1 s.size, true) := by
        unfold cutP
        rw [hasM, hm]
        have : decide (1 ≤ s.size) = true := by simp; omega
        rw [this]
        rfl
      have hn : numS s = res (s.extract 1 s.size) true := by unfold numS; rw [hc]
      rw [hn]
      have ht := tail12 (s.extract 1 s.size) true g hg
      rw [← ht]
      simp only [h45, hm, e3, ht1, hts, cond_true]
    | false =>
      have hc : cutP s (ByteArray.mk #[45]) = (s, false) := by
        unfold cutP
        rw [hasM, hm, Bool.and_false]
        rfl
      have hn : numS s = res s false := by unfold numS; rw [hc]
      rw [hn]
      have ht := tail12 s false g hg
      rw [← ht]
      have e1' : decide ((s.size : Int) > 1) = true := e1
      simp only [h45, hm, e1', e2, cond_true, cond_false]
  · have e1 : decide ((s.size : Int) > 1) = false := by simp; omega
    have ht := tail12 s false g hg
    have hn : numS s = res s false := by
      unfold numS
      cases hm : hasP s (ByteArray.mk #[45]) with
      | false =>
        have hc : cutP s (ByteArray.mk #[45]) = (s, false) := by unfold cutP; rw [hm]; rfl
        rw [hc]
      | true =>
        have hc : cutP s (ByteArray.mk #[45]) = (s.extract 1 s.size, true) := by unfold cutP; rw [hm]; rfl
        rw [hc]
        rw [hasM] at hm
        simp only [Bool.and_eq_true, decide_eq_true_eq] at hm
        have hsz : s.size = 1 := by omega
        have hl : (bs s).length = 1 := by rw [bs_len]; exact hsz
        have hx : (s.extract 1 s.size).size = 0 := by rw [ByteArray.size_extract]; omega
        have hx' : s.extract 1 s.size = ByteArray.mk #[] := by
          generalize s.extract 1 s.size = d at hx
          cases d with
          | mk a => congr 1; exact Array.eq_empty_of_size_eq_zero hx
        have r1 : res (s.extract 1 s.size) true = (0, false) := by rw [hx']; simp [res, digs, fin]
        have r2 : res s false = (0, false) := by
          unfold res
          have : digs (bs s) = false := by
            match hb : bs s, hl with
            | [c], _ =>
              have hc2 := hm.2
              rw [hb] at hc2
              simp at hc2
              simp [digs, digit, hc2]
          rw [this]
          rfl
        rw [r1, r2]
    rw [hn, ← ht, e1]
    simp only [cond_false]
end Go.Proofs.Ytkmmkdeoamhpfaa.wd
