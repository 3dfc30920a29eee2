/-
  The scanner: skip, plain and quoted are the plain law's. No condition.
-/
import Derived.Test.YtkmmkdeoamhpfaaZPs
import Derived.Test.YtkmmkdeoamhpfaaPs
import Derived.Test.YtkmmkdeoamhpfaaCl
namespace Go.Proofs.Ytkmmkdeoamhpfaa.ps
open Go.RowKit Go.Eb
open Go.Proofs.Ytkmmkdeoamhpfaa.wd (plainR bs bs_len wrap_id wrap32_id c29)
open Go.Proofs.Ytkmmkdeoamhpfaa.ct (lt1 lt0 ge0 tn nx)

theorem b58 : Try.f58.body.isNone = true := by kernel_rfl
theorem b57 : Try.f57.body = some (bodyOf Try.f57) := by kernel_rfl
theorem b52 : Try.f52.body = some (bodyOf Try.f52) := by kernel_rfl
theorem b40 : Try.f40.body = some (bodyOf Try.f40) := by kernel_rfl
theorem b41 : Try.f41.body = some (bodyOf Try.f41) := by kernel_rfl
theorem b42 : Try.f42.body = some (bodyOf Try.f42) := by kernel_rfl

theorem decS8_ok (args : List AV) (a : ByteArray × Int) (h : decS8 args = some a) : args = [vS a.1, v8 a.2] := by
  unfold decS8 at h
  split at h
  · cases h; rfl
  · simp at h

theorem c58 (a : ByteArray × Int) : CX Try.prog 58 [vS a.1, v8 a.2] [] (vI (idxB a.1 a.2)) [] := by
  unfold CX
  rw [Try.func58]
  simp only [b58, if_true]
  intro β I w vs hr ha
  obtain ⟨x, y, rfl⟩ : ∃ x y, vs = #[x, y] := by
    have := ha.1
    simp at this
    match vs, this with
    | ⟨[x, y]⟩, _ => exact ⟨x, y, rfl⟩
  have hx := RepD.v_eq (ha.2 0 _ x rfl rfl)
  have hy := RepD.v_eq (ha.2 1 _ y rfl rfl)
  subst hx hy
  refine ⟨_, w, β, I, ?_, hr, RepD.v _ rfl, .refl _ _ _, .refl _⟩
  rw [run_callFunc_extern Try.func58 (by kernel_rfl) b58 (by kernel_rfl) (e := Extern.BytealgIndexByte.indexByte) (by kernel_rfl), Lib.run_indexByteString]
  rfl

theorem os58 : OrcS Try.prog o58 := .cons (.p decS8_ok c58) .nil
theorem os57 : OrcS Try.prog o57 := .cons (.inl os58 Try.func57 b57) .nil
theorem os40 : OrcS Try.prog o40 := .cons (.inl os57 Try.func52 b52) .nil
theorem os42 : OrcS Try.prog o42 := .cons (.p dec32_ok c29) .nil

theorem q32 (c : UInt8) : IntKind.wrap IntKind.i32 (q c) = q c := wrap32_id (by unfold q; omega) (by have := c.toNat_lt; unfold q; omega)
theorem drop_at {T : List UInt8} {a : Nat} (h : a < T.length) : T.drop a = T.getD a 0 :: T.drop (a + 1) := by
  rw [List.drop_eq_getElem_cons h]; simp [List.getD, h]

theorem q10 (c : UInt8) : (q c == 10) = (c == 10) := by
  rw [Bool.eq_iff_iff]; simp only [beq_iff_eq, q]
  constructor
  · intro h; apply UInt8.toNat_inj.1; show c.toNat = 10; omega
  · rintro rfl; rfl
theorem skip_com : ∀ (r : List UInt8) (l : Nat), skipL true r l = if Lib.indexByte r 10 < 0 then ([], l) else skipL false (r.drop (Lib.indexByte r 10).toNat) l
  | [], l => by simp [skipL, Lib.indexByte]
  | c :: r, l => by
    have ih := skip_com r l
    have hge := Lib.indexByte_ge r 10
    simp only [skipL, Lib.indexByte, q10]
    by_cases hc : c = 10
    · subst hc
      simp only [beq_self_eq_true, cond_true, if_true, Int.toNat_zero, List.drop_zero]
      rw [if_neg (by omega)]
      rfl
    · have hc' : (c == 10) = false := by simpa using hc
      simp only [hc', cond_false, Bool.false_eq_true, if_false]
      rw [ih]
      by_cases h1 : Lib.indexByte r 10 = -1
      · simp [h1]
      · have h2 : (Lib.indexByte r 10 == -1) = false := by simpa using h1
        simp only [h2, Bool.false_eq_true, if_false]
        rw [if_neg (by omega), if_neg (by omega)]
        have : (Lib.indexByte r 10 + 1).toNat = (Lib.indexByte r 10).toNat + 1 := by omega
        rw [this, List.drop_succ_cons]

theorem idx_lt : ∀ (r : List UInt8), 0 ≤ Lib.indexByte r 10 → (Lib.indexByte r 10).toNat < r.length
  | [], h => by simp [Lib.indexByte] at h
  | c :: r, h => by
    have ih := idx_lt r
    have hge := Lib.indexByte_ge r 10
    simp only [Lib.indexByte] at h ⊢
    split
    · simp
    · split
      · rename_i h1 h2; simp [h1, h2] at h
      · rename_i h1 h2
        have : Lib.indexByte r 10 ≠ -1 := by simpa using h2
        have := ih (by omega)
        simp; omega

abbrev rest (s : ByteArray) (a : Nat) : List UInt8 := (bs s).drop a
theorem rest_len (s : ByteArray) (a : Nat) : (rest s a).length = s.size - a := by rw [List.length_drop, bs_len]
theorem idx_eq (s : ByteArray) (a : Nat) : idxB (s.extract a s.size) 10 = Lib.indexByte (rest s a) 10 := by
  unfold idxB
  rw [Lib.extract_data, List.take_of_length_le (by rw [List.length_drop]; have := bs_len s; unfold bs at this; omega)]
  rfl

theorem lp40 (s : ByteArray) (g : Nat) (hs : s.size ≤ 12000) : ∀ (m a l : Nat), a ≤ s.size → l ≤ 100000 + a → s.size - a < m →
    L40 s g m a l = some (.leaf (.tup [], HS s ((s.size - (skipL false (rest s a) l).1.length : Nat) : Int) (skipL false (rest s a) l).2))
  | 0, a, l, _, _, h => by omega
  | m + 1, a, l, ha, hl, h => by
    rw [st40]
    by_cases hlt : a < s.size
    · have hl' : a < (bs s).length := by rw [bs_len]; exact hlt
      have e : rest s a = (bs s).getD a 0 :: rest s (a + 1) := drop_at hl'
      have w1 : IntKind.wrap IntKind.i64 ((a : Int) + 1) = ((a + 1 : Nat) : Int) := nx hlt (by omega)
      have w2 : IntKind.wrap IntKind.i64 ((l : Int) + 1) = ((l + 1 : Nat) : Int) := by rw [wrap_id (by omega) (by omega)]; omega
      have key : (bif q ((bs s).getD a 0) == 32 then L40 s g m ((a + 1 : Nat) : Int) l else bif q ((bs s).getD a 0) == 9 then L40 s g m ((a + 1 : Nat) : Int) l else bif q ((bs s).getD a 0) == 10 then L40 s g m ((a + 1 : Nat) : Int) ((l + 1 : Nat) : Int) else
          bif q ((bs s).getD a 0) == 35 then (bif decide (idxB (s.extract a s.size) 10 < 0) then some (.leaf (.tup [], HS s s.size l)) else L40 s g m (IntKind.wrap IntKind.i64 (a + idxB (s.extract a s.size) 10)) l) else some (.leaf (.tup [], HS s a l))) =
          some (.leaf (.tup [], HS s ((s.size - (skipL false (rest s a) l).1.length : Nat) : Int) (skipL false (rest s a) l).2)) := by
        have i1 := lp40 s g hs m (a + 1) l (by omega) (by omega) (by omega)
        have i2 := lp40 s g hs m (a + 1) (l + 1) (by omega) (by omega) (by omega)
        rw [e]
        simp only [skipL]
        cases h1 : (q ((bs s).getD a 0) == 32) with
        | true => exact i1
        | false =>
          cases h2 : (q ((bs s).getD a 0) == 9) with
          | true => exact i1
          | false =>
            cases h3 : (q ((bs s).getD a 0) == 10) with
            | true => exact i2
            | false =>
              cases h4 : (q ((bs s).getD a 0) == 35) with
              | true =>
                simp only [cond_true, cond_false]
                have hc : skipL true (rest s (a + 1)) l = skipL true (rest s a) l := by rw [e]; simp only [skipL, h3, cond_false]
                have hi := idx_lt (rest s a)
                have hge := Lib.indexByte_ge (rest s a) 10
                have hlen := rest_len s a
                rw [hc, skip_com, idx_eq]
                by_cases hneg : Lib.indexByte (rest s a) 10 < 0
                · simp only [hneg, decide_true, cond_true, if_true]
                  simp
                · have hpos : 0 < (Lib.indexByte (rest s a) 10).toNat := by
                    rcases Nat.eq_zero_or_pos (Lib.indexByte (rest s a) 10).toNat with h0 | h0
                    · exfalso
                      have hz : Lib.indexByte (rest s a) 10 = 0 := by omega
                      rw [e] at hz
                      simp only [Lib.indexByte] at hz
                      have hgg := Lib.indexByte_ge (rest s (a + 1)) 10
                      split at hz
                      · rename_i hz'
                        have : (bs s).getD a 0 = 10 := by simpa using hz'
                        rw [this] at h3
                        exact absurd h3 (by decide)
                      · split at hz
                        · omega
                        · rename_i hz''
                          have : Lib.indexByte (rest s (a + 1)) 10 ≠ -1 := by simpa using hz''
                          omega
                    · exact h0
                  have hi' := hi (by omega)
                  have w3 : IntKind.wrap IntKind.i64 ((a : Int) + Lib.indexByte (rest s a) 10) = ((a + (Lib.indexByte (rest s a) 10).toNat : Nat) : Int) := by rw [wrap_id (by omega) (by omega)]; omega
                  simp only [hneg, decide_false, cond_false, if_false, w3]
                  have i3 := lp40 s g hs m (a + (Lib.indexByte (rest s a) 10).toNat) l (by omega) (by omega) (by omega)
                  rw [i3]
                  simp only [rest, List.drop_drop]
              | false => 
                simp only [cond_false, List.length_cons]
                have hlen := rest_len s (a + 1)
                rw [hlen]
                have : s.size - (s.size - (a + 1) + 1) = a := by omega
                rw [this]
      simp only [lt1 hlt, ge0, tn, Bool.and_self, cond_true, w1, w2, (show decide ((a : Int) ≤ (s.size : Int)) = true by simp; omega), Int.le_refl, decide_true]
      rw [← key]
      cases h1 : (q ((bs s).getD a 0) == 32) with
      | true => have h1' : (((((bs s).getD a 0).toNat : Nat) : Int) == 32) = true := h1
                simp only [h1', cond_true]
      | false => have h1' : (((((bs s).getD a 0).toNat : Nat) : Int) == 32) = false := h1
                 simp only [h1', cond_false]
    · rw [lt0 hlt]
      have : rest s a = [] := List.drop_of_length_le (by rw [bs_len]; omega)
      rw [this]
      simp only [skipL, cond_false, List.length_nil, Nat.sub_zero]
      have : a = s.size := by omega
      rw [this]

theorem c40 (s : ByteArray) (a l : Nat) (hs : s.size ≤ 12000) (ha : a ≤ s.size) (hl : l ≤ 100000 + a) :
    CX Try.prog 40 [.c (.ptr 0 0)] (HS s a l) (.tup []) (HS s ((s.size - (skipL false (rest s a) l).1.length : Nat) : Int) (skipL false (rest s a) l).2) := by
  refine cx_of os40.ok Try.func40 b40 rfl ((ev40 s a l (s.size + 1)).trans ?_)
  exact lp40 s (s.size + 1) hs (s.size + 1) a l ha hl (by omega)

theorem run42 (s : ByteArray) (g : Nat) (hs : s.size ≤ 12000) (l fr : Int) (x : Option (T (AV × Hp))) : ∀ (k a e : Nat), ((rest s a).takeWhile pl).length < k → e = a + ((rest s a).takeWhile pl).length → a ≤ s.size → (∀ m, L42 s g (m + 1) e l fr = x) → L42 s g k a l fr = x := by
  intro k
  induction k with
  | zero => intro a e h _ _ _; omega
  | succ k ih =>
    intro a e h he ha hx
    by_cases hz : ((rest s a).takeWhile pl).length = 0
    · have : e = a := by omega
      subst this
      exact hx k
    · have hlt : a < s.size := by
        rcases Nat.lt_or_ge a s.size with hh | hh
        · exact hh
        · have hr : rest s a = [] := List.drop_of_length_le (by rw [bs_len]; omega)
          rw [hr] at hz; simp at hz
      have hl' : a < (bs s).length := by rw [bs_len]; exact hlt
      have er : rest s a = (bs s).getD a 0 :: rest s (a + 1) := drop_at hl'
      have w1 : IntKind.wrap IntKind.i64 ((a : Int) + 1) = ((a + 1 : Nat) : Int) := nx hlt (by omega)
      rw [er] at h hz he
      rw [st42]
      simp only [lt1 hlt, ge0, tn, Bool.and_self, cond_true, w1]
      generalize (bs s).getD a 0 = c at h hz he
      cases hp : pl c with
      | false => exact absurd (by simp [List.takeWhile_cons, hp]) hz
      | true =>
        simp only [List.takeWhile_cons, hp, if_true, List.length_cons] at h he
        have hp' : plainR (IntKind.wrap IntKind.i32 (c.toNat : Int)) = true := by
          have := q32 c; unfold q at this; rw [this]; exact hp
        simp only [hp', cond_true]
        exact ih (a + 1) e (by omega) (by omega) (by omega) hx

theorem take_ext (s : ByteArray) (a n : Nat) : s.extract a (a + n) = ⟨((rest s a).take n).toArray⟩ := by
  rw [Lib.extract_eq]; congr 2; rw [show a + n - a = n by omega]
theorem takeW (p : UInt8 → Bool) : ∀ (r : List UInt8), r.take (r.takeWhile p).length = r.takeWhile p ∧ r.drop (r.takeWhile p).length = r.dropWhile p
  | [] => by simp
  | c :: r => by
    obtain ⟨h1, h2⟩ := takeW p r
    cases h : p c <;> simp [h, h1, h2]
theorem dropW_head (p : UInt8 → Bool) : ∀ (r : List UInt8) (c : UInt8) (r' : List UInt8), r.dropWhile p = c :: r' → p c = false
  | [], c, r', h => by simp at h
  | x :: r, c, r', h => by
    cases hp : p x with
    | true => simp [hp] at h; exact dropW_head p r c r' h
    | false => simp [hp] at h; rw [← h.1]; exact hp

theorem c42 (s : ByteArray) (a l : Nat) (hs : s.size ≤ 12000) (ha : a ≤ s.size) :
    CX Try.prog 42 [.c (.ptr 0 0)] (HS s a l) (tkC (plainL (rest s a)).1 l) (HS s ((s.size - (plainL (rest s a)).2.length : Nat) : Int) l) := by
  refine cx_of os42.ok Try.func42 b42 rfl ((ev42 s a l (s.size + 1)).trans ?_)
  obtain ⟨t1, t2⟩ := takeW pl (rest s a)
  have hlen := dropWhile_len pl (rest s a)
  have hrl := rest_len s a
  refine run42 s _ hs l a _ _ a _ (by omega) rfl ha fun m => ?_
  rw [st42]
  have hx : (plainL (rest s a)).2 = (rest s a).dropWhile pl := by
    unfold plainL
    cases decide (120 < ((rest s a).takeWhile pl).length) <;> cases isQ ((rest s a).dropWhile pl) <;> rfl
  rw [hx]
  generalize hn : ((rest s a).takeWhile pl).length = n at *
  have w0 : IntKind.wrap IntKind.i64 (((a + n : Nat) : Int) - (a : Int)) = (n : Int) := by rw [wrap_id (by omega) (by omega)]; omega
  have he : rest s (a + n) = (rest s a).dropWhile pl := by rw [← t2]; simp only [rest, List.drop_drop]
  have hpos : s.size - ((rest s a).dropWhile pl).length = a + n := by omega
  have hext : s.extract a (a + n) = ⟨((rest s a).takeWhile pl).toArray⟩ := by rw [take_ext, t1]
  have hc : decide ((n : Int) > 120) = decide (120 < n) := by rw [Bool.eq_iff_iff]; simp; omega
  unfold plainL
  rw [hpos, hn]
  by_cases hlt : a + n < s.size
  · have hl' : a + n < (bs s).length := by rw [bs_len]; exact hlt
    have e : rest s (a + n) = (bs s).getD (a + n) 0 :: rest s (a + n + 1) := drop_at hl'
    have hd : (rest s a).dropWhile pl = (bs s).getD (a + n) 0 :: rest s (a + n + 1) := by rw [← he, e]
    have hp := dropW_head pl _ _ _ hd
    have hp' : plainR (IntKind.wrap IntKind.i32 (((bs s).getD (a + n) 0).toNat : Int)) = false := by
      have := q32 ((bs s).getD (a + n) 0); unfold q at this; rw [this]; exact hp
    simp only [lt1 hlt, ge0, tn, Bool.and_self, cond_true, hp', cond_false, w0, hc, hext, (show decide ((a : Int) ≤ ((a + n : Nat) : Int)) = true by simp; omega), (show decide (((a + n : Nat) : Int) ≤ (s.size : Int)) = true by simp; omega)]
    rw [hd]
    simp only [isQ]
    cases decide (120 < n) <;> cases hq : (((((bs s).getD (a + n) 0).toNat : Nat) : Int) == 34) <;> simp only [cond_true, cond_false, tkC, tkKind, tkLn, tkTxt, tkQ, tkEl, tkEr, q, hq]
  · have hd : (rest s a).dropWhile pl = [] := by rw [← he]; exact List.drop_of_length_le (by rw [bs_len]; omega)
    simp only [lt0 hlt, ge0, tn, Bool.and_self, cond_true, cond_false, w0, hc, hext, (show decide ((a : Int) ≤ ((a + n : Nat) : Int)) = true by simp; omega), (show decide (((a + n : Nat) : Int) ≤ (s.size : Int)) = true by simp; omega)]
    rw [hd]
    simp only [isQ]
    cases decide (120 < n) <;> simp only [cond_true, cond_false, tkC, tkKind, tkLn, tkTxt, tkQ, tkEl, tkEr]

theorem qokB (c : UInt8) : qok c = (((c.toNat : Int) != 34) && (!decide ((c.toNat : Int) < 32) && !decide ((c.toNat : Int) > 126))) := by
  unfold qok q
  simp only [bne]
  cases ((c.toNat : Int) == 34) <;> cases decide ((c.toNat : Int) < 32) <;> cases decide ((c.toNat : Int) > 126) <;> rfl

theorem run41 (s : ByteArray) (g : Nat) (hs : s.size ≤ 12000) (l fr : Int) (x : Option (T (AV × Hp))) : ∀ (k a e : Nat), ((rest s a).takeWhile qok).length < k → e = a + ((rest s a).takeWhile qok).length → a ≤ s.size → (∀ m, L41 s g (m + 1) e l fr = x) → L41 s g k a l fr = x := by
  intro k
  induction k with
  | zero => intro a e h _ _ _; omega
  | succ k ih =>
    intro a e h he ha hx
    by_cases hz : ((rest s a).takeWhile qok).length = 0
    · have : e = a := by omega
      subst this
      exact hx k
    · have hlt : a < s.size := by
        rcases Nat.lt_or_ge a s.size with hh | hh
        · exact hh
        · have hr : rest s a = [] := List.drop_of_length_le (by rw [bs_len]; omega)
          rw [hr] at hz; simp at hz
      have hl' : a < (bs s).length := by rw [bs_len]; exact hlt
      have er : rest s a = (bs s).getD a 0 :: rest s (a + 1) := drop_at hl'
      have w1 : IntKind.wrap IntKind.i64 ((a : Int) + 1) = ((a + 1 : Nat) : Int) := nx hlt (by omega)
      rw [er] at h hz he
      rw [st41]
      simp only [lt1 hlt, ge0, tn, Bool.and_self, cond_true, w1]
      generalize (bs s).getD a 0 = c at h hz he
      cases hp : qok c with
      | false => exact absurd (by simp [List.takeWhile_cons, hp]) hz
      | true =>
        simp only [List.takeWhile_cons, hp, if_true, List.length_cons] at h he
        rw [qokB] at hp
        simp only [Bool.and_eq_true, Bool.not_eq_true'] at hp
        simp only [hp.1, hp.2.1, hp.2.2, cond_true, cond_false]
        exact ih (a + 1) e (by omega) (by omega) (by omega) hx

theorem c41 (s : ByteArray) (a l : Nat) (hs : s.size ≤ 12000) (ha : a < s.size) :
    CX Try.prog 41 [.c (.ptr 0 0)] (HS s a l) (tkC (quotL (rest s (a + 1))).1 l) (HS s ((s.size - (quotL (rest s (a + 1))).2.length : Nat) : Int) l) := by
  refine cx_of os42.ok Try.func41 b41 rfl ((ev41 s a l (s.size + 1)).trans ?_)
  have w1 : IntKind.wrap IntKind.i64 ((a : Int) + 1) = ((a + 1 : Nat) : Int) := nx ha (by omega)
  rw [w1]
  generalize hb : a + 1 = b
  have hbs : b ≤ s.size := by omega
  obtain ⟨t1, t2⟩ := takeW qok (rest s b)
  have hlen := dropWhile_len qok (rest s b)
  have hrl := rest_len s b
  refine run41 s _ hs l b _ _ b _ (by omega) rfl hbs fun m => ?_
  rw [st41]
  unfold quotL
  generalize hn : ((rest s b).takeWhile qok).length = n at *
  have he : rest s (b + n) = (rest s b).dropWhile qok := by rw [← t2]; simp only [rest, List.drop_drop]
  have hpos : s.size - ((rest s b).dropWhile qok).length = b + n := by omega
  have hext : s.extract b (b + n) = ⟨((rest s b).takeWhile qok).toArray⟩ := by rw [take_ext, t1]
  have hes : (s.extract b (b + n)).size = n := by rw [hext]; show (List.toArray _).size = n; simpa using hn
  have hc : decide ((n : Int) > 120) = decide (120 < n) := by rw [Bool.eq_iff_iff]; simp; omega
  by_cases hlt : b + n < s.size
  · have hl' : b + n < (bs s).length := by rw [bs_len]; exact hlt
    have e : rest s (b + n) = (bs s).getD (b + n) 0 :: rest s (b + n + 1) := drop_at hl'
    have hd : (rest s b).dropWhile qok = (bs s).getD (b + n) 0 :: rest s (b + n + 1) := by rw [← he, e]
    have hp := dropW_head qok _ _ _ hd
    have hrl2 := rest_len s (b + n + 1)
    have w2 : IntKind.wrap IntKind.i64 (((b + n : Nat) : Int) + 1) = ((b + n + 1 : Nat) : Int) := nx hlt (by omega)
    have hne : (((b + n : Nat) : Int) == (s.size : Int)) = false := by simp; omega
    rw [qokB] at hp
    simp only [lt1 hlt, ge0, tn, Bool.and_self, cond_true, w2, hne, cond_false, (show decide ((b : Int) ≤ ((b + n : Nat) : Int)) = true by simp; omega), (show decide (((b + n : Nat) : Int) ≤ (s.size : Int)) = true by simp; omega), hes, hc]
    rw [hd] at hpos ⊢
    have hp1 : s.size - (rest s (b + n + 1)).length = b + n + 1 := by omega
    generalize (bs s).getD (b + n) 0 = c at *
    simp only [quotE, q]
    cases h34 : ((c.toNat : Int) == 34) with
    | false =>
      have hb : ((c.toNat : Int) != 34) = true := by simp only [bne, h34]; rfl
      simp only [hb, Bool.true_and] at hp
      simp only [hb, cond_true, cond_false, List.length_cons, hp1]
      simp only [List.length_cons] at hpos
      rw [hpos]
      cases h1 : decide ((c.toNat : Int) < 32) <;> cases h2 : decide ((c.toNat : Int) > 126) <;> simp [h1, h2] at hp <;> simp only [cond_true, cond_false, tkC, tkKind, tkLn, tkTxt, tkQ, tkEl, tkEr]
    | true =>
      have hb : ((c.toNat : Int) != 34) = false := by simp only [bne, h34]; rfl
      simp only [hb, cond_true, cond_false, hext]
      cases h120 : decide (120 < n) with
      | true => simp only [cond_true, hp1, hn, h120, tkC, tkKind, tkLn, tkTxt, tkQ, tkEl, tkEr]
      | false =>
        simp only [cond_false, hn, h120]
        by_cases hlt2 : b + n + 1 < s.size
        · have hl2 : b + n + 1 < (bs s).length := by rw [bs_len]; exact hlt2
          have e2 : rest s (b + n + 1) = (bs s).getD (b + n + 1) 0 :: rest s (b + n + 1 + 1) := drop_at hl2
          simp only [lt1 hlt2, ge0, tn, Bool.and_self, cond_true]
          have e3 : isQP (rest s (b + n + 1)) = bif q ((bs s).getD (b + n + 1) 0) == 34 then true else plainR (IntKind.wrap IntKind.i32 (((bs s).getD (b + n + 1) 0).toNat : Int)) := by
            have := q32 ((bs s).getD (b + n + 1) 0); unfold q at this; rw [this, e2]; rfl
          rw [e3]
          generalize (bs s).getD (b + n + 1) 0 = c2
          simp only [q]
          cases hq2 : ((c2.toNat : Int) == 34) <;> cases hq3 : plainR (IntKind.wrap IntKind.i32 (c2.toNat : Int)) <;> simp only [cond_true, cond_false, hp1, tkC, tkKind, tkLn, tkTxt, tkQ, tkEl, tkEr]
        · have e2 : rest s (b + n + 1) = [] := List.drop_of_length_le (by rw [bs_len]; omega)
          have e3 : isQP (rest s (b + n + 1)) = false := by rw [e2]; rfl
          simp only [lt0 hlt2, e3, cond_false, hp1, tkC, tkKind, tkLn, tkTxt, tkQ, tkEl, tkEr]
  · have hd : (rest s b).dropWhile qok = [] := by rw [← he]; exact List.drop_of_length_le (by rw [bs_len]; omega)
    have heq : b + n = s.size := by omega
    rw [hd, heq]
    simp only [lt0 (Nat.lt_irrefl s.size), cond_false, beq_self_eq_true, cond_true, quotE, List.length_nil, Nat.sub_zero, tkC, tkKind, tkLn, tkTxt, tkQ, tkEl, tkEr]
end Go.Proofs.Ytkmmkdeoamhpfaa.ps
