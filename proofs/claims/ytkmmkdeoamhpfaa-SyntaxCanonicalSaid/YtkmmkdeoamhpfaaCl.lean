/-
  Check, of the program and of the reference: their contracts. No condition.
-/
import Derived.Test.YtkmmkdeoamhpfaaCk
import Derived.Test.YtkmmkdeoamhpfaaCu
import Derived.Test.YtkmmkdeoamhpfaaWf
namespace Go.Proofs.Ytkmmkdeoamhpfaa.ck
open Go.RowKit Go.Eb
open Go.Proofs.Ytkmmkdeoamhpfaa.wd
open Go.Proofs.Ytkmmkdeoamhpfaa.ct (drop_cons lt1 lt0 ge0 tn nx)

theorem b49 : Try.f49.body = some (bodyOf Try.f49) := by kernel_rfl
theorem b55 : Try.f55.body = some (bodyOf Try.f55) := by kernel_rfl
theorem b50 : Try.f50.body = some (bodyOf Try.f50) := by kernel_rfl
theorem b37 : Try.f37.body = some (bodyOf Try.f37) := by kernel_rfl
theorem b56 : Try.f56.body = some (bodyOf Try.f56) := by kernel_rfl
theorem b51 : Try.f51.body = some (bodyOf Try.f51) := by kernel_rfl
theorem b36 : Try.f36.body = some (bodyOf Try.f36) := by kernel_rfl
theorem b16 : Try.f16.body = some (bodyOf Try.f16) := by kernel_rfl
theorem b38 : Try.f38.body = some (bodyOf Try.f38) := by kernel_rfl
theorem b18 : Try.f18.body = some (bodyOf Try.f18) := by kernel_rfl
theorem b17 : Try.f17.body = some (bodyOf Try.f17) := by kernel_rfl

theorem decWd_ok (args : List AV) (w : Wd) (h : decWd args = some w) : args = [aWd w] := by
  unfold decWd at h
  split at h
  · cases h; rfl
  · simp at h

/-- may begin a statement -/
def opn (w : Wd) : Bool := !w.q && (!(w.text.toList == (ByteArray.mk #[]).toList) && letter ((bs w.text).getD 0 0).toNat)

theorem pos_of_ne {d : ByteArray} (hz : (d.toList == (ByteArray.mk #[]).toList) = false) : 0 < d.size := by
  rcases Nat.eq_zero_or_pos d.size with h0 | h0
  · exfalso
    have : d = ByteArray.mk #[] := by
      cases d with
      | mk a => congr 1; exact Array.eq_empty_of_size_eq_zero h0
    rw [this] at hz; simp at hz
  · exact h0
theorem byte_lt (c : UInt8) : (c.toNat : Int) ≤ 255 := by have := c.toNat_lt; omega

theorem c49 (w : Wd) : CX Try.prog 49 [aWd w] [] (vB (opn w)) [] := by
  have ho : OrcOk Try.prog o49 := Orc.cons_ok (Orc.nil_ok _) (ansP_ok dec32_ok c46)
  refine cx_of ho Try.func49 b49 rfl ((ev49 w).trans ?_)
  unfold opn
  cases hq : w.q with
  | true => rfl
  | false =>
    cases hz : (w.text.toList == (ByteArray.mk #[]).toList) with
    | true => rfl
    | false =>
      have hp := pos_of_ne hz
      have g1 : (decide ((0 : Int) ≤ 0) && decide ((0 : Int) < (w.text.size : Int))) = true := by simp; omega
      have hw : IntKind.wrap IntKind.i32 ((((bs w.text).getD (Int.toNat 0) 0).toNat : Nat) : Int) = (((bs w.text).getD (Int.toNat 0) 0).toNat : Int) := wrap32_id (by omega) (by have := byte_lt ((bs w.text).getD (Int.toNat 0) 0); omega)
      rw [g1]
      simp only [Bool.not_false, cond_true, Bool.true_and]
      rw [hw]
      rfl
theorem c55 (w : Wd) : CX Try.prog 55 [aWd w] [] (vB (opn w)) [] := by
  have ho : OrcOk Try.prog o55 := Orc.cons_ok (Orc.nil_ok _) (ansP_ok dec8_ok c47)
  refine cx_of ho Try.func55 b55 rfl ((ev55 w).trans ?_)
  unfold opn
  cases hq : w.q with
  | true => rfl
  | false =>
    cases hz : (w.text.toList == (ByteArray.mk #[]).toList) with
    | true => rfl
    | false =>
      have hp := pos_of_ne hz
      have g1 : (decide ((0 : Int) ≤ 0) && decide ((0 : Int) < (w.text.size : Int))) = true := by simp; omega
      rw [g1]
      rfl

/-- may be between quotes -/
def qch (c : UInt8) : Bool := !(decide ((c.toNat : Int) < 32)) && (!(decide ((c.toNat : Int) > 126)) && !((c.toNat : Int) == 34))
def quot (s : ByteArray) : Bool := (bs s).all qch

theorem lp50 (s : ByteArray) (g : Nat) (hs : s.size ≤ 9223372036854775807) : ∀ (m k : Nat), k ≤ s.size → s.size - k < m → L50 s g m k = some (.leaf (vB (((bs s).drop k).all qch), []))
  | 0, k, _, h => by omega
  | m + 1, k, hk, h => by
    rw [st50]
    by_cases hlt : k < s.size
    · have hl : k < (bs s).length := by rw [bs_len]; exact hlt
      rw [all_drop _ _ hl]
      simp only [lt1 hlt, ge0, tn, Bool.and_self, cond_true]
      rw [nx hlt hs, lp50 s g hs m (k + 1) (by omega) (by omega)]
      unfold qch
      cases decide ((((bs s).getD k 0).toNat : Int) < 32) <;> cases decide ((((bs s).getD k 0).toNat : Int) > 126) <;> cases ((((bs s).getD k 0).toNat : Int) == 34) <;> rfl
    · rw [lt0 hlt, List.drop_of_length_le (by rw [bs_len]; omega)]
      rfl
theorem c50 (s : ByteArray) (hs : s.size ≤ 9223372036854775807) : CX Try.prog 50 [vS s] [] (vB (quot s)) [] := by
  refine cx_of (Orc.nil_ok _) Try.func50 b50 rfl ((ev50 s (s.size + 1)).trans ?_)
  exact lp50 s (s.size + 1) hs (s.size + 1) 0 (by omega) (by omega)

/-- the error of a word, of words, of a statement -/
def cwd (w : Wd) : Int := bif decide ((w.text.size : Int) > 120) then 4 else bif w.q then (bif quot w.text then 0 else 5) else (bif plainS w.text then 0 else 6)
def cws : List Wd → Int
  | [] => 0
  | w :: r => bif cwd w != 0 then cwd w else cws r
def ckItem (x : It) : Int :=
  bif (x.words.length : Int) == 0 then 6 else bif !opn (x.words.getD 0 w0) then 6 else bif decide ((x.words.length : Int) > 40) then 3 else
    bif cws x.words != 0 then cws x.words else bif !x.block then (bif decide ((x.kids.length : Int) > 0) then 12 else 0) else 0
def ckEnd (x : It) (e : Int) : Int := bif e != 0 then e else bif !x.block then (bif decide ((x.kids.length : Int) > 0) then 12 else 0) else 0

theorem ok37 : OrcOk Try.prog (o37 opn quot) := Orc.cons_ok (Orc.cons_ok (Orc.cons_ok (Orc.nil_ok _) (ansP_ok decS_ok c13)) (ansC_ok decS_ok fun s h => c50 s (by unfold sB at h; simpa using h))) (ansP_ok decWd_ok c49)

theorem wsz {l : List Wd} (h : okWs l = true) {k : Nat} (hk : k < l.length) : (l.getD k w0).text.size ≤ 9223372036854775807 := by
  unfold okWs at h
  simp only [Bool.and_eq_true, List.all_eq_true, decide_eq_true_eq] at h
  refine h.2 _ ?_
  simp [List.getD, hk]

theorem lp37 (x : It) (g : Nat) (hw : okWs x.words = true) : ∀ (m k : Nat), k ≤ x.words.length → x.words.length - k < m → L37 opn quot x g m k = some (.leaf (vI (ckEnd x (cws (x.words.drop k))), []))
  | 0, k, _, h => by omega
  | m + 1, k, hk, h => by
    rw [st37]
    by_cases hlt : k < x.words.length
    · have hsz : decide ((x.words.getD k w0).text.size ≤ sB) = true := decide_eq_true (wsz hw hlt)
      simp only [lt1 hlt, ge0, tn, Bool.and_self, cond_true, hsz]
      rw [nx hlt (okWs_len hw), lp37 x g hw m (k + 1) (by omega) (by omega), drop_cons x.words w0 hlt]
      simp only [cws, cwd]
      cases decide (((x.words.getD k w0).text.size : Int) > 120) <;> cases (x.words.getD k w0).q <;> cases quot (x.words.getD k w0).text <;> cases plainS (x.words.getD k w0).text <;> rfl
    · rw [lt0 hlt, List.drop_of_length_le (by omega)]
      unfold ckEnd cws
      cases x.block <;> cases decide ((x.kids.length : Int) > 0) <;> rfl

theorem c37 (x : It) (hw : okWs x.words = true) : CX Try.prog 37 [aT x] [] (vI (ckItem x)) [] := by
  refine cx_of ok37 Try.func37 b37 rfl ((ev37 opn quot x (x.words.length + 1)).trans ?_)
  have hl := lp37 x (x.words.length + 1) hw (x.words.length + 1) 0 (by omega) (by omega)
  have hl' : L37 opn quot x (x.words.length + 1) (x.words.length + 1) 0 = _ := hl
  rw [hl']
  unfold ckItem ckEnd
  cases h0 : ((x.words.length : Int) == 0) with
  | true => rfl
  | false =>
    have hne : x.words.length ≠ 0 := fun e => by rw [e] at h0; simp at h0
    have hp : (decide ((0 : Int) ≤ 0) && decide ((0 : Int) < (x.words.length : Int))) = true := by rw [decide_eq_true (show (0 : Int) < (x.words.length : Int) by omega)]; rfl
    rw [hp]
    simp only [cond_false, cond_true, List.drop_zero]
    show (bif !opn (x.words.getD 0 w0) then _ else _) = _
    cases opn (x.words.getD 0 w0) <;> cases decide ((x.words.length : Int) > 40) <;> cases (cws x.words != 0) <;> rfl

theorem ok56 : OrcOk Try.prog o56 := Orc.cons_ok (Orc.nil_ok _) (ansC_ok decS_ok fun s h => c14 s (by unfold sB at h; simpa using h))
theorem lp56 (w : Wd) (g : Nat) (hs : w.text.size ≤ 9223372036854775807) : ∀ (m k : Nat), k ≤ w.text.size → w.text.size - k < m → L56 w g m k = some (.leaf (vI (bif ((bs w.text).drop k).all qch then 0 else 5), []))
  | 0, k, _, h => by omega
  | m + 1, k, hk, h => by
    rw [st56]
    by_cases hlt : k < w.text.size
    · have hl : k < (bs w.text).length := by rw [bs_len]; exact hlt
      rw [all_drop _ _ hl]
      simp only [lt1 hlt, ge0, tn, Bool.and_self, cond_true]
      rw [nx hlt hs, lp56 w g hs m (k + 1) (by omega) (by omega)]
      unfold qch
      cases decide ((((bs w.text).getD k 0).toNat : Int) < 32) <;> cases decide ((((bs w.text).getD k 0).toNat : Int) > 126) <;> cases ((((bs w.text).getD k 0).toNat : Int) == 34) <;> rfl
    · rw [lt0 hlt, List.drop_of_length_le (by rw [bs_len]; omega)]
      rfl
theorem c56 (w : Wd) (hs : w.text.size ≤ 9223372036854775807) : CX Try.prog 56 [aWd w] [] (vI (cwd w)) [] := by
  refine cx_of ok56 Try.func56 b56 rfl ((ev56 w (w.text.size + 1)).trans ?_)
  have hl := lp56 w (w.text.size + 1) hs (w.text.size + 1) 0 (by omega) (by omega)
  have hl' : L56 w (w.text.size + 1) (w.text.size + 1) 0 = _ := hl
  have hsz : decide (w.text.size ≤ sB) = true := decide_eq_true hs
  rw [hl', hsz]
  unfold cwd quot
  simp only [List.drop_zero, cond_true]
  cases decide ((w.text.size : Int) > 120) <;> cases w.q <;> cases (bs w.text).all qch <;> cases plainS w.text <;> rfl

theorem ok51 : OrcOk Try.prog (o51 opn cwd) := Orc.cons_ok (Orc.cons_ok (Orc.nil_ok _) (ansC_ok decWd_ok fun w h => c56 w (by unfold sB at h; simpa using h))) (ansP_ok decWd_ok c55)
theorem lp51 (x : It) (g : Nat) (hw : okWs x.words = true) : ∀ (m k : Nat), k ≤ x.words.length → x.words.length - k < m → L51 opn cwd x g m k = some (.leaf (vI (ckEnd x (cws (x.words.drop k))), []))
  | 0, k, _, h => by omega
  | m + 1, k, hk, h => by
    rw [st51]
    by_cases hlt : k < x.words.length
    · have hsz : decide ((x.words.getD k w0).text.size ≤ sB) = true := decide_eq_true (wsz hw hlt)
      simp only [lt1 hlt, ge0, tn, Bool.and_self, cond_true, hsz]
      rw [nx hlt (okWs_len hw), lp51 x g hw m (k + 1) (by omega) (by omega), drop_cons x.words w0 hlt]
      show (bif cwd (x.words.getD k w0) != 0 then some (T.leaf (vI (cwd (x.words.getD k w0)), ([] : Hp))) else _) = _
      simp only [cws, ckEnd]
      cases hc : (cwd (x.words.getD k w0) != 0) with
      | true => simp only [cond_true, hc]
      | false => rfl
    · rw [lt0 hlt, List.drop_of_length_le (by omega)]
      unfold ckEnd cws
      cases x.block <;> cases decide ((x.kids.length : Int) > 0) <;> rfl

theorem c51 (x : It) (hw : okWs x.words = true) : CX Try.prog 51 [aT x] [] (vI (ckItem x)) [] := by
  refine cx_of ok51 Try.func51 b51 rfl ((ev51 opn cwd x (x.words.length + 1)).trans ?_)
  have hl := lp51 x (x.words.length + 1) hw (x.words.length + 1) 0 (by omega) (by omega)
  have hl' : L51 opn cwd x (x.words.length + 1) (x.words.length + 1) 0 = _ := hl
  rw [hl']
  unfold ckItem ckEnd
  cases h0 : ((x.words.length : Int) == 0) with
  | true => rfl
  | false =>
    have hne : x.words.length ≠ 0 := fun e => by rw [e] at h0; simp at h0
    have hp : (decide ((0 : Int) ≤ 0) && decide ((0 : Int) < (x.words.length : Int))) = true := by rw [decide_eq_true (show (0 : Int) < (x.words.length : Int) by omega)]; rfl
    rw [hp]
    simp only [cond_false, cond_true, List.drop_zero]
    show (bif !opn (x.words.getD 0 w0) then _ else _) = _
    cases opn (x.words.getD 0 w0) <;> cases decide ((x.words.length : Int) > 40) <;> cases (cws x.words != 0) <;> rfl

theorem ansT_ok {f : FuncId} {ci : It → Int} (hc : ∀ x, okWs x.words = true → CX Try.prog f [aT x] [] (vI (ci x)) []) : ∀ (R : Type) args H (k : AV → Hp → Option (T R)) t, ansT (fun n w b ks => vI (ci (.mk n (theW w) b (theI ks)))) R args H k = some t → ∃ x H', k x H' = some t ∧ CX Try.prog f args H x H' := fun R args H k t h => by
  unfold ansT at h
  split at h
  · rename_i n w b ks
    cases hx : (okW w && okI ks && okWs (theW w) && okL (theI ks)) with
    | false => rw [hx] at h; cases h
    | true =>
      rw [hx] at h
      simp only [Bool.and_eq_true] at hx
      obtain ⟨⟨⟨h1, h2⟩, h3⟩, h4⟩ := hx
      exact ⟨_, _, h, (hc (.mk n (theW w) b (theI ks)) h3).ge (.cons (ct.aT_ge h1 h2) .nil) .nil⟩
  · simp at h

/-- Check, of the program: the error, and what the counter holds -/
def chP : List It → Int → Int → Int × Int
  | [], _, n => (0, n)
  | .mk a w b k :: r, d, n =>
    bif decide (IntKind.wrap IntKind.i64 (n + 1) > 600) then (3, IntKind.wrap IntKind.i64 (n + 1)) else bif decide (d > 4) then (17, IntKind.wrap IntKind.i64 (n + 1)) else
      bif ckItem (.mk a w b k) != 0 then (ckItem (.mk a w b k), IntKind.wrap IntKind.i64 (n + 1)) else
        bif (chP k (IntKind.wrap IntKind.i64 (d + 1)) (IntKind.wrap IntKind.i64 (n + 1))).1 != 0 then chP k (IntKind.wrap IntKind.i64 (d + 1)) (IntKind.wrap IntKind.i64 (n + 1)) else
          chP r d (chP k (IntKind.wrap IntKind.i64 (d + 1)) (IntKind.wrap IntKind.i64 (n + 1))).2
theorem chP_cons (x : It) (r : List It) (d n : Int) : chP (x :: r) d n = bif decide (IntKind.wrap IntKind.i64 (n + 1) > 600) then (3, IntKind.wrap IntKind.i64 (n + 1)) else bif decide (d > 4) then (17, IntKind.wrap IntKind.i64 (n + 1)) else
      bif ckItem x != 0 then (ckItem x, IntKind.wrap IntKind.i64 (n + 1)) else
        bif (chP x.kids (IntKind.wrap IntKind.i64 (d + 1)) (IntKind.wrap IntKind.i64 (n + 1))).1 != 0 then chP x.kids (IntKind.wrap IntKind.i64 (d + 1)) (IntKind.wrap IntKind.i64 (n + 1)) else
          chP r d (chP x.kids (IntKind.wrap IntKind.i64 (d + 1)) (IntKind.wrap IntKind.i64 (n + 1))).2 := by cases x; simp only [chP, It.kids]

noncomputable def cc (N : Nat) (x : D) : Bool := okI x && okL (theI x) && decide (dep (theI x) < N)
noncomputable def ciP (n : Int) (w : D) (b : Bool) (ks : D) : Int := ckItem (.mk n (theW w) b (theI ks))
noncomputable def eP (x : D) (d n : Int) : Int := (chP (theI x) d n).1
noncomputable def nP (x : D) (d n : Int) : Int := (chP (theI x) d n).2

theorem lp36 (N : Nat) (l : List It) (d : Int) (g : Nat) (hN : dep l ≤ N) (hL : okL l = true) : ∀ (m k : Nat) (n : Int), k ≤ l.length → l.length - k < m →
    L36 ciP (cc N) eP nP l d g m n k = some (.leaf (vI (chP (l.drop k) d n).1, H36 (chP (l.drop k) d n).2))
  | 0, k, n, _, h => by omega
  | m + 1, k, n, hk, h => by
    rw [st36]
    by_cases hlt : k < l.length
    · have hd := dep_get l k hlt
      obtain ⟨ho, hw⟩ := okL_get hL hlt
      have hdd : decide (dep (l.getD k i0).kids < N) = true := decide_eq_true (by omega)
      simp only [lt1 hlt, ge0, tn, Bool.and_self, cond_true, cc, eP, nP, ciP, okW_words, theW_words, okI_kids, theI_kids, ho, hw, hdd]
      rw [nx hlt (okL_len hL), lp36 N l d g hN hL m (k + 1) _ (by omega) (by omega), drop_cons l i0 hlt, chP_cons]
      rw [← It.eta (l.getD k i0)]
      cases decide (IntKind.wrap IntKind.i64 (n + 1) > 600) with
      | true => rfl
      | false =>
        cases decide (d > 4) with
        | true => rfl
        | false =>
          cases hc : (ckItem (l.getD k i0) != 0) with
          | true => rfl
          | false =>
            cases he : ((chP (l.getD k i0).kids (IntKind.wrap IntKind.i64 (d + 1)) (IntKind.wrap IntKind.i64 (n + 1))).1 != 0) with
            | true => simp only [cond_false, cond_true]
            | false => rfl
    · rw [lt0 hlt, List.drop_of_length_le (by omega)]
      simp only [cond_false, chP]

theorem ans36_ok {N : Nat} (hc : ∀ (l : List It) (d n : Int), dep l < N → okL l = true → CX Try.prog 36 [aI l, vI d, .c (.ptr 0 0), .c (.ptr 1 0)] (H36 n) (vI (chP l d n).1) (H36 (chP l d n).2)) :
    ∀ (R : Type) args H (k : AV → Hp → Option (T R)) t, ans36 (cc N) eP nP R args H k = some t → ∃ x H', k x H' = some t ∧ CX Try.prog 36 args H x H' := fun R args H k t h => by
  unfold ans36 at h
  split at h
  · rename_i n x d
    cases hx : cc N x with
    | false => rw [hx] at h; cases h
    | true =>
      rw [hx] at h
      unfold cc at hx
      simp only [Bool.and_eq_true, decide_eq_true_eq] at hx
      exact ⟨_, _, h, (hc (theI x) d n hx.2 hx.1.2).ge (.cons (ale_d (theI_de hx.1.1)) (.refl _)) (.refl _)⟩
  · simp at h

theorem c36 : ∀ (N : Nat) (l : List It) (d n : Int), dep l < N → okL l = true → CX Try.prog 36 [aI l, vI d, .c (.ptr 0 0), .c (.ptr 1 0)] (H36 n) (vI (chP l d n).1) (H36 (chP l d n).2)
  | 0, l, d, n, h, _ => by omega
  | N + 1, l, d, n, h, hL => by
    have ho : OrcOk Try.prog (o36 ciP (cc N) eP nP) := Orc.cons_ok (Orc.cons_ok (Orc.nil_ok _) (ans36_ok (c36 N))) (ansT_ok c37)
    refine cx_of ho Try.func36 b36 rfl ((ev36 ciP (cc N) eP nP l d (l.length + 1) n).trans ?_)
    exact lp36 N l d (l.length + 1) (by omega) hL (l.length + 1) 0 n (by omega) (by omega)

def chk (l : List It) : Int := (chP l 0 0).1
theorem c16 (l : List It) (hL : okL l = true) : CX Try.prog 16 [aI l] [] (vI (chk l)) [] := by
  have ho : OrcOk Try.prog (o16 (cc (dep l + 1)) eP nP) := Orc.cons_ok (Orc.nil_ok _) (ans36_ok (c36 (dep l + 1)))
  refine cx_of ho Try.func16 b16 rfl ((ev16 (cc (dep l + 1)) eP nP l).trans ?_)
  simp only [cc, eP, okI_items, theI_items, hL, Bool.true_and]
  rw [decide_eq_true (Nat.lt_succ_self _)]
  rfl

/-- Check, of the reference -/
def chR : List It → Int → Int → Int × Int
  | [], _, n => (0, n)
  | .mk a w b k :: r, d, n =>
    bif decide (n ≥ 600) then (3, n) else bif decide (d > 4) then (17, n) else
      bif ckItem (.mk a w b k) != 0 then (ckItem (.mk a w b k), IntKind.wrap IntKind.i64 (n + 1)) else
        bif (chR k (IntKind.wrap IntKind.i64 (d + 1)) (IntKind.wrap IntKind.i64 (n + 1))).1 != 0 then chR k (IntKind.wrap IntKind.i64 (d + 1)) (IntKind.wrap IntKind.i64 (n + 1)) else
          chR r d (chR k (IntKind.wrap IntKind.i64 (d + 1)) (IntKind.wrap IntKind.i64 (n + 1))).2
theorem chR_cons (x : It) (r : List It) (d n : Int) : chR (x :: r) d n = bif decide (n ≥ 600) then (3, n) else bif decide (d > 4) then (17, n) else
      bif ckItem x != 0 then (ckItem x, IntKind.wrap IntKind.i64 (n + 1)) else
        bif (chR x.kids (IntKind.wrap IntKind.i64 (d + 1)) (IntKind.wrap IntKind.i64 (n + 1))).1 != 0 then chR x.kids (IntKind.wrap IntKind.i64 (d + 1)) (IntKind.wrap IntKind.i64 (n + 1)) else
          chR r d (chR x.kids (IntKind.wrap IntKind.i64 (d + 1)) (IntKind.wrap IntKind.i64 (n + 1))).2 := by cases x; simp only [chR, It.kids]
noncomputable def eR (x : D) (d n : Int) : Int := (chR (theI x) d n).1
noncomputable def nR (x : D) (d n : Int) : Int := (chR (theI x) d n).2

theorem lp38 (N : Nat) (l : List It) (d : Int) (g : Nat) (hN : dep l ≤ N) (hL : okL l = true) : ∀ (m k : Nat) (n : Int), k ≤ l.length → l.length - k < m →
    L38 ciP (cc N) eR nR l d g m n k = some (.leaf (.tup [pI (chR (l.drop k) d n).2, pI (chR (l.drop k) d n).1], []))
  | 0, k, n, _, h => by omega
  | m + 1, k, n, hk, h => by
    rw [st38]
    by_cases hlt : k < l.length
    · have hd := dep_get l k hlt
      obtain ⟨ho, hw⟩ := okL_get hL hlt
      have hdd : decide (dep (l.getD k i0).kids < N) = true := decide_eq_true (by omega)
      simp only [lt1 hlt, ge0, tn, Bool.and_self, cond_true, cc, eR, nR, ciP, okW_words, theW_words, okI_kids, theI_kids, ho, hw, hdd]
      rw [nx hlt (okL_len hL), lp38 N l d g hN hL m (k + 1) _ (by omega) (by omega), drop_cons l i0 hlt, chR_cons]
      rw [← It.eta (l.getD k i0)]
      cases decide (n ≥ 600) with
      | true => rfl
      | false =>
        cases decide (d > 4) with
        | true => rfl
        | false =>
          cases hc : (ckItem (l.getD k i0) != 0) with
          | true => rfl
          | false =>
            cases he : ((chR (l.getD k i0).kids (IntKind.wrap IntKind.i64 (d + 1)) (IntKind.wrap IntKind.i64 (n + 1))).1 != 0) with
            | true => simp only [cond_false, cond_true]
            | false => rfl
    · rw [lt0 hlt, List.drop_of_length_le (by omega)]
      simp only [cond_false, chR]

theorem ans38_ok {N : Nat} (hc : ∀ (l : List It) (d n : Int), dep l < N → okL l = true → CX Try.prog 38 [aI l, vI d, vI n] [] (.tup [pI (chR l d n).2, pI (chR l d n).1]) []) :
    ∀ (R : Type) args H (k : AV → Hp → Option (T R)) t, (match H, args with | [], [.c (.d x), .c (.d (.v (.int .i64 d))), .c (.d (.v (.int .i64 n)))] => bif cc N x then k (.tup [pI (nR x d n), pI (eR x d n)]) [] else none | _, _ => none) = some t → ∃ x H', k x H' = some t ∧ CX Try.prog 38 args H x H' := fun R args H k t h => by
  split at h
  · rename_i x d n
    cases hx : cc N x with
    | false => rw [hx] at h; cases h
    | true =>
      rw [hx] at h
      unfold cc at hx
      simp only [Bool.and_eq_true, decide_eq_true_eq] at hx
      exact ⟨_, _, h, (hc (theI x) d n hx.2 hx.1.2).ge (.cons (ale_d (theI_de hx.1.1)) (.refl _)) (.refl _)⟩
  · simp at h

theorem c38 : ∀ (N : Nat) (l : List It) (d n : Int), dep l < N → okL l = true → CX Try.prog 38 [aI l, vI d, vI n] [] (.tup [pI (chR l d n).2, pI (chR l d n).1]) []
  | 0, l, d, n, h, _ => by omega
  | N + 1, l, d, n, h, hL => by
    have ho : OrcOk Try.prog (o38 ciP (cc N) eR nR) := Orc.cons_ok (Orc.cons_ok (Orc.nil_ok _) (ans38_ok (c38 N))) (ansT_ok c51)
    refine cx_of ho Try.func38 b38 rfl ((ev38 ciP (cc N) eR nR l d (l.length + 1) n).trans ?_)
    exact lp38 N l d (l.length + 1) (by omega) hL (l.length + 1) 0 n (by omega) (by omega)

/-- both come to the same error -/
theorem ch_same (N : Nat) : ∀ (l : List It) (d n : Int), dep l < N → 0 ≤ n → n ≤ 600 → (chP l d n).1 = (chR l d n).1 ∧ ((chP l d n).1 = 0 → (chP l d n).2 = (chR l d n).2 ∧ 0 ≤ (chP l d n).2 ∧ (chP l d n).2 ≤ 600) := by
  induction N with
  | zero => intro l d n h; omega
  | succ N ih =>
    intro l
    induction l with
    | nil => intro d n _ h0 h1; simp only [chP, chR]; exact ⟨trivial, fun _ => ⟨trivial, h0, h1⟩⟩
    | cons x r ihr =>
      intro d n hd h0 h1
      have hdk : dep x.kids < N := by cases x; simp only [dep, It.kids] at hd ⊢; omega
      have hdr : dep r < N + 1 := by cases x; simp only [dep] at hd; omega
      rw [chP_cons, chR_cons]
      have hw : IntKind.wrap IntKind.i64 (n + 1) = n + 1 := wrap_id (by omega) (by omega)
      rw [hw]
      have ht : decide (n + 1 > 600) = decide (n ≥ 600) := by rw [Bool.eq_iff_iff]; simp; omega
      rw [ht]
      cases h6 : decide (n ≥ 600) with
      | true => exact ⟨rfl, fun he => by simp at he⟩
      | false =>
        have hlt : n < 600 := by simpa using h6
        cases decide (d > 4) with
        | true => exact ⟨rfl, fun he => by simp at he⟩
        | false =>
          cases hc : (ckItem x != 0) with
          | true => exact ⟨rfl, fun he => by simp only [cond_false, cond_true] at he; rw [he] at hc; simp at hc⟩
          | false =>
            obtain ⟨k1, k2⟩ := ih x.kids (IntKind.wrap IntKind.i64 (d + 1)) (n + 1) hdk (by omega) (by omega)
            simp only [cond_false]
            rw [← k1]
            cases he : ((chP x.kids (IntKind.wrap IntKind.i64 (d + 1)) (n + 1)).1 != 0) with
            | true => exact ⟨k1, fun h => by simp only [cond_true] at h; rw [h] at he; simp at he⟩
            | false =>
              have h0' : (chP x.kids (IntKind.wrap IntKind.i64 (d + 1)) (n + 1)).1 = 0 := by simpa using he
              obtain ⟨e1, e2, e3⟩ := k2 h0'
              simp only [cond_false]
              rw [← e1]
              exact ihr d _ hdr e2 e3

theorem c18 (l : List It) (hL : okL l = true) : CX Try.prog 18 [aI l] [] (vI (chk l)) [] := by
  have ho : OrcOk Try.prog (o18 (cc (dep l + 1)) eR nR) := Orc.cons_ok (Orc.nil_ok _) (ans38_ok (c38 (dep l + 1)))
  refine cx_of ho Try.func18 b18 rfl ((ev18 (cc (dep l + 1)) eR nR l).trans ?_)
  simp only [cc, eR, okI_items, theI_items, hL, Bool.true_and]
  rw [decide_eq_true (Nat.lt_succ_self _)]
  unfold chk
  rw [(ch_same (dep l + 1) l 0 0 (Nat.lt_succ_self _) (by omega) (by omega)).1]
  rfl

/-- nested more than n deep -/
def deepB : List It → Int → Bool
  | [], _ => false
  | .mk _ _ _ k :: r, n => decide (n < 0) || (deepB k (IntKind.wrap IntKind.i64 (n - 1)) || deepB r n)
theorem deepB_cons (x : It) (r : List It) (n : Int) : deepB (x :: r) n = (decide (n < 0) || (deepB x.kids (IntKind.wrap IntKind.i64 (n - 1)) || deepB r n)) := by cases x; simp only [deepB, It.kids]
theorem lp17 (N : Nat) (l : List It) (n : Int) (g : Nat) (hN : dep l ≤ N) (hL : okL l = true) : ∀ (m k : Nat), k ≤ l.length → l.length - k < m →
    L17 N deepB l n g m k = some (.leaf (vB (deepB (l.drop k) n), []))
  | 0, k, _, h => by omega
  | m + 1, k, hk, h => by
    rw [st17]
    by_cases hlt : k < l.length
    · have hd := dep_get l k hlt
      obtain ⟨ho, hw⟩ := okL_get hL hlt
      have hdd : decide (dep (l.getD k i0).kids < N) = true := decide_eq_true (by omega)
      simp only [lt1 hlt, ge0, tn, Bool.and_self, cond_true, okI_kids, theI_kids, ho, hdd]
      rw [nx hlt (okL_len hL), lp17 N l n g hN hL m (k + 1) (by omega) (by omega), drop_cons l i0 hlt, deepB_cons]
      cases decide (n < 0) <;> cases deepB (l.getD k i0).kids (IntKind.wrap IntKind.i64 (n - 1)) <;> rfl
    · rw [lt0 hlt, List.drop_of_length_le (by omega)]
      simp only [cond_false, deepB]
theorem c17 : ∀ (N : Nat) (l : List It) (n : Int), dep l < N → okL l = true → CX Try.prog 17 [aI l, vI n] [] (vB (deepB l n)) []
  | 0, l, n, h, _ => by omega
  | N + 1, l, n, h, hL => by
    have ho : OrcOk Try.prog (o17 N deepB) := Orc.cons_ok (Orc.nil_ok _) fun R args H k t h => by
      split at h
      · rename_i x n
        cases hx : (okI x && okL (theI x) && decide (dep (theI x) < N)) with
        | false => rw [hx] at h; cases h
        | true =>
          rw [hx] at h
          simp only [Bool.and_eq_true, decide_eq_true_eq] at hx
          exact ⟨_, _, h, (c17 N (theI x) n hx.2 hx.1.2).ge (.cons (ale_d (theI_de hx.1.1)) (.refl _)) (.refl _)⟩
      · simp at h
    refine cx_of ho Try.func17 b17 rfl ((ev17 N deepB l n (l.length + 1)).trans ?_)
    exact lp17 N l n (l.length + 1) (by omega) hL (l.length + 1) 0 (by omega) (by omega)
end Go.Proofs.Ytkmmkdeoamhpfaa.ck
