/-
  Format: the text of statements, plainly; its length where Check is content. No condition.
-/
import Derived.Test.YtkmmkdeoamhpfaaFr
import Derived.Test.YtkmmkdeoamhpfaaCl
namespace Go.Proofs.Ytkmmkdeoamhpfaa.fo
open Go.RowKit Go.Eb
open Go.Proofs.Ytkmmkdeoamhpfaa.wd
open Go.Proofs.Ytkmmkdeoamhpfaa.bu (src)
open Go.Proofs.Ytkmmkdeoamhpfaa.ck (chP chP_cons chk ckItem cws cwd)

abbrev ba (l : List UInt8) : ByteArray := ⟨l.toArray⟩
abbrev sp1 : ByteArray := ByteArray.mk #[32]
abbrev sp2 : ByteArray := ByteArray.mk #[32, 32]
abbrev sc : ByteArray := ByteArray.mk #[59, 10]
abbrev ob : ByteArray := ByteArray.mk #[32, 123, 10]
abbrev cb : ByteArray := ByteArray.mk #[125, 10]

theorem e_app (b : ByteArray) : ByteArray.empty ++ b = b := by simp
theorem app_e (b : ByteArray) : b ++ ByteArray.empty = b := by simp
theorem app_as (a b c : ByteArray) : a ++ b ++ c = a ++ (b ++ c) := by simp [ByteArray.append_assoc]
theorem size_app (a b : ByteArray) : (a ++ b).size = a.size + b.size := ByteArray.size_append

/-- words, with a blank ahead of each (but, perhaps, the first) -/
def wtx : Bool → List Wd → ByteArray
  | _, [] => .empty
  | s, w :: r => (bif s then sp1 else .empty) ++ (src w ++ wtx true r)

/-- statements -/
def fmt (ind : ByteArray) : List It → ByteArray
  | [] => .empty
  | .mk _ w b k :: r => ind ++ (wtx false w ++ ((bif b then ob ++ (fmt (ind ++ sp2) k ++ (ind ++ cb)) else sc) ++ fmt ind r))
/-- behind a statement's words -/
def tl (ind : ByteArray) (x : It) : ByteArray := bif x.block then ob ++ (fmt (ind ++ sp2) x.kids ++ (ind ++ cb)) else sc
theorem fmt_cons (ind : ByteArray) (x : It) (r : List It) : fmt ind (x :: r) = ind ++ (wtx false x.words ++ (tl ind x ++ fmt ind r)) := by
  cases x; simp only [fmt, tl, It.words, It.block, It.kids]
theorem fmt_nil (ind : ByteArray) : fmt ind [] = .empty := by simp only [fmt]

/-- all statements -/
def tot : List It → Nat
  | [] => 0
  | .mk _ _ _ k :: r => 1 + tot k + tot r
theorem tot_cons (x : It) (r : List It) : tot (x :: r) = 1 + tot x.kids + tot r := by cases x; simp only [tot, It.kids]
def sml : List It → Bool
  | [] => true
  | .mk _ w _ k :: r => decide (w.length ≤ 40) && w.all (fun x => decide (x.text.size ≤ 120)) && sml k && sml r
theorem sml_cons (x : It) (r : List It) : sml (x :: r) = (decide (x.words.length ≤ 40) && x.words.all (fun x => decide (x.text.size ≤ 120)) && sml x.kids && sml r) := by cases x; simp only [sml, It.kids, It.words]; rfl
theorem dep_cons (x : It) (r : List It) : dep (x :: r) = max (dep x.kids + 1) (dep r) := by cases x; simp only [dep, It.kids]

theorem cws_sml : ∀ (l : List Wd), cws l = 0 → l.all (fun x => decide (x.text.size ≤ 120)) = true
  | [], _ => rfl
  | w :: r, h => by
    simp only [cws] at h
    cases hc : (cwd w != 0) with
    | true => rw [hc] at h; simp only [cond_true] at h; rw [h] at hc; simp at hc
    | false =>
      rw [hc] at h
      have hw : cwd w = 0 := by simpa using hc
      have ih := cws_sml r h
      simp only [List.all_cons, ih, Bool.and_true]
      unfold cwd at hw
      cases hd : decide ((w.text.size : Int) > 120) with
      | true => rw [hd] at hw; simp at hw
      | false => simp at hd; simp; omega

theorem ckItem_sml (x : It) (h : ckItem x = 0) : x.words.length ≤ 40 ∧ x.words.all (fun x => decide (x.text.size ≤ 120)) = true := by
  unfold ckItem at h
  cases h1 : ((x.words.length : Int) == 0) with
  | true => rw [h1] at h; simp at h
  | false =>
    rw [h1] at h
    cases h2 : (!ck.opn (x.words.getD 0 w0)) with
    | true => rw [h2] at h; simp at h
    | false =>
      rw [h2] at h
      cases h3 : decide ((x.words.length : Int) > 40) with
      | true => rw [h3] at h; simp at h
      | false =>
        rw [h3] at h
        simp only [cond_false] at h
        cases h4 : (cws x.words != 0) with
        | true => rw [h4] at h; simp only [cond_true] at h; rw [h] at h4; simp at h4
        | false => exact ⟨by simp at h3; omega, cws_sml _ (by simpa using h4)⟩

theorem ch_good (N : Nat) : ∀ (l : List It) (d n : Int), dep l < N → 0 ≤ d → d ≤ 5 → 0 ≤ n → n ≤ 600 → (chP l d n).1 = 0 → sml l = true ∧ (chP l d n).2 = n + tot l ∧ n + tot l ≤ 600 ∧ (dep l : Int) + d ≤ 5 := by
  induction N with
  | zero => intro l d n h; omega
  | succ N ih =>
    intro l
    induction l with
    | nil => intro d n _ h0 h1 h2 h3 _; simp only [chP, sml, tot, dep]; exact ⟨trivial, by omega, by omega, by omega⟩
    | cons x r ihr =>
      intro d n hd h0 h1 h2 h3 he
      have hdk : dep x.kids < N := by rw [dep_cons] at hd; omega
      have hdr : dep r < N + 1 := by rw [dep_cons] at hd; omega
      rw [chP_cons] at he ⊢
      have hw : IntKind.wrap IntKind.i64 (n + 1) = n + 1 := wrap_id (by omega) (by omega)
      have hw2 : IntKind.wrap IntKind.i64 (d + 1) = d + 1 := wrap_id (by omega) (by omega)
      rw [hw, hw2] at he ⊢
      cases h6 : decide (n + 1 > 600) with
      | true => rw [h6] at he; simp at he
      | false =>
        rw [h6] at he
        have hlt : n + 1 ≤ 600 := by simpa using h6
        cases h7 : decide (d > 4) with
        | true => rw [h7] at he; simp at he
        | false =>
          rw [h7] at he
          have hd4 : d ≤ 4 := by simpa using h7
          cases hc : (ckItem x != 0) with
          | true => rw [hc] at he; simp only [cond_false, cond_true] at he; rw [he] at hc; simp at hc
          | false =>
            rw [hc] at he
            simp only [cond_false] at he ⊢
            cases hk : ((chP x.kids (d + 1) (n + 1)).1 != 0) with
            | true => rw [hk] at he; simp only [cond_true] at he; rw [he] at hk; simp at hk
            | false =>
              rw [hk] at he
              simp only [cond_false] at he ⊢
              obtain ⟨a1, a2, a3, a4⟩ := ih x.kids (d + 1) (n + 1) hdk (by omega) (by omega) (by omega) hlt (by simpa using hk)
              rw [a2] at he ⊢
              obtain ⟨b1, b2, b3, b4⟩ := ihr d (n + 1 + tot x.kids) hdr h0 h1 (by omega) a3 he
              obtain ⟨c1, c2⟩ := ckItem_sml x (by simpa using hc)
              rw [b2, sml_cons, tot_cons, dep_cons]
              refine ⟨by rw [decide_eq_true c1, c2, a1, b1]; rfl, by omega, by omega, by omega⟩

theorem src_size (w : Wd) (h : w.text.size ≤ 120) : (src w).size ≤ 122 := by
  unfold src
  have e : ByteArray.size (ByteArray.mk #[(34 : UInt8)]) = 1 := rfl
  cases w.q
  · simp only [cond_false]; omega
  · simp only [cond_true, size_app, e]; omega
theorem wtx_size : ∀ (l : List Wd) (s : Bool), l.all (fun x => decide (x.text.size ≤ 120)) = true → (wtx s l).size ≤ l.length * 123
  | [], s, _ => by simp [wtx]
  | w :: r, s, h => by
    simp only [List.all_cons, Bool.and_eq_true, decide_eq_true_eq] at h
    have ih := wtx_size r true h.2
    have h1 := src_size w h.1
    have h2 : (bif s then sp1 else ByteArray.empty).size ≤ 1 := by cases s <;> decide
    simp only [wtx, size_app, List.length_cons]
    omega

theorem fmt_size (N : Nat) : ∀ (l : List It) (ind : ByteArray), dep l < N → sml l = true → ind.size + 2 * dep l ≤ 20 → (fmt ind l).size ≤ tot l * 5000 := by
  induction N with
  | zero => intro l ind h; omega
  | succ N ih =>
    intro l
    induction l with
    | nil => intro ind _ _ _; simp [fmt_nil, tot]
    | cons x r ihr =>
      intro ind hd hs hi
      rw [dep_cons] at hd hi
      rw [sml_cons] at hs
      simp only [Bool.and_eq_true, decide_eq_true_eq] at hs
      obtain ⟨⟨⟨s1, s2⟩, s3⟩, s4⟩ := hs
      have h1 := ihr ind (by omega) s4 (by omega)
      have e2 : (ind ++ sp2).size = ind.size + 2 := by rw [size_app]; rfl
      have h2 := ih x.kids (ind ++ sp2) (by omega) s3 (by rw [e2]; omega)
      have h3 := wtx_size x.words false s2
      have h4 : (tl ind x).size ≤ 3 + (fmt (ind ++ sp2) x.kids).size + ind.size + 2 := by
        unfold tl
        have e3 : ob.size = 3 := rfl
        have e4 : cb.size = 2 := rfl
        have e5 : sc.size = 2 := rfl
        cases x.block
        · simp only [cond_false, e5]; omega
        · simp only [cond_true, size_app, e3, e4]; omega
      rw [fmt_cons, tot_cons]
      simp only [size_app]
      omega

/-- where Check is content the text is short -/
theorem chk_size (l : List It) (h : chk l = 0) : (fmt .empty l).size ≤ 3000000 := by
  obtain ⟨h1, _, h3, h4⟩ := ch_good (dep l + 1) l 0 0 (by omega) (by omega) (by omega) (by omega) (by omega) h
  have := fmt_size (dep l + 1) l .empty (by omega) h1 (by have : ByteArray.empty.size = 0 := rfl; omega)
  omega
theorem chk_dep (l : List It) (h : chk l = 0) : dep l ≤ 5 := by
  obtain ⟨h1, _, h3, h4⟩ := ch_good (dep l + 1) l 0 0 (by omega) (by omega) (by omega) (by omega) (by omega) h
  omega
theorem fmt_pos (ind : ByteArray) (x : It) (r : List It) : 0 < (fmt ind (x :: r)).size := by
  have : 0 < (tl ind x).size := by
    unfold tl
    cases x.block
    · simp only [cond_false]; decide
    · simp only [cond_true, size_app]; have e3 : ob.size = 3 := rfl; omega
  rw [fmt_cons]
  simp only [size_app]
  omega
end Go.Proofs.Ytkmmkdeoamhpfaa.fo
