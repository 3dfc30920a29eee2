/-
  The scanner's law in plain form: what the next token of a text is. No condition.
-/
import Derived.Test.YtkmmkdeoamhpfaaZIt
namespace Go.Eb

abbrev q (c : UInt8) : Int := (c.toNat : Int)
def letterR (r : Int) : Bool := (decide (65 ≤ r) && decide (r ≤ 90)) || (decide (97 ≤ r) && decide (r ≤ 122))
def digitR (r : Int) : Bool := decide (48 ≤ r) && decide (r ≤ 57)
def plainQ (r : Int) : Bool := letterR r || digitR r || r == 95 || r == 45 || r == 43 || r == 46 || r == 47 || r == 58
def qok (c : UInt8) : Bool := !(decide (q c < 32)) && (!(decide (q c > 126)) && !(q c == 34))

/-- white space and comments are passed over (true: in a comment) -/
def skipL : Bool → List UInt8 → Nat → List UInt8 × Nat
  | _, [], l => ([], l)
  | true, c :: r, l => bif q c == 10 then skipL false r (l + 1) else skipL true r l
  | false, c :: r, l => bif q c == 32 then skipL false r l else bif q c == 9 then skipL false r l else bif q c == 10 then skipL false r (l + 1) else
      bif q c == 35 then skipL true r l else (c :: r, l)

inductive Tok where
  | eof
  | err (e : Int)
  | br (c : UInt8)
  | wd (w : List UInt8) (qd : Bool)

def isQ : List UInt8 → Bool
  | c :: _ => q c == 34
  | [] => false
def isQP : List UInt8 → Bool
  | c :: _ => bif q c == 34 then true else plainQ (q c)
  | [] => false
def pl (c : UInt8) : Bool := plainQ (q c)
def plainL (r : List UInt8) : Tok × List UInt8 :=
  bif decide (120 < (r.takeWhile pl).length) then (.err 4, r.dropWhile pl) else bif isQ (r.dropWhile pl) then (.err 6, r.dropWhile pl) else (.wd (r.takeWhile pl) false, r.dropWhile pl)
def quotE (w : List UInt8) : List UInt8 → Tok × List UInt8
  | [] => (.err 6, [])
  | c :: r => bif q c == 34 then (bif decide (120 < w.length) then (.err 4, r) else bif isQP r then (.err 6, r) else (.wd w true, r)) else (.err 5, c :: r)
def quotL (r : List UInt8) : Tok × List UInt8 := quotE (r.takeWhile qok) (r.dropWhile qok)
def tokE : List UInt8 → Tok × List UInt8
  | [] => (.eof, [])
  | c :: r => bif q c == 123 || q c == 125 || q c == 59 then (.br c, r) else bif q c == 34 then quotL r else bif plainQ (q c) then plainL (c :: r) else (.err 5, c :: r)
/-- the next token, the text behind it, the line -/
def tokL (r : List UInt8) (l : Nat) : Tok × List UInt8 × Nat := ((tokE (skipL false r l).1).1, (tokE (skipL false r l).1).2, (skipL false r l).2)

theorem dropWhile_len (p : UInt8 → Bool) : ∀ l : List UInt8, (l.takeWhile p).length + (l.dropWhile p).length = l.length
  | [] => rfl
  | c :: r => by
    cases h : p c with
    | true => simp [h]; have := dropWhile_len p r; omega
    | false => simp [h]

theorem skipL_len : ∀ (b : Bool) (r : List UInt8) (l : Nat), (skipL b r l).1.length ≤ r.length ∧ l ≤ (skipL b r l).2 ∧ (skipL b r l).2 + (skipL b r l).1.length ≤ l + r.length
  | b, [], l => by cases b <;> simp [skipL]
  | true, c :: r, l => by
    simp only [skipL]
    have h1 := skipL_len false r (l + 1)
    have h2 := skipL_len true r l
    cases (q c == 10) <;> simp <;> omega
  | false, c :: r, l => by
    simp only [skipL]
    have h0 := skipL_len false r l
    have h1 := skipL_len false r (l + 1)
    have h2 := skipL_len true r l
    cases (q c == 32) <;> cases (q c == 9) <;> cases (q c == 10) <;> cases (q c == 35) <;> simp <;> omega

theorem quotE_len (w : List UInt8) (r : List UInt8) : (quotE w r).2.length ≤ r.length := by
  cases r with
  | nil => simp [quotE]
  | cons c r =>
    simp only [quotE]
    cases (q c == 34) <;> cases decide (120 < w.length) <;> cases isQP r <;> simp
theorem quotL_len (r : List UInt8) : (quotL r).2.length ≤ r.length := by
  have h1 := quotE_len (r.takeWhile qok) (r.dropWhile qok)
  have h2 := dropWhile_len qok r
  unfold quotL
  omega
theorem plainL_len (r : List UInt8) : (plainL r).2.length ≤ r.length := by
  have h2 := dropWhile_len pl r
  unfold plainL
  cases decide (120 < (r.takeWhile pl).length) <;> cases isQ (r.dropWhile pl) <;> simp <;> omega
/-- a token that is not an error and not the end takes some of the text -/
theorem tokE_len (r : List UInt8) : (tokE r).2.length ≤ r.length ∧ (∀ c, (tokE r).1 = .br c → (tokE r).2.length < r.length) ∧ (∀ w d, (tokE r).1 = .wd w d → (tokE r).2.length < r.length) := by
  cases r with
  | nil => simp [tokE]
  | cons c r =>
    simp only [tokE]
    have h1 := quotL_len r
    cases hb : (q c == 123 || q c == 125 || q c == 59) with
    | true => simp
    | false =>
      cases hq : (q c == 34) with
      | true => simp only [cond_true, cond_false, List.length_cons]; exact ⟨by omega, fun _ _ => by omega, fun _ _ _ => by omega⟩
      | false =>
        cases hp : plainQ (q c) with
        | true =>
          have h2 := dropWhile_len pl (c :: r)
          have h3 : ((c :: r).takeWhile pl).length = (r.takeWhile pl).length + 1 := by simp [pl, hp]
          simp only [cond_true, cond_false]
          have h4 : (plainL (c :: r)).2 = (c :: r).dropWhile pl := by
            unfold plainL
            cases decide (120 < ((c :: r).takeWhile pl).length) <;> cases isQ ((c :: r).dropWhile pl) <;> rfl
          rw [h4]
          simp only [List.length_cons] at h2 ⊢
          exact ⟨by omega, fun _ _ => by omega, fun _ _ _ => by omega⟩
        | false => simp
theorem tokL_len (r : List UInt8) (l : Nat) : (tokL r l).2.1.length ≤ r.length ∧ (∀ c, (tokL r l).1 = .br c → (tokL r l).2.1.length < r.length) ∧ (∀ w d, (tokL r l).1 = .wd w d → (tokL r l).2.1.length < r.length) ∧ (tokL r l).2.2 + (tokL r l).2.1.length ≤ l + r.length ∧ l ≤ (tokL r l).2.2 := by
  obtain ⟨h1, h2, h3⟩ := skipL_len false r l
  obtain ⟨h4, h5, h6⟩ := tokE_len (skipL false r l).1
  unfold tokL
  refine ⟨by simp; omega, fun c h => ?_, fun w d h => ?_, by simp; omega, h2⟩
  · have := h5 c h; simp; omega
  · have := h6 w d h; simp; omega

/-- suffixes -/
theorem skipL_suf : ∀ (b : Bool) (r : List UInt8) (l : Nat), (skipL b r l).1 = r.drop (r.length - (skipL b r l).1.length)
  | b, [], l => by cases b <;> simp [skipL]
  | true, c :: r, l => by
    have go : ∀ (x : List UInt8 × Nat), x.1 = r.drop (r.length - x.1.length) → x.1.length ≤ r.length → x.1 = (c :: r).drop ((c :: r).length - x.1.length) := fun x h hl => by
      have : (c :: r).length - x.1.length = (r.length - x.1.length) + 1 := by simp; omega
      rw [this, List.drop_succ_cons]; exact h
    simp only [skipL]
    cases (q c == 10) with
    | true => exact go _ (skipL_suf false r (l + 1)) (skipL_len _ _ _).1
    | false => exact go _ (skipL_suf true r l) (skipL_len _ _ _).1
  | false, c :: r, l => by
    have go : ∀ (x : List UInt8 × Nat), x.1 = r.drop (r.length - x.1.length) → x.1.length ≤ r.length → x.1 = (c :: r).drop ((c :: r).length - x.1.length) := fun x h hl => by
      have : (c :: r).length - x.1.length = (r.length - x.1.length) + 1 := by simp; omega
      rw [this, List.drop_succ_cons]; exact h
    simp only [skipL]
    cases (q c == 32) with
    | true => exact go _ (skipL_suf false r l) (skipL_len _ _ _).1
    | false =>
      cases (q c == 9) with
      | true => exact go _ (skipL_suf false r l) (skipL_len _ _ _).1
      | false =>
        cases (q c == 10) with
        | true => exact go _ (skipL_suf false r (l + 1)) (skipL_len _ _ _).1
        | false =>
          cases (q c == 35) with
          | true => exact go _ (skipL_suf true r l) (skipL_len _ _ _).1
          | false => simp
end Go.Eb
