/-
  The parser's law in plain form. No condition.
-/
import Derived.Test.YtkmmkdeoamhpfaaZPs
namespace Go.Eb

def opW (w : Wd) : Bool := !w.q && (!(w.text.toList == (ByteArray.mk #[]).toList) && letterR ((w.text.data.toList).getD 0 0).toNat)

/-- the parser: statements begun; the levels, the innermost first; the open blocks; the statement that has begun -/
structure PS where
  count : Nat
  lv : List (List It)
  bl : List (Int × List Wd)
  begun : Bool
  ln : Int
  ws : List Wd

def addL (x : It) : List (List It) → List (List It)
  | k :: r => (k ++ [x]) :: r
  | [] => []
def stepW (p : PS) (w : Wd) (l : Nat) : Int ⊕ PS :=
  bif !p.begun then (bif !opW w then .inl 6 else bif p.count == 600 then .inl 3 else .inr ⟨p.count + 1, p.lv, p.bl, true, l, [w]⟩)
  else bif p.ws.length == 40 then .inl 3 else .inr ⟨p.count, p.lv, p.bl, p.begun, p.ln, p.ws ++ [w]⟩
def closeP (p : PS) : Int ⊕ PS := match p.bl, p.lv with
  | (b, ws) :: bl, k :: lv => .inr ⟨p.count, addL (.mk b ws true k) lv, bl, false, 0, []⟩
  | _, _ => .inl 6
def stepB (p : PS) (c : UInt8) : Int ⊕ PS :=
  bif q c == 59 then (bif !p.begun then .inl 6 else .inr ⟨p.count, addL (.mk p.ln p.ws false []) p.lv, p.bl, false, 0, []⟩)
  else bif q c == 123 then (bif !p.begun then .inl 6 else bif decide (4 < p.bl.length + 1) then .inl 17 else .inr ⟨p.count, [] :: p.lv, (p.ln, p.ws) :: p.bl, false, 0, []⟩)
  else bif p.begun then .inl 6 else closeP p
def stepT (p : PS) (l : Nat) : Tok → Int ⊕ PS
  | .br c => stepB p c
  | .wd w d => stepW p ⟨⟨w.toArray⟩, d⟩ l
  | .err e => .inl e
  | .eof => .inl 0
def endP (p : PS) (l : Nat) : List It × Int × Int := bif p.begun then ([], l, 6) else bif !p.bl.isEmpty then ([], l, 6) else (p.lv.headD [], 0, 0)
/-- what follows a token -/
def goP (k : List UInt8 → Nat → PS → List It × Int × Int) (p : PS) (r : List UInt8) (l : Nat) : Tok → List It × Int × Int
  | .eof => endP p l
  | t => match stepT p l t with
    | .inl e => ([], l, e)
    | .inr p' => k r l p'
def runP : Nat → List UInt8 → Nat → PS → List It × Int × Int
  | 0, _, _, _ => ([], 0, -1)
  | n + 1, r, l, p => goP (runP n) p (tokL r l).2.1 (tokL r l).2.2 (tokL r l).1
def ps0 : PS := ⟨0, [[]], [], false, 0, []⟩
/-- Parse -/
def parseP (s : ByteArray) : List It × Int × Int := bif decide (12000 < s.size) then ([], 0, 4) else runP (s.size + 2) s.data.toList 1 ps0

theorem quotE_suf (w : List UInt8) (r : List UInt8) : (quotE w r).2 <:+ r := by
  cases r with
  | nil => simp [quotE]
  | cons c r =>
    simp only [quotE]
    cases (q c == 34) <;> cases decide (120 < w.length) <;> cases isQP r <;> simp
theorem quotL_suf (r : List UInt8) : (quotL r).2 <:+ r := (quotE_suf _ _).trans (List.dropWhile_suffix _)
theorem plainL_suf (r : List UInt8) : (plainL r).2 <:+ r := by
  have h : (plainL r).2 = r.dropWhile pl := by
    unfold plainL
    cases decide (120 < (r.takeWhile pl).length) <;> cases isQ (r.dropWhile pl) <;> rfl
  rw [h]; exact List.dropWhile_suffix _
theorem tokE_suf (r : List UInt8) : (tokE r).2 <:+ r := by
  cases r with
  | nil => simp [tokE]
  | cons c r =>
    simp only [tokE]
    cases (q c == 123 || q c == 125 || q c == 59) with
    | true => simp
    | false =>
      cases (q c == 34) with
      | true => exact (quotL_suf r).trans (List.suffix_cons c r)
      | false =>
        cases plainQ (q c) with
        | true => exact plainL_suf _
        | false => simp
theorem tokL_suf (r : List UInt8) (l : Nat) : (tokL r l).2.1 = r.drop (r.length - (tokL r l).2.1.length) := by
  have h1 : (skipL false r l).1 <:+ r := by rw [skipL_suf]; exact List.drop_suffix _ _
  have h2 := (tokE_suf (skipL false r l).1).trans h1
  exact List.suffix_iff_eq_drop.1 h2

/-- errors are not zero -/
theorem quotE_err (w : List UInt8) (r : List UInt8) (e : Int) (h : (quotE w r).1 = .err e) : e ≠ 0 := by
  cases r with
  | nil => simp [quotE] at h; subst h; decide
  | cons c r =>
    simp only [quotE] at h
    cases h1 : (q c == 34) <;> cases h2 : decide (120 < w.length) <;> cases h3 : isQP r <;> simp only [h1, h2, h3, cond_true, cond_false, Tok.err.injEq, reduceCtorEq] at h <;> subst h <;> decide
theorem plainL_err (r : List UInt8) (e : Int) (h : (plainL r).1 = .err e) : e ≠ 0 := by
  unfold plainL at h
  cases h1 : decide (120 < (r.takeWhile pl).length) <;> cases h2 : isQ (r.dropWhile pl) <;> simp only [h1, h2, cond_true, cond_false, Tok.err.injEq, reduceCtorEq] at h <;> subst h <;> decide
theorem tokE_err (r : List UInt8) (e : Int) (h : (tokE r).1 = .err e) : e ≠ 0 := by
  cases r with
  | nil => simp [tokE] at h
  | cons c r =>
    simp only [tokE] at h
    cases h1 : (q c == 123 || q c == 125 || q c == 59) with
    | true => simp only [h1, cond_true, reduceCtorEq] at h
    | false =>
      cases h2 : (q c == 34) with
      | true => simp only [h1, h2, cond_true, cond_false] at h; exact quotE_err _ _ e h
      | false =>
        cases h3 : plainQ (q c) with
        | true => simp only [h1, h2, h3, cond_true, cond_false] at h; exact plainL_err _ e h
        | false => simp only [h1, h2, h3, cond_false, Tok.err.injEq] at h; subst h; decide
theorem quotE_br (w : List UInt8) (r : List UInt8) (c : UInt8) (h : (quotE w r).1 = .br c) : False := by
  cases r with
  | nil => simp [quotE] at h
  | cons d r =>
    simp only [quotE] at h
    cases h1 : (q d == 34) <;> cases h2 : decide (120 < w.length) <;> cases h3 : isQP r <;> simp only [h1, h2, h3, cond_true, cond_false, reduceCtorEq] at h
theorem plainL_br (r : List UInt8) (c : UInt8) (h : (plainL r).1 = .br c) : False := by
  unfold plainL at h
  cases h1 : decide (120 < (r.takeWhile pl).length) <;> cases h2 : isQ (r.dropWhile pl) <;> simp only [h1, h2, cond_true, cond_false, reduceCtorEq] at h
theorem tokE_br (r : List UInt8) (c : UInt8) (h : (tokE r).1 = .br c) : (q c == 123 || q c == 125 || q c == 59) = true := by
  cases r with
  | nil => simp [tokE] at h
  | cons d r =>
    simp only [tokE] at h
    cases h1 : (q d == 123 || q d == 125 || q d == 59) with
    | true => simp only [h1, cond_true, Tok.br.injEq] at h; subst h; exact h1
    | false =>
      cases h2 : (q d == 34) with
      | true => simp only [h1, h2, cond_true, cond_false] at h; exact (quotE_br _ _ c h).elim
      | false =>
        cases h3 : plainQ (q d) with
        | true => simp only [h1, h2, h3, cond_true, cond_false] at h; exact (plainL_br _ c h).elim
        | false => simp only [h1, h2, h3, cond_false, reduceCtorEq] at h

/-- rows and lists -/
abbrev FDD := Nat → List D
def RR (n : Nat) (f : FDD) (l : List It) : Prop := n = l.length ∧ ∀ i, i < n → DEs (f i) (icells (l.getD i i0))
def RW (n : Nat) (f : FDD) (l : List Wd) : Prop := n = l.length ∧ ∀ i, i < n → DEs (f i) (wcells (l.getD i w0))
theorem RR.de {n : Nat} {f : FDD} {l : List It} (h : RR n f l) : DE (.sl 4 n f) (itemsD l) := by
  obtain ⟨rfl, h⟩ := h
  exact .sls h
theorem RW.de {n : Nat} {f : FDD} {l : List Wd} (h : RW n f l) : DE (.sl 2 n f) (wordsD l) := by
  obtain ⟨rfl, h⟩ := h
  exact .sls h
theorem RR.nil (f : FDD) : RR 0 f [] := ⟨rfl, fun i hi => by omega⟩
theorem RW.nil (f : FDD) : RW 0 f [] := ⟨rfl, fun i hi => by omega⟩
end Go.Eb
