/-
  Name, of the program and of the reference: their contracts. No condition.
-/
import Derived.Test.YthmapnolgdpkbaaZNu
import Derived.Test.YthmapnolgdpkbaaSt
namespace Go.Proofs.Ythmapnolgdpkbaa.st
open Go.RowKit Go.Eb

theorem b15 : Try.f15.body = some (bodyOf Try.f15) := by kernel_rfl
theorem b16 : Try.f16.body = some (bodyOf Try.f16) := by kernel_rfl

theorem z0 (k : Nat) : ((k : Int) == 0) = (k == 0) := by cases k <;> rfl
theorem lp15 (s : ByteArray) (g : Nat) (hs : s.size ≤ 12) : ∀ (m k : Nat), k ≤ s.size → s.size - k < m → L15 s g m k = some (.leaf (vB (nmT k (s.data.toList.drop k)), []))
  | 0, k, _, h => by omega
  | m + 1, k, hk, h => by
    rw [st15]
    by_cases hlt : k < s.size
    · have hl : k < s.data.toList.length := by simpa using hlt
      have ih := lp15 s g hs m (k + 1) (by omega) (by omega)
      rw [drop_at' (d := 0) hl]
      simp only [lt1 hlt, ge0, tn, Bool.and_self, cond_true, nx hlt (by omega), ih, nmT, letterB, otherB, ge_iff_le, z0, bne]
      generalize s.data.toList.getD k 0 = c
      generalize nmT (k + 1) (s.data.toList.drop (k + 1)) = t
      generalize decide (65 ≤ (c.toNat : Int)) = a1
      generalize decide ((c.toNat : Int) ≤ 90) = a2
      generalize decide (97 ≤ (c.toNat : Int)) = b1
      generalize decide ((c.toNat : Int) ≤ 122) = b2
      generalize decide (48 ≤ (c.toNat : Int)) = d1
      generalize decide ((c.toNat : Int) ≤ 57) = d2
      generalize ((c.toNat : Int) == 95) = e1
      generalize (k == 0) = z
      cases a1 <;> cases a2 <;> cases b1 <;> cases b2 <;> cases d1 <;> cases d2 <;> cases e1 <;> cases z <;> rfl
    · rw [lt0 hlt, List.drop_of_length_le (by simp; omega)]
      rfl
theorem c15 (s : ByteArray) : CX Try.prog 15 [vS s] [] (vB (nameOk s)) [] := by
  refine cx_of (Orc.nil_ok _) Try.func15 b15 rfl ((ev15 s (s.size + 1)).trans ?_)
  generalize hg : s.size + 1 = g
  unfold nameOk
  cases h0 : ((s.size : Int) == 0) with
  | true => rfl
  | false =>
    cases h1 : decide ((s.size : Int) > 12) with
    | true => rfl
    | false =>
      have hs : s.size ≤ 12 := by simp at h1; omega
      have := lp15 s g hs g 0 (by omega) (by omega)
      simp only [cond_false, Bool.not_false, Bool.true_and]
      exact this

theorem ltn (x y : Int) : decide (x < y) = !decide (y ≤ x) := by
  by_cases h : x < y
  · rw [decide_eq_true h, decide_eq_false (by omega)]; rfl
  · rw [decide_eq_false h, decide_eq_true (by omega)]; rfl
theorem gtn (x y : Int) : decide (x > y) = !decide (x ≤ y) := by
  by_cases h : x > y
  · rw [decide_eq_true h, decide_eq_false (by omega)]; rfl
  · rw [decide_eq_false h, decide_eq_true (by omega)]; rfl
theorem lt1z (n : Nat) : decide ((n : Int) < 1) = ((n : Int) == 0) := by
  by_cases h : n = 0
  · subst h; rfl
  · have h2 : ((n : Int) == 0) = false := beq_eq_false_iff_ne.2 (by omega)
    rw [decide_eq_false (by omega), h2]
theorem lp16 (s : ByteArray) (g : Nat) (hs : s.size ≤ 12) : ∀ (m k : Nat), k ≤ s.size → s.size - k < m → L16 s g m k = some (.leaf (vB (nmT k (s.data.toList.drop k)), []))
  | 0, k, _, h => by omega
  | m + 1, k, hk, h => by
    rw [st16]
    by_cases hlt : k < s.size
    · have hl : k < s.data.toList.length := by simpa using hlt
      have ih := lp16 s g hs m (k + 1) (by omega) (by omega)
      rw [drop_at' (d := 0) hl]
      generalize hc : s.data.toList.getD k 0 = c
      have e48 : decide ((c.toNat : Int) < 48) = !decide (48 ≤ (c.toNat : Int)) := ltn _ _
      have e57 : decide ((c.toNat : Int) > 57) = !decide ((c.toNat : Int) ≤ 57) := gtn _ _
      simp only [lt1 hlt, ge0, tn, hc, Bool.and_self, cond_true, nx hlt (by omega), ih, nmT, letterB, otherB, e48, e57, z0, bne, ge_iff_le]
      generalize nmT (k + 1) (s.data.toList.drop (k + 1)) = t
      generalize decide (65 ≤ (c.toNat : Int)) = a1
      generalize decide ((c.toNat : Int) ≤ 90) = a2
      generalize decide (97 ≤ (c.toNat : Int)) = b1
      generalize decide ((c.toNat : Int) ≤ 122) = b2
      generalize decide (48 ≤ (c.toNat : Int)) = d1
      generalize decide ((c.toNat : Int) ≤ 57) = d2
      generalize ((c.toNat : Int) == 95) = e1
      generalize (k == 0) = z
      cases a1 <;> cases a2 <;> cases b1 <;> cases b2 <;> cases d1 <;> cases d2 <;> cases e1 <;> cases z <;> rfl
    · rw [lt0 hlt, List.drop_of_length_le (by simp; omega)]
      rfl
theorem r16 (s : ByteArray) (g : Nat) (hg : s.size < g) : callA Try.prog Orc.nil ann16 g Try.f16 (bodyOf Try.f16) [vS s] [] = some (.leaf (vB (nameOk s), [])) := by
  rw [ev16, lt1z]
  unfold nameOk
  cases h0 : ((s.size : Int) == 0) with
  | true => rfl
  | false =>
    cases h1 : decide ((s.size : Int) > 12) with
    | true => rfl
    | false =>
      have hs : s.size ≤ 12 := by simp at h1; omega
      have := lp16 s g hs g 0 (by omega) (by omega)
      simp only [cond_false, Bool.not_false, Bool.true_and]
      exact this
theorem c16 (s : ByteArray) : CX Try.prog 16 [vS s] [] (vB (nameOk s)) [] := cx_of (Orc.nil_ok _) Try.func16 b16 rfl (r16 s (s.size + 1) (by omega))

theorem b34 : Try.f34.body = some (bodyOf Try.f34) := by kernel_rfl
def eqS (a b : ByteArray) : Bool := a.toList == b.toList
theorem r34 (l r : List ByteArray) (g : Nat) (hb : l.length ≤ 9223372036854775807) (hg : l.length < g) : callA Try.prog Orc.nil ann34 g Try.f34 (bodyOf Try.f34) [.c (.d (busesD l)), .c (.d (busesD r))] [] = some (.leaf (vB (eqL eqS l r), [])) := by
  rw [ev34]
  exact eq_whole (L := L34 l r g) (eq := eqS) (d := e0) (fun m i => st34 l r g m i) hb hg
theorem c34 (l r : List ByteArray) (hb : l.length ≤ 9223372036854775807) : CX Try.prog 34 [.c (.d (busesD l)), .c (.d (busesD r))] [] (vB (eqL eqS l r)) [] := cx_of (Orc.nil_ok _) Try.func34 b34 rfl (r34 l r (l.length + 1) hb (by omega))

theorem b35 : Try.f35.body = some (bodyOf Try.f35) := by kernel_rfl
def eq35 (a b : SLine) : Bool := a.name.toList == b.name.toList && (a.r1 == b.r1 && (a.x1 == b.x1 && true) && (a.r0 == b.r0 && (a.x0 == b.x0 && true) && true))
theorem r35 (l r : List SLine) (g : Nat) (hb : l.length ≤ 9223372036854775807) (hg : l.length < g) : callA Try.prog Orc.nil ann34 g Try.f35 (bodyOf Try.f35) [.c (.d (linesD l)), .c (.d (linesD r))] [] = some (.leaf (vB (eqL eq35 l r), [])) := by
  rw [ev35]
  exact eq_whole (L := L35 l r g) (eq := eq35) (d := line0) (fun m i => st35 l r g m i) hb hg
theorem c35 (l r : List SLine) (hb : l.length ≤ 9223372036854775807) : CX Try.prog 35 [.c (.d (linesD l)), .c (.d (linesD r))] [] (vB (eqL eq35 l r)) [] := cx_of (Orc.nil_ok _) Try.func35 b35 rfl (r35 l r (l.length + 1) hb (by omega))

theorem b36 : Try.f36.body = some (bodyOf Try.f36) := by kernel_rfl
def eq36 (a b : SSrc) : Bool := a.name.toList == b.name.toList && (a.emf == b.emf && (a.r1 == b.r1 && (a.x1 == b.x1 && true) && (a.r0 == b.r0 && (a.x0 == b.x0 && true) && true)))
theorem r36 (l r : List SSrc) (g : Nat) (hb : l.length ≤ 9223372036854775807) (hg : l.length < g) : callA Try.prog Orc.nil ann34 g Try.f36 (bodyOf Try.f36) [.c (.d (srcsD l)), .c (.d (srcsD r))] [] = some (.leaf (vB (eqL eq36 l r), [])) := by
  rw [ev36]
  exact eq_whole (L := L36 l r g) (eq := eq36) (d := src0) (fun m i => st36 l r g m i) hb hg
theorem c36 (l r : List SSrc) (hb : l.length ≤ 9223372036854775807) : CX Try.prog 36 [.c (.d (srcsD l)), .c (.d (srcsD r))] [] (vB (eqL eq36 l r)) [] := cx_of (Orc.nil_ok _) Try.func36 b36 rfl (r36 l r (l.length + 1) hb (by omega))

theorem b56 : Try.f56.body = some (bodyOf Try.f56) := by kernel_rfl
def eq56 (a b : SLink) : Bool := a.bus == b.bus && (a.pos == b.pos && true)
theorem r56 (l r : List SLink) (g : Nat) (hb : l.length ≤ 9223372036854775807) (hg : l.length < g) : callA Try.prog Orc.nil ann34 g Try.f56 (bodyOf Try.f56) [.c (.d (linksD l)), .c (.d (linksD r))] [] = some (.leaf (vB (eqL eq56 l r), [])) := by
  rw [ev56]
  exact eq_whole (L := L56 l r g) (eq := eq56) (d := link0) (fun m i => st56 l r g m i) hb hg
theorem c56 (l r : List SLink) (hb : l.length ≤ 9223372036854775807) : CX Try.prog 56 [.c (.d (linksD l)), .c (.d (linksD r))] [] (vB (eqL eq56 l r)) [] := cx_of (Orc.nil_ok _) Try.func56 b56 rfl (r56 l r (l.length + 1) hb (by omega))
end Go.Proofs.Ythmapnolgdpkbaa.st
