/-
  Check of the program: bays: contracts. No condition.
-/
import Derived.Test.YtngoglhlhlfknaaGreatSc
import Derived.Test.YtngoglhlhlfknaaGreatSd
namespace Go.Proofs.YtngoglhlhlfknaaGreat.st
open Go.RowKit Go.Eb
set_option maxRecDepth 100000

abbrev lI (e : Int) (H : Hp) : Option (T (AV × Hp)) := some (.leaf (vI e, H))
theorem w1 {k : Nat} (h : k ≤ 9223372036854775807) : IntKind.wrap IntKind.i64 ((k : Int) - 1) = (k : Int) - 1 := wrap_id (by omega) (by omega)
theorem len_lt1 (n : Nat) : decide ((n : Int) < 1) = decide (n < 1) := by rw [decide_eq_decide]; omega
theorem len_gt2 (n : Nat) : decide ((n : Int) > 2) = decide (2 < n) := by rw [decide_eq_decide]; omega
theorem len_ne2 (n : Nat) : ((n : Int) != 2) = (n != 2) := by
  rw [Bool.eq_iff_iff]; simp only [bne_iff_ne]; omega
theorem gt0 (k : Nat) : decide ((k : Int) > 0) = decide (0 < k) := by rw [decide_eq_decide]; omega

section
variable (x : SBay) (s0 : ByteArray) (ka : Nat) (ga : Nat → List D) (kb : Nat) (gb : Nat → List D) (kc : Nat) (gc : Nat → List D) (kd : Nat) (gd : Nat → List D) (mpa : List (Value × Value))
def prevB (l : List SLink) : Nat → Option Int
  | 0 => none
  | k + 1 => some (l.getD k link0).bus
theorem lp55 (hka : ka ≤ 9223372036854775807) (hl : x.links.length ≤ 9223372036854775807) (g : Nat) : ∀ (m k : Nat), k ≤ x.links.length → x.links.length - k < m →
    L55_5 x s0 ka ga kb gb kc gc kd gd mpa g m k = lI (linkErr ka x.kind (prevB x.links k) (x.links.drop k)) (H5 s0 ka ga kb gb kc gc kd gd mpa)
  | 0, k, _, h => by omega
  | m + 1, k, hk, h => by
    rw [st55_5]
    by_cases hlt : k < x.links.length
    · have ih := lp55 hka hl g m (k + 1) (by omega) (by omega)
      rw [drop_at' (d := link0) hlt]
      simp only [lt1 hlt, ge0, tn, Bool.and_self, cond_true, nx hlt (by omega), ih, w1 hka, linkErr, within]
      cases k with
      | zero =>
        simp only [prevB, List.getD_cons_zero]
        generalize decide ((x.links.getD 0 link0).bus ≥ 0) = b1
        generalize decide ((x.links.getD 0 link0).bus ≤ (ka : Int) - 1) = b2
        generalize ((x.links.getD 0 link0).pos != 1) = b3
        generalize ((x.links.getD 0 link0).pos != 0) = b4
        generalize (x.kind == 3) = b5
        cases b1 <;> cases b2 <;> cases b3 <;> cases b4 <;> cases b5 <;> rfl
      | succ k =>
        have e1 : IntKind.wrap IntKind.i64 (((k + 1 : Nat) : Int) - 1) = (k : Int) := by rw [wrap_id (by omega) (by omega)]; omega
        have e2 : decide (((k + 1 : Nat) : Int) > 0) = true := by rw [gt0]; simp
        have e3 : decide ((k : Int) < (x.links.length : Int)) = true := lt1 (by omega)
        have e4 : (some (x.links.getD k link0).bus == some (x.links.getD (k + 1) link0).bus) = ((x.links.getD k link0).bus == (x.links.getD (k + 1) link0).bus) := rfl
        simp only [prevB, e1, e2, e3, e4, ge0, tn, Bool.and_self, cond_true]
        generalize decide ((x.links.getD (k + 1) link0).bus ≥ 0) = b1
        generalize decide ((x.links.getD (k + 1) link0).bus ≤ (ka : Int) - 1) = b2
        generalize ((x.links.getD (k + 1) link0).pos != 1) = b3
        generalize ((x.links.getD (k + 1) link0).pos != 0) = b4
        generalize (x.kind == 3) = b5
        generalize ((x.links.getD k link0).bus == (x.links.getD (k + 1) link0).bus) = b6
        cases b1 <;> cases b2 <;> cases b3 <;> cases b4 <;> cases b5 <;> cases b6 <;> rfl
    · rw [lt0 hlt, List.drop_of_length_le (by omega)]
      rfl
theorem c55 (hka : ka ≤ 9223372036854775807) (hl : x.links.length ≤ 9223372036854775807) : CX Tryz.prog 104 [.c (.ptr 0 0), aBay x] (H5 s0 ka ga kb gb kc gc kd gd mpa) (vI (linksErr ka x)) (H5 s0 ka ga kb gb kc gc kd gd mpa) := by
  obtain ⟨g, hg⟩ : ∃ g, x.links.length < g := ⟨x.links.length + 1, by omega⟩
  refine cx_of (sWi.ok) Tryz.func104 b55 rfl ((ev55 x s0 ka ga kb gb kc gc kd gd mpa g).trans ?_)
  have := lp55 x s0 ka ga kb gb kc gc kd gd mpa hka hl g g 0 (by omega) (by omega)
  have e0 : L55_5 x s0 ka ga kb gb kc gc kd gd mpa g g 0 = lI (linkErr ka x.kind none x.links) (H5 s0 ka ga kb gb kc gc kd gd mpa) := this
  rw [e0, len_lt1, len_gt2, len_ne2]
  unfold linksErr
  generalize decide (x.links.length < 1) = b1
  generalize decide (2 < x.links.length) = b2
  generalize (x.kind == 3) = b3
  generalize (x.links.length != 2) = b4
  cases b1 <;> cases b2 <;> cases b3 <;> cases b4 <;> rfl
end

theorem s54 : OrcS Tryz.prog o54 := .cons (.inl sWi Tryz.func101 (by kernel_rfl)) sWi
theorem c54 (x : SBay) : CX Tryz.prog 103 [aBay x] [] (vB (rngOk x)) [] := by
  refine cx_of s54.ok Tryz.func103 b54 rfl ((ev54 x 1).trans ?_)
  simp only [fNot, bAnd, neN, Bool.and_true]
  unfold rngOk impOk within
  cases (x.kind == 3) with
  | true =>
    simp only [cond_true]
    cases (x.kind == 1) <;> simp only [cond_true, cond_false, Bool.and_assoc, bAnd]
  | false =>
    simp only [cond_false]
    cases (x.kind == 1) <;> simp only [cond_true, cond_false, Bool.and_assoc, bAnd]

/-- headers and blocks agree, sizes fit -/
def eqs (a : A5) : Bool := Nat.beq a.1.2.1 a.2.1.1 && (Nat.beq a.1.2.2.1 a.2.2.1.1 && (Nat.beq a.1.2.2.2.1 a.2.2.2.1.1 && (Nat.beq a.1.2.2.2.2.1 a.2.2.2.2.1.1 && (Nat.ble a.1.2.1 900 && (Nat.ble a.1.2.2.1 900 && (Nat.ble a.1.2.2.2.1 900 && Nat.ble a.1.2.2.2.2.1 900))))))
theorem enc55 (a : (Unit × RBay × Unit) × A5) (h : eqs a.2 = true) : (d55.enc a).2 = H5 a.2.1.1 a.2.2.1.1 a.2.2.1.2 a.2.2.2.1.1 a.2.2.2.1.2 a.2.2.2.2.1.1 a.2.2.2.2.1.2 a.2.2.2.2.2.1.1 a.2.2.2.2.2.1.2 a.2.2.2.2.2.2.1 ∧ (a.2.2.1.1 ≤ 900 ∧ a.2.2.2.1.1 ≤ 900 ∧ a.2.2.2.2.1.1 ≤ 900 ∧ a.2.2.2.2.2.1.1 ≤ 900) := by
  unfold eqs at h
  simp only [Bool.and_eq_true] at h
  obtain ⟨h1, h2, h3, h4, h5, h6, h7, h8⟩ := h
  have e1 := Nat.eq_of_beq_eq_true h1
  have e2 := Nat.eq_of_beq_eq_true h2
  have e3 := Nat.eq_of_beq_eq_true h3
  have e4 := Nat.eq_of_beq_eq_true h4
  have g5 := Nat.le_of_ble_eq_true h5
  have g6 := Nat.le_of_ble_eq_true h6
  have g7 := Nat.le_of_ble_eq_true h7
  have g8 := Nat.le_of_ble_eq_true h8
  refine ⟨?_, by omega, by omega, by omega, by omega⟩
  show [(0, Blk.cells [.d (dS a.2.1.1), .row 1 1 a.2.1.2.1, .row 2 5 a.2.1.2.2.1, .row 3 6 a.2.1.2.2.2.1, .row 4 12 a.2.1.2.2.2.2.1, .mp 5] 157), (1, .row a.2.2.1.1 a.2.2.1.2 1 9), (2, .row a.2.2.2.1.1 a.2.2.2.1.2 5 71), (3, .row a.2.2.2.2.1.1 a.2.2.2.2.1.2 6 74), (4, .row a.2.2.2.2.2.1.1 a.2.2.2.2.2.1.2 12 66), (5, .map 0 a.2.2.2.2.2.2.1)] = _
  rw [e1, e2, e3, e4]

noncomputable def ok33 (a : (Unit × RBay × Unit) × A5) : Bool := okRB a.1.2.1 && eqs a.2
noncomputable def lk33 (a : (Unit × RBay × Unit) × A5) : Int := linksErr a.2.2.1.1 (rbay a.1.2.1)
theorem okRB_len {x : RBay} (h : okRB x = true) : (rbay x).links.length ≤ 9223372036854775807 := by
  unfold okRB okLk at h
  simp only [Bool.and_eq_true, decide_eq_true_eq] at h
  exact h.2
theorem s33 : OrcS Tryz.prog (o33 nameOk okRB (fun a => rngOk (rbay a)) ok33 lk33) := by
  refine .cons (.d fun a ha => ?_) (.cons (.d fun a ha => ?_) sIm)
  · unfold ok33 at ha
    simp only [Bool.and_eq_true] at ha
    obtain ⟨e, h1, _⟩ := enc55 a ha.2
    rw [e]
    exact (c55 (rbay a.1.2.1) _ _ _ _ _ _ _ _ _ _ (by omega) (okRB_len ha.1)).ge (.cons (.refl _) (.cons (bay_le _ ha.1) .nil)) (.refl _)
  · exact (c54 (rbay a.1.1)).ge (.cons (bay_le _ ha) .nil) (.refl _)

section
variable (x : SBay) (s0 : ByteArray) (ka : Nat) (ga : Nat → List D) (kb : Nat) (gb : Nat → List D) (kc : Nat) (gc : Nat → List D) (bs : List SBay) (mpa : List (Value × Value))
abbrev cnB (bs : List SBay) : Nat → List D := fun i => bayC (bs.getD i bay0)
def H33 : Hp := [(0, .cells [.d (dS s0), .row 1 1 ka, .row 2 5 kb, .row 3 6 kc, .row 6 12 (bs.length + 1), .mp 5] 157), (1, .row ka ga 1 9), (2, .row kb gb 5 71), (3, .row kc gc 6 74), (4, .dead), (5, .map 0 ((.string x.name, .bool true) :: mpa)), (6, .row (bs.length + 1) (appF bs.length (cnB bs) (chunk (bayC x) 12)) 12 66)]
def aft33 : Option (T (AV × Hp)) := bif linksErr ka x != 0 then lI (linksErr ka x) (H5 s0 ka ga kb gb kc gc bs.length (cnB bs) mpa) else lI 0 (H33 x s0 ka ga kb gb kc gc bs mpa)
theorem lp33 (hka : ka ≤ 900) (hkb : kb ≤ 900) (hkc : kc ≤ 900) (hbs : bs.length ≤ 900) (hl : x.links.length ≤ 9223372036854775807) (g : Nat) : ∀ (m k : Nat), k ≤ bs.length → bs.length - k < m →
    L33_18 nameOk okRB (fun a => rngOk (rbay a)) ok33 lk33 x s0 ka ga kb gb kc gc bs mpa g m k = bif (bs.drop k).any (clash x) then lI 12 (H5 s0 ka ga kb gb kc gc bs.length (cnB bs) mpa) else aft33 x s0 ka ga kb gb kc gc bs mpa
  | 0, k, _, h => by omega
  | m + 1, k, hk, h => by
    rw [st33_18]
    by_cases hlt : k < bs.length
    · have ih := lp33 hka hkb hkc hbs hl g m (k + 1) (by omega) (by omega)
      rw [drop_at' (d := bay0) hlt]
      simp only [lt1 hlt, ge0, tn, Bool.and_self, cond_true, nx hlt (by omega), ih, List.any_cons, clash]
      generalize (x.kind != 3) = b1
      generalize (x.kind == (bs.getD k bay0).kind) = b2
      generalize (x.off == (bs.getD k bay0).off) = b3
      generalize (x.fin == (bs.getD k bay0).fin) = b4
      cases b1 <;> cases b2 <;> cases b3 <;> cases b4 <;> rfl
    · rw [lt0 hlt, List.drop_of_length_le (by omega)]
      have hok : ok33 (((), bayR x, ()), (s0, ka, kb, kc, bs.length, (), ()), (ka, ga), (kb, gb), (kc, gc), (bs.length, cnB bs), mpa, ()) = true := by
        unfold ok33
        have e1 : okRB (bayR x) = true := okLk_links hl
        have e2 : eqs ((s0, ka, kb, kc, bs.length, (), ()), (ka, ga), (kb, gb), (kc, gc), (bs.length, cnB bs), mpa, ()) = true := by
          unfold eqs
          simp only [Nat.beq_refl, Bool.true_and, bleD, decide_eq_true hka, decide_eq_true hkb, decide_eq_true hkc, decide_eq_true hbs]
        simp only [e1, e2, Bool.and_self]
      have hlk : lk33 (((), bayR x, ()), (s0, ka, kb, kc, bs.length, (), ()), (ka, ga), (kb, gb), (kc, gc), (bs.length, cnB bs), mpa, ()) = linksErr ka x := by
        unfold lk33
        simp only [rbay_bayR]
      simp only [cond_false, List.any_nil]
      show (bif ok33 (((), bayR x, ()), (s0, ka, kb, kc, bs.length, (), ()), (ka, ga), (kb, gb), (kc, gc), (bs.length, cnB bs), mpa, ()) then (bif lk33 (((), bayR x, ()), (s0, ka, kb, kc, bs.length, (), ()), (ka, ga), (kb, gb), (kc, gc), (bs.length, cnB bs), mpa, ()) != 0 then
        lI (lk33 (((), bayR x, ()), (s0, ka, kb, kc, bs.length, (), ()), (ka, ga), (kb, gb), (kc, gc), (bs.length, cnB bs), mpa, ())) (H5 s0 ka ga kb gb kc gc bs.length (cnB bs) mpa) else
        (bif decide ((bs.length + 1) * 120 ≤ 140737488355328) && decide (bs.length + 1 ≤ 9223372036854775807) then lI 0 (H33 x s0 ka ga kb gb kc gc bs mpa) else none)) else none) = _
      rw [hok, hlk, appOk (k := bs.length) (b := 120) (by omega) (by omega)]
      unfold aft33
      cases (linksErr ka x != 0) <;> rfl

def r33 : Option (T (AV × Hp)) := bif bayErrD ka kb kc (boolOf (assoc mpa (.string x.name))) bs x != 0 then lI (bayErrD ka kb kc (boolOf (assoc mpa (.string x.name))) bs x) (H5 s0 ka ga kb gb kc gc bs.length (cnB bs) mpa) else lI 0 (H33 x s0 ka ga kb gb kc gc bs mpa)
theorem e33 (hka : ka ≤ 900) (hkb : kb ≤ 900) (hkc : kc ≤ 900) (hbs : bs.length ≤ 900) (hl : x.links.length ≤ 9223372036854775807) (g : Nat) (hg : bs.length < g) :
    callC Tryz.prog (o33 nameOk okRB (fun a => rngOk (rbay a)) ok33 lk33) ann33 g Tryz.f59 (bodyOf Tryz.f59) [.c (.ptr 0 0), aBay x] (H5 s0 ka ga kb gb kc gc bs.length (cnB bs) mpa) = r33 x s0 ka ga kb gb kc gc bs mpa := by
  refine (ev33 nameOk okRB (fun a => rngOk (rbay a)) ok33 lk33 x s0 ka ga kb gb kc gc bs mpa g).trans ?_
  have hL := lp33 x s0 ka ga kb gb kc gc bs mpa hka hkb hkc hbs hl g g 0 (by omega) (by omega)
  have hL0 : L33_18 nameOk okRB (fun a => rngOk (rbay a)) ok33 lk33 x s0 ka ga kb gb kc gc bs mpa g g 0 = bif bs.any (clash x) then lI 12 (H5 s0 ka ga kb gb kc gc bs.length (cnB bs) mpa) else aft33 x s0 ka ga kb gb kc gc bs mpa := hL
  have e1 : okRB (bayR x) = true := okLk_links hl
  have e2 : rngOk (rbay (bayR x)) = rngOk x := by rw [rbay_bayR]
  have e1' : okRB (x.name, x.kind, x.off, x.fin, x.zr, x.zx, linksD x.links, x.closed, x.ct, x.vt, x.sat, x.travel, ()) = true := e1
  have e2' : rngOk (rbay (x.name, x.kind, x.off, x.fin, x.zr, x.zx, linksD x.links, x.closed, x.ct, x.vt, x.sat, x.travel, ())) = rngOk x := e2
  have w0 : IntKind.wrap IntKind.i64 ((1 : Int) - 1) = (1 : Int) - 1 := by decide
  rw [hL0]
  simp only [e1', e2', w1 (show kb ≤ 9223372036854775807 by omega), w1 (show kc ≤ 9223372036854775807 by omega), w0, cond_true]
  unfold r33 bayErrD cntOf within aft33
  cases nameOk x.name with
  | false => rfl
  | true =>
    cases boolOf (assoc mpa (Value.string x.name)) with
    | true => rfl
    | false =>
      cases (x.kind == 1) with
      | true =>
        simp only [cond_true, cond_false, Bool.not_true]
        generalize decide (x.off ≥ 0) = b1
        generalize decide (x.off ≤ (kb : Int) - 1) = b2
        cases b1 <;> cases b2 <;> first | rfl | (cases rngOk x <;> first | rfl | (cases bs.any (clash x) <;> rfl))
      | false =>
        cases (x.kind == 2) with
        | true =>
          simp only [cond_true, cond_false, Bool.not_true]
          generalize decide (x.off ≥ 0) = b1
          generalize decide (x.off ≤ (kc : Int) - 1) = b2
          cases b1 <;> cases b2 <;> first | rfl | (cases rngOk x <;> first | rfl | (cases bs.any (clash x) <;> rfl))
        | false =>
          cases (x.kind == 3) with
          | true =>
            simp only [cond_true, cond_false, Bool.not_true]
            generalize decide (x.off ≥ 0) = b1
            generalize decide (x.off ≤ (1 : Int) - 1) = b2
            cases b1 <;> cases b2 <;> first | rfl | (cases rngOk x <;> first | rfl | (cases bs.any (clash x) <;> rfl))
          | false => rfl
end
end Go.Proofs.YtngoglhlhlfknaaGreat.st
