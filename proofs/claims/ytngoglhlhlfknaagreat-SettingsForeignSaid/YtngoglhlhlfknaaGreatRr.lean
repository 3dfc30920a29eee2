/-
  SettingsForeign: a relay with another setting in a list of relays. No condition.
-/
import Derived.Test.YtngoglhlhlfknaaGreatRk
import Derived.Test.YtngoglhlhlfknaaGreatRp
import Derived.Test.YtngoglhlhlfknaaGreatRq
namespace Go.Proofs.YtngoglhlhlfknaaGreat.se
open Go.RowKit Go.Eb Go.Proofs.YtngoglhlhlfknaaGreat.st
set_option maxRecDepth 100000

/-! the settings given -/
def m0 (r : SRel) : SRel := { r with shots := 1, dead := 1, reclaim := 1 }
def m1 (r : SRel) : SRel := { r with uon := true, upk := 1, udl := 0 }
def m2 (r : SRel) : SRel := { r with fon := true, fpk := 1, fdl := 1 }
def m3 (r : SRel) : SRel := { r with diff := 1, num := 1, den := 1 }
def arD (l : List SRel) (k : Int) (cs : List D) : D := .sl 53 (0 + l.length) fun j => bif Nat.beq j k.toNat then splice (appF 0 (chunk [] (52 + 1)) (fun i => relC (l.getD i rel0)) j) 0 cs else appF 0 (chunk [] (52 + 1)) (fun i => relC (l.getD i rel0)) j
abbrev arX (s : SSta) (l : List SRel) (k : Int) (cs : List D) : List AV := [aSta s, .c (.d (arD l k cs))]
def foT (Z : KFo) (s : SSta) (l : List SRel) (k : Int) (cs : List D) (f : Bool) : Option (T (AV × Hp)) :=
  bif Z.okc (arX s l k cs) then (bif !f then (bif Z.ci (arX s l k cs) == 0 then lB (Z.ce (arX s l k cs) == 0) else lB false) else (bif Z.ci (arX s l k cs) == k then lB (Z.ce (arX s l k cs) == 12) else lB false)) else none
set_option maxRecDepth 100000 in
theorem stF (Z : KFo) (s : SSta) (l : List SRel) (p q : Int) (g m : Nat) (i j : Int) : Lfo_12 Z s l p q g (m + 1) i j =
    bif decide ((0 + l.length) * 472 ≤ 140737488355328) && decide (0 + l.length ≤ 9223372036854775807) then (bif decide (0 ≤ i) && decide (i < ((0 + l.length : Nat) : Int)) then
      (bif j == 0 then (bif decide (0 ≤ i) && decide (i < ((0 + l.length : Nat) : Int)) then foT Z s l i (relC (m0 (l.getD (i.toNat - 0) rel0))) ((l.getD (i.toNat - 0) rel0).kind != 1) else none)
      else (bif j == 1 then (bif decide (0 ≤ i) && decide (i < ((0 + l.length : Nat) : Int)) then foT Z s l i (relC (m1 (l.getD (i.toNat - 0) rel0))) ((l.getD (i.toNat - 0) rel0).kind != 2) else none)
      else (bif j == 2 then (bif decide (0 ≤ i) && decide (i < ((0 + l.length : Nat) : Int)) then foT Z s l i (relC (m2 (l.getD (i.toNat - 0) rel0))) ((l.getD (i.toNat - 0) rel0).kind == 4) else none)
      else (bif decide (0 ≤ i) && decide (i < ((0 + l.length : Nat) : Int)) then foT Z s l i (relC (m3 (l.getD (i.toNat - 0) rel0))) ((l.getD (i.toNat - 0) rel0).kind != 4) else none)))) else none) else none :=
  (stfo_12 Z s l p q g m i j).trans (by kernel_rfl)

/-! one relay in a list -/
theorem splice_rel (x y : SRel) : splice (relC x) 0 (relC y) = relC y := by cases x; cases y; rfl
theorem ar_ok (l : List SRel) (k : Nat) (hk : k < l.length) (y : SRel) : DE (arD l k (relC y)) (relsD (l.set k y)) ∧ DE (relsD (l.set k y)) (arD l k (relC y)) := by
  have e : 0 + l.length = (l.set k y).length := by simp
  have a0 : ∀ j, appF 0 (chunk [] (52 + 1)) (fun i => relC (l.getD i rel0)) j = relC (l.getD j rel0) := fun j => by
    unfold appF; rw [bltD]; simp
  have f : ∀ i, i < (l.set k y).length → (bif Nat.beq i (k : Int).toNat then splice (appF 0 (chunk [] (52 + 1)) (fun i => relC (l.getD i rel0)) i) 0 (relC y) else appF 0 (chunk [] (52 + 1)) (fun i => relC (l.getD i rel0)) i) = relC ((l.set k y).getD i rel0) := fun i hi => by
    rw [a0, beqD, tn, splice_rel]
    have hi' : i < l.length := by simpa using hi
    by_cases h : i = k
    · subst h
      rw [decide_eq_true rfl]
      simp [List.getD, hi']
    · rw [decide_eq_false h]
      have : ¬ k = i := fun x => h x.symm
      simp [List.getD, hi', this]
  unfold arD
  rw [e]
  exact ⟨.sl_eq f, .sl_eq fun i hi => (f i hi).symm⟩

/-! errors -/
theorem chk_zero (bays : List SBay) : ∀ (l : List SRel) (N : List ByteArray) (B : List Int) (i : Nat), (chkRels bays N B i l).2 = 0 → chkRels bays N B i l = (0, 0)
  | [], _, _, _, _ => rfl
  | r :: t, N, B, i, h => by
    simp only [chkRels] at h ⊢
    cases hz : (addErr bays N B r != 0) with
    | true =>
      rw [hz] at h
      simp only [cond_true] at h
      rw [h] at hz
      cases hz
    | false =>
      rw [hz] at h
      simp only [cond_false] at h ⊢
      exact chk_zero bays t _ _ _ h
theorem chk_set (bays : List SBay) (y : SRel) (e : Int) : ∀ (l : List SRel) (N : List ByteArray) (B : List Int) (i k : Nat), k < l.length → (chkRels bays N B i l).2 = 0 → y.name = (l.getD k rel0).name → y.bay = (l.getD k rel0).bay →
    (∀ N B, addErr bays N B (l.getD k rel0) = 0 → addErr bays N B y = e) → chkRels bays N B i (l.set k y) = if e = 0 then (0, 0) else (((i + k : Nat) : Int), e)
  | [], _, _, _, k, hk, _, _, _, _ => by simp at hk
  | r :: t, N, B, i, 0, hk, h, hn, hb, ha => by
    simp only [List.getD_cons_zero] at hn hb ha
    simp only [chkRels] at h
    cases hz : (addErr bays N B r != 0) with
    | true =>
      rw [hz] at h
      simp only [cond_true] at h
      rw [h] at hz
      cases hz
    | false =>
      rw [hz] at h
      simp only [cond_false] at h
      have h0 : addErr bays N B r = 0 := by simpa using hz
      simp only [List.set_cons_zero, chkRels, ha N B h0, hn, hb]
      by_cases he : e = 0
      · subst he
        simp only [if_true]
        exact chk_zero bays t _ _ _ h
      · have : (e != 0) = true := by simpa using he
        rw [this, if_neg he]
        rfl
  | r :: t, N, B, i, k + 1, hk, h, hn, hb, ha => by
    simp only [List.getD_cons_succ] at hn hb ha
    simp only [chkRels] at h
    cases hz : (addErr bays N B r != 0) with
    | true =>
      rw [hz] at h
      simp only [cond_true] at h
      rw [h] at hz
      cases hz
    | false =>
      rw [hz] at h
      simp only [cond_false] at h
      simp only [List.set_cons_succ, chkRels, hz, cond_false]
      rw [chk_set bays y e t _ _ (i + 1) k (by simpa using hk) h hn hb ha, show i + 1 + k = i + (k + 1) by omega]
theorem rest_zero {r : SRel} (h : restErr r = 0) : usedOk r = true ∧ ev79_v r = true ∧ nSch r = true ∧ nWait r = true ∧ nInv r = true ∧ nEl r = true ∧ nRec r = true ∧ nDif r = true ∧ ev83_v r = true ∧ countsOk r = true ∧ eLists r = 0 := by
  unfold restErr at h
  rw [used_eq, e80, e81, e82] at h
  cases h1 : usedOk r <;> rw [h1] at h
  · simp at h
  cases h2 : ev79_v r <;> rw [h2] at h
  · simp at h
  cases h3 : nSch r <;> rw [h3] at h
  · simp at h
  cases h4 : nWait r <;> rw [h4] at h
  · simp at h
  cases h5 : nInv r <;> rw [h5] at h
  · simp at h
  cases h6 : nEl r <;> rw [h6] at h
  · simp at h
  cases h7 : nRec r <;> rw [h7] at h
  · simp at h
  cases h8 : nDif r <;> rw [h8] at h
  · simp at h
  cases h9 : ev83_v r <;> rw [h9] at h
  · simp at h
  cases h10 : countsOk r <;> rw [h10] at h
  · simp at h
  exact ⟨rfl, rfl, rfl, rfl, rfl, rfl, rfl, rfl, rfl, rfl, by simpa using h⟩
theorem rest_of {r : SRel} (h1 : usedOk r = true) (h2 : ev79_v r = true) (h3 : nSch r = true) (h4 : nWait r = true) (h5 : nInv r = true) (h6 : nEl r = true) (h7 : nRec r = true) (h8 : nDif r = true) (h9 : ev83_v r = true) (h10 : countsOk r = true) (h11 : eLists r = 0) : restErr r = 0 := by
  unfold restErr
  rw [used_eq, e80, e81, e82, h1, h2, h3, h4, h5, h6, h7, h8, h9, h10, h11]; rfl
theorem rest_used {r : SRel} (h : usedOk r = false) : restErr r = 12 := by
  unfold restErr
  rw [used_eq, h]; rfl
theorem add_of {bays : List SBay} {r y : SRel} {e : Int} (hn : y.name = r.name) (hk : y.kind = r.kind) (hb : y.bay = r.bay) (he : restErr r = 0 → restErr y = e) (N : List ByteArray) (B : List Int) (h : addErr bays N B r = 0) : addErr bays N B y = e := by
  have hp : placeErr bays B y = placeErr bays B r := by unfold placeErr placeK; rw [hk, hb]
  unfold addErr at h ⊢
  rw [hn, hp]
  cases h1 : nameOk r.name <;> rw [h1] at h
  · simp at h
  cases h2 : inB N r.name <;> rw [h2] at h
  · cases h3 : (placeErr bays B r != 0) <;> rw [h3] at h
    · simp only [Bool.not_true, cond_false] at h ⊢
      exact he h
    · simp only [Bool.not_true, cond_false, cond_true] at h
      rw [h] at h3; cases h3
  · simp at h
def fE (f : Bool) : Int := bif f then 12 else 0
theorem r0 (r : SRel) (h : restErr r = 0) : restErr (m0 r) = fE (r.kind != 1) := by
  obtain ⟨h1, h2, h3, h4, h5, h6, h7, h8, h9, h10, h11⟩ := rest_zero h
  cases hk : (r.kind == 1) with
  | true =>
    have e : fE (r.kind != 1) = 0 := by rw [neI, hk]; rfl
    rw [e]
    refine rest_of (r := m0 r) ?_ h2 h3 h4 h5 h6 rfl h8 h9 h10 h11
    have k : ((m0 r).kind == 1) = true := hk
    unfold usedOk at h1 ⊢
    rw [hk] at h1
    rw [k]
    exact h1
  | false =>
    have e : fE (r.kind != 1) = 12 := by rw [neI, hk]; rfl
    rw [e]
    refine rest_used ?_
    have k : ((m0 r).kind == 1) = false := hk
    have z : zLine (m0 r) = false := by
      unfold zLine m0
      have : ((1 : Int) == 0) = false := rfl
      simp only [this, Bool.false_and, Bool.and_false]
    unfold usedOk
    rw [k, z]
    rfl
theorem r1 (r : SRel) (h : restErr r = 0) : restErr (m1 r) = fE (r.kind != 2) := by
  obtain ⟨h1, h2, h3, h4, h5, h6, h7, h8, h9, h10, h11⟩ := rest_zero h
  cases hk : (r.kind == 2) with
  | true =>
    have e : fE (r.kind != 2) = 0 := by rw [neI, hk]; rfl
    rw [e]
    have el : nEl (m1 r) = true := by
      unfold nEl at h6 ⊢
      simp only [Bool.and_eq_true] at h6 ⊢
      exact ⟨h6.1, rfl, h6.2.2.1, h6.2.2.2⟩
    refine rest_of (r := m1 r) ?_ h2 h3 h4 h5 el h7 h8 h9 h10 h11
    have k : ((m1 r).kind == 2) = true := hk
    unfold usedOk at h1 ⊢
    rw [hk] at h1
    rw [k]
    exact h1
  | false =>
    have e : fE (r.kind != 2) = 12 := by rw [neI, hk]; rfl
    rw [e]
    refine rest_used ?_
    have k : ((m1 r).kind == 2) = false := hk
    have z : zSrc (m1 r) = false := by
      unfold zSrc m1
      have : (true == false) = false := rfl
      simp only [this, Bool.false_and]
    unfold usedOk
    rw [k, z]
    simp only [Bool.false_or, Bool.false_and, Bool.and_false]
theorem r2 (r : SRel) (h : restErr r = 0) : restErr (m2 r) = fE (r.kind == 4) := by
  obtain ⟨h1, h2, h3, h4, h5, h6, h7, h8, h9, h10, h11⟩ := rest_zero h
  cases hk : (r.kind == 4) with
  | false =>
    have e : fE false = 0 := rfl
    rw [e]
    have el : nEl (m2 r) = true := by
      unfold nEl at h6 ⊢
      simp only [Bool.and_eq_true] at h6 ⊢
      exact ⟨h6.1, h6.2.1, h6.2.2.1, rfl⟩
    refine rest_of (r := m2 r) ?_ h2 h3 h4 h5 el h7 h8 h9 h10 h11
    have k : ((m2 r).kind == 4) = false := hk
    unfold usedOk at h1 ⊢
    rw [hk] at h1
    rw [k]
    exact h1
  | true =>
    have e : fE true = 12 := rfl
    rw [e]
    refine rest_used ?_
    have k : ((m2 r).kind == 4) = true := hk
    have z : zBus (m2 r) = false := by
      unfold zBus m2
      have : (true == false) = false := rfl
      simp only [this, Bool.false_and, Bool.and_false]
    unfold usedOk
    rw [k, z]
    simp only [cond_true, Bool.and_false]
theorem r3 (r : SRel) (h : restErr r = 0) : restErr (m3 r) = fE (r.kind != 4) := by
  obtain ⟨h1, h2, h3, h4, h5, h6, h7, h8, h9, h10, h11⟩ := rest_zero h
  cases hk : (r.kind == 4) with
  | true =>
    have e : fE (r.kind != 4) = 0 := by rw [neI, hk]; rfl
    rw [e]
    have hd : within r.harm 0 100 = true := by
      unfold nDif at h8
      cases hz : (r.diff == 0) <;> rw [hz] at h8
      · simp only [cond_false, Bool.and_eq_true] at h8; exact h8.2.2.2
      · simp only [cond_true, Bool.and_eq_true, beq_iff_eq] at h8
        rw [h8.2.2]; rfl
    have di : nDif (m3 r) = true := by
      unfold nDif
      have w : within (m3 r).harm 0 100 = true := hd
      rw [w]
      rfl
    refine rest_of (r := m3 r) ?_ h2 h3 h4 h5 h6 h7 di h9 h10 h11
    have k : ((m3 r).kind == 4) = true := hk
    unfold usedOk at h1 ⊢
    rw [hk] at h1
    rw [k]
    exact h1
  | false =>
    have e : fE (r.kind != 4) = 12 := by rw [neI, hk]; rfl
    rw [e]
    refine rest_used ?_
    have k : ((m3 r).kind == 4) = false := hk
    have z : zDif (m3 r) = false := by
      unfold zDif m3
      have : ((1 : Int) == 0) = false := rfl
      simp only [this, Bool.false_and]
    unfold usedOk
    rw [k, z]
    simp only [cond_false, Bool.and_false]
end Go.Proofs.YtngoglhlhlfknaaGreat.se
