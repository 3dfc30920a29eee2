/-
  An evaluator of Go code on abstract values, proved sound, and what it computes of the functions that the statement reaches (part 4). No condition.
-/
import Derived.Test.YtmnfibmlhmeheaaGreatDoorQ3
import Derived.Test.YtmnfibmlhmeheaaGreatDoorProg
import Derived.KernelRfl
set_option maxRecDepth 100000
namespace Go.Proofs.YtmnfibmlhmeheaaGreatDoor.en
open Go.RowKit Go.Eb
set_option maxRecDepth 100000
def relK (k : Int) (r : SRel) : SRel := { r with scheme := k }
theorem relK_eq {r : SRel} {k : Int} (e : r.scheme = k) : r = relK k r := by
  cases r
  cases e
  rfl
theorem sch1 (okd : List AV → Bool) (dcd : List AV → ByteArray) (r : SRel) (g m n : Nat) (f : Nat → List D) : Lfun_17 okd dcd (relK 1 r) g (m + 1) n f =
 (bif okd [AV.c (.d (.v (.int .i64 (SRel.wait r))))] then (bif okd [AV.c (.d (.v (.int .i64 (SRel.guard r))))] then (bif decide ((n + 1) * (64 :
 Nat) ≤ 140737488355328) && decide (n + 1 ≤ 9223372036854775807) then Lfun_18 okd dcd (relK 1 r) g g (n + 1) (appF n f (Aaf [D.v (Value.int
 IntKind.i64 (0 : Int)), D.sl (1 + 1) (0 + 1 + 1 + 1 + 1) (Aaf [D.v (.string (⟨#[115, 99, 104, 101, 109,
 101]⟩)), D.v (.bool false), D.v (.string (⟨#[117, 110, 100, 101, 114, 114, 101, 97, 99, 104]⟩)), D.v (.bool false), D.v (.string (dcd [AV.c (C.d (D.v
 (Value.int IntKind.i64 (SRel.wait r))))])), D.v (.bool false), D.v (.string (dcd [AV.c (.d (.v (.int .i64 (SRel.guard r))))])), D.v (.bool false)] ((1 :
 Nat) + 1)), D.v (.bool false), D.v (.slice none 0 0)] (3 + 1))) else none) else none) else none) := by kernel_rfl
theorem sch2 (okd : List AV → Bool) (dcd : List AV → ByteArray) (r : SRel) (g m n : Nat) (f : Nat → List D) : Lfun_17 okd dcd (relK 2 r) g (m + 1) n f =
 (bif okd [AV.c (.d (.v (.int .i64 (SRel.wait r))))] then (bif okd [AV.c (.d (.v (.int .i64 (SRel.guard r))))] then (bif decide ((n + 1) * (64 :
 Nat) ≤ 140737488355328) && decide (n + 1 ≤ 9223372036854775807) then Lfun_18 okd dcd (relK 2 r) g g (n + 1) (appF n f (Aaf [D.v (Value.int
 IntKind.i64 (0 : Int)), D.sl (1 + 1) (0 + 1 + 1 + 1 + 1) (Aaf [D.v (.string (⟨#[115, 99, 104, 101, 109,
 101]⟩)), D.v (.bool false), D.v (.string (⟨#[111, 118, 101, 114, 114, 101, 97, 99, 104]⟩)), D.v (.bool false), D.v (.string (dcd [AV.c (C.d (D.v
 (Value.int IntKind.i64 (SRel.wait r))))])), D.v (.bool false), D.v (.string (dcd [AV.c (.d (.v (.int .i64 (SRel.guard r))))])), D.v (.bool false)] ((1 :
 Nat) + 1)), D.v (.bool false), D.v (.slice none 0 0)] (3 + 1))) else none) else none) else none) := by kernel_rfl
theorem sch3 (okd : List AV → Bool) (dcd : List AV → ByteArray) (r : SRel) (g m n : Nat) (f : Nat → List D) : Lfun_17 okd dcd (relK 3 r) g (m + 1) n f =
 (bif okd [AV.c (.d (.v (.int .i64 (SRel.wait r))))] then (bif okd [AV.c (.d (.v (.int .i64 (SRel.guard r))))] then (bif decide ((n + 1) * (64 :
 Nat) ≤ 140737488355328) && decide (n + 1 ≤ 9223372036854775807) then Lfun_18 okd dcd (relK 3 r) g g (n + 1) (appF n f (Aaf [D.v (Value.int
 IntKind.i64 (0 : Int)), D.sl (1 + 1) (0 + 1 + 1 + 1 + 1) (Aaf [D.v (.string (⟨#[115, 99, 104, 101, 109,
 101]⟩)), D.v (.bool false), D.v (.string (⟨#[98, 108, 111, 99, 107, 105, 110, 103]⟩)), D.v (.bool false), D.v (.string (dcd [AV.c (C.d (D.v (Value.int
 IntKind.i64 (SRel.wait r))))])), D.v (.bool false), D.v (.string (dcd [AV.c (.d (.v (.int .i64 (SRel.guard r))))])), D.v (.bool false)] (1 + (1
 : Nat))), D.v (.bool false), D.v (.slice none 0 0)] (3 + 1))) else none) else none) else none) := by kernel_rfl
theorem sSay : OrcS Tryz.prog (oSay okN' dcN') := .cons (.inl sDn Tryz.func42 (by kernel_rfl)) .nil
section
variable {r : SRel} (h : NFit r) (g : Nat)
include h
theorem funz0 (m n : Nat) (f : Nat → List D) (bef : List It) (hn : n ≤ 4000) (hr : RLe Aag i0 n f bef) :
    ∃ n' f', n' ≤ n + 1 ∧ RLe Aag i0 n' f' (bef ++ encZone 1 r.zon0 r.zfw0 r.zx0 r.zr0 r.zl0 r.zd0) ∧ Lfun_3 okN' dcN' r (g + 1) (m + 1) n f 0 = Lfun_3 okN' dcN' r (g + 1) m n' f' 1 := by
  rw [fz0, show IntKind.wrap IntKind.i64 ((0 : Int) + (1 : Int)) = 1 by decide]
  cases e1 : r.zfw0 with
  | true =>
    rw [cond_true]
    cases e0 : r.zon0 with
    | false =>
      rw [cond_false]
      exact ⟨n, f, by omega, by rw [zone_off, List.append_nil]; exact hr, rfl⟩
    | true =>
      rw [cond_true, okn (show nI 1 = true by decide), cond_true, okn h.zx0, cond_true, okn h.zr0, cond_true, okn h.zl0, cond_true, okn h.zd0, cond_true, appOk5 (by omega), cond_true]
      generalize Lfun_3 okN' dcN' r (g + 1) m = LL
      exact ⟨_, _, Nat.le_refl _, hr.app rfl (Aas [tZone', decI 1, tForward', decI r.zx0, decI r.zr0, decI r.zl0, decI r.zd0]), rfl⟩
  | false =>
    rw [cond_false]
    cases e0 : r.zon0 with
    | false =>
      rw [cond_false]
      exact ⟨n, f, by omega, by rw [zone_off, List.append_nil]; exact hr, rfl⟩
    | true =>
      rw [cond_true, okn (show nI 1 = true by decide), cond_true, okn h.zx0, cond_true, okn h.zr0, cond_true, okn h.zl0, cond_true, okn h.zd0, cond_true, appOk5 (by omega), cond_true]
      generalize Lfun_3 okN' dcN' r (g + 1) m = LL
      exact ⟨_, _, Nat.le_refl _, hr.app rfl (Aas [tZone', decI 1, tReverse', decI r.zx0, decI r.zr0, decI r.zl0, decI r.zd0]), rfl⟩
theorem funz1 (m n : Nat) (f : Nat → List D) (bef : List It) (hn : n ≤ 4000) (hr : RLe Aag i0 n f bef) :
    ∃ n' f', n' ≤ n + 1 ∧ RLe Aag i0 n' f' (bef ++ encZone 2 r.zon1 r.zfw1 r.zx1 r.zr1 r.zl1 r.zd1) ∧ Lfun_3 okN' dcN' r (g + 1) (m + 1) n f 1 = Lfun_3 okN' dcN' r (g + 1) m n' f' 2 := by
  rw [fz1, show IntKind.wrap IntKind.i64 ((1 : Int) + (1 : Int)) = 2 by decide]
  cases e1 : r.zfw1 with
  | true =>
    rw [cond_true]
    cases e0 : r.zon1 with
    | false =>
      rw [cond_false]
      exact ⟨n, f, by omega, by rw [zone_off, List.append_nil]; exact hr, rfl⟩
    | true =>
      rw [cond_true, okn (show nI 2 = true by decide), cond_true, okn h.zx1, cond_true, okn h.zr1, cond_true, okn h.zl1, cond_true, okn h.zd1, cond_true, appOk5 (by omega), cond_true]
      generalize Lfun_3 okN' dcN' r (g + 1) m = LL
      exact ⟨_, _, Nat.le_refl _, hr.app rfl (Aas [tZone', decI 2, tForward', decI r.zx1, decI r.zr1, decI r.zl1, decI r.zd1]), rfl⟩
  | false =>
    rw [cond_false]
    cases e0 : r.zon1 with
    | false =>
      rw [cond_false]
      exact ⟨n, f, by omega, by rw [zone_off, List.append_nil]; exact hr, rfl⟩
    | true =>
      rw [cond_true, okn (show nI 2 = true by decide), cond_true, okn h.zx1, cond_true, okn h.zr1, cond_true, okn h.zl1, cond_true, okn h.zd1, cond_true, appOk5 (by omega), cond_true]
      generalize Lfun_3 okN' dcN' r (g + 1) m = LL
      exact ⟨_, _, Nat.le_refl _, hr.app rfl (Aas [tZone', decI 2, tReverse', decI r.zx1, decI r.zr1, decI r.zl1, decI r.zd1]), rfl⟩
theorem funz2 (m n : Nat) (f : Nat → List D) (bef : List It) (hn : n ≤ 4000) (hr : RLe Aag i0 n f bef) :
    ∃ n' f', n' ≤ n + 1 ∧ RLe Aag i0 n' f' (bef ++ encZone 3 r.zon2 r.zfw2 r.zx2 r.zr2 r.zl2 r.zd2) ∧ Lfun_3 okN' dcN' r (g + 1) (m + 1) n f 2 = Lfun_3 okN' dcN' r (g + 1) m n' f' 3 := by
  rw [fz2, show IntKind.wrap IntKind.i64 ((2 : Int) + (1 : Int)) = 3 by decide]
  cases e1 : r.zfw2 with
  | true =>
    rw [cond_true]
    cases e0 : r.zon2 with
    | false =>
      rw [cond_false]
      exact ⟨n, f, by omega, by rw [zone_off, List.append_nil]; exact hr, rfl⟩
    | true =>
      rw [cond_true, okn (show nI 3 = true by decide), cond_true, okn h.zx2, cond_true, okn h.zr2, cond_true, okn h.zl2, cond_true, okn h.zd2, cond_true, appOk5 (by omega), cond_true]
      generalize Lfun_3 okN' dcN' r (g + 1) m = LL
      exact ⟨_, _, Nat.le_refl _, hr.app rfl (Aas [tZone', decI 3, tForward', decI r.zx2, decI r.zr2, decI r.zl2, decI r.zd2]), rfl⟩
  | false =>
    rw [cond_false]
    cases e0 : r.zon2 with
    | false =>
      rw [cond_false]
      exact ⟨n, f, by omega, by rw [zone_off, List.append_nil]; exact hr, rfl⟩
    | true =>
      rw [cond_true, okn (show nI 3 = true by decide), cond_true, okn h.zx2, cond_true, okn h.zr2, cond_true, okn h.zl2, cond_true, okn h.zd2, cond_true, appOk5 (by omega), cond_true]
      generalize Lfun_3 okN' dcN' r (g + 1) m = LL
      exact ⟨_, _, Nat.le_refl _, hr.app rfl (Aas [tZone', decI 3, tReverse', decI r.zx2, decI r.zr2, decI r.zl2, decI r.zd2]), rfl⟩
theorem fun14 (n : Nat) (f : Nat → List D) (bef : List It) (hn : n ≤ 4000) (hr : RLe Aag i0 n f bef) :
    ∃ n' f', n' ≤ n + 1 ∧ RLe Aag i0 n' f' (bef ++ encIf (r.min != 0) (say [tLoop', decI r.min, decI r.kre, decI r.kim])) ∧ Lfun_14 okN' dcN' r (g + 1) (g + 1) n f = Lfun_16 okN' dcN' r (g + 1) (g + 1) n' f' := by
  rw [stfun_14]
  cases (r.min != 0) with
  | false =>
    rw [cond_false]
    exact ⟨n, f, by omega, by rw [show ∀ x, encIf false x = [] from fun _ => rfl, List.append_nil]; exact hr, rfl⟩
  | true =>
    rw [cond_true, okn h.min, cond_true, okn h.kre, cond_true, okn h.kim, cond_true, appOk5 (by omega), cond_true]
    generalize Lfun_16 okN' dcN' r (g + 1) (g + 1) = LL
    exact ⟨_, _, Nat.le_refl _, hr.app rfl (Aas [tLoop', decI r.min, decI r.kre, decI r.kim]), rfl⟩
theorem fun16 (n : Nat) (f : Nat → List D) (bef : List It) (hn : n ≤ 4000) (hr : RLe Aag i0 n f bef) :
    ∃ n' f', n' ≤ n + 1 ∧ RLe Aag i0 n' f' (bef ++ encIf (r.scheme != 0) (say [tScheme', schemeW r.scheme, decI r.wait, decI r.guard])) ∧ Lfun_16 okN' dcN' r (g + 1) (g + 1) n f = Lfun_18 okN' dcN' r (g + 1) (g + 1) n' f' := by
  rw [stfun_16]
  rcases h.sch with e | e | e | e
  · rw [e, show ((0 : Int) != 0) = false by decide, cond_false]
    exact ⟨n, f, by omega, by rw [show ∀ x, encIf false x = [] from fun _ => rfl, List.append_nil]; exact hr, rfl⟩
  · have st := sch1 okN' dcN' r (g + 1) g n f
    rw [← relK_eq e] at st
    rw [e, show ((1 : Int) != 0) = true by decide, cond_true, st, okn h.wait, cond_true, okn h.guard, cond_true, appOk5 (by omega), cond_true]
    generalize Lfun_18 okN' dcN' r (g + 1) (g + 1) = LL
    exact ⟨_, _, Nat.le_refl _, hr.app rfl (Aas [tScheme', tUnderreach', decI r.wait, decI r.guard]), rfl⟩
  · have st := sch2 okN' dcN' r (g + 1) g n f
    rw [← relK_eq e] at st
    rw [e, show ((2 : Int) != 0) = true by decide, cond_true, st, okn h.wait, cond_true, okn h.guard, cond_true, appOk5 (by omega), cond_true]
    generalize Lfun_18 okN' dcN' r (g + 1) (g + 1) = LL
    exact ⟨_, _, Nat.le_refl _, hr.app rfl (Aas [tScheme', tOverreach', decI r.wait, decI r.guard]), rfl⟩
  · have st := sch3 okN' dcN' r (g + 1) g n f
    rw [← relK_eq e] at st
    rw [e, show ((3 : Int) != 0) = true by decide, cond_true, st, okn h.wait, cond_true, okn h.guard, cond_true, appOk5 (by omega), cond_true]
    generalize Lfun_18 okN' dcN' r (g + 1) (g + 1) = LL
    exact ⟨_, _, Nat.le_refl _, hr.app rfl (Aas [tScheme', tBlocking', decI r.wait, decI r.guard]), rfl⟩
theorem fun18 (n : Nat) (f : Nat → List D) (bef : List It) (hn : n ≤ 4000) (hr : RLe Aag i0 n f bef) :
    ∃ n' f', n' ≤ n + 1 ∧ RLe Aag i0 n' f' (bef ++ encIf (r.don) (say [tDefinite', decI r.dpk, decI r.ddl])) ∧ Lfun_18 okN' dcN' r (g + 1) (g + 1) n f = Lfun_20 okN' dcN' r (g + 1) (g + 1) n' f' := by
  rw [stfun_18]
  cases (r.don) with
  | false =>
    rw [cond_false]
    exact ⟨n, f, by omega, by rw [show ∀ x, encIf false x = [] from fun _ => rfl, List.append_nil]; exact hr, rfl⟩
  | true =>
    rw [cond_true, okn h.dpk, cond_true, okn h.ddl, cond_true, appOk5 (by omega), cond_true]
    generalize Lfun_20 okN' dcN' r (g + 1) (g + 1) = LL
    exact ⟨_, _, Nat.le_refl _, hr.app rfl (Aas [tDefinite', decI r.dpk, decI r.ddl]), rfl⟩
theorem fun20 (n : Nat) (f : Nat → List D) (bef : List It) (hn : n ≤ 4000) (hr : RLe Aag i0 n f bef) :
    ∃ n' f', n' ≤ n + 1 ∧ RLe Aag i0 n' f' (bef ++ encIf (r.ion) (say [tInverse', decI r.ipk, decI r.idl])) ∧ Lfun_20 okN' dcN' r (g + 1) (g + 1) n f = Lfun_22 okN' dcN' r (g + 1) (g + 1) n' f' := by
  rw [stfun_20]
  cases (r.ion) with
  | false =>
    rw [cond_false]
    exact ⟨n, f, by omega, by rw [show ∀ x, encIf false x = [] from fun _ => rfl, List.append_nil]; exact hr, rfl⟩
  | true =>
    rw [cond_true, okn h.ipk, cond_true, okn h.idl, cond_true, appOk5 (by omega), cond_true]
    generalize Lfun_22 okN' dcN' r (g + 1) (g + 1) = LL
    exact ⟨_, _, Nat.le_refl _, hr.app rfl (Aas [tInverse', decI r.ipk, decI r.idl]), rfl⟩
theorem fun22 (n : Nat) (f : Nat → List D) (bef : List It) (hn : n ≤ 4000) (hr : RLe Aag i0 n f bef) :
    ∃ n' f', n' ≤ n + 1 ∧ RLe Aag i0 n' f' (bef ++ encIf (r.fon) (say [tFail', decI r.fpk, decI r.fdl])) ∧ Lfun_22 okN' dcN' r (g + 1) (g + 1) n f = Lfun_24 okN' dcN' r (g + 1) (g + 1) n' f' := by
  rw [stfun_22]
  cases (r.fon) with
  | false =>
    rw [cond_false]
    exact ⟨n, f, by omega, by rw [show ∀ x, encIf false x = [] from fun _ => rfl, List.append_nil]; exact hr, rfl⟩
  | true =>
    rw [cond_true, okn h.fpk, cond_true, okn h.fdl, cond_true, appOk5 (by omega), cond_true]
    generalize Lfun_24 okN' dcN' r (g + 1) (g + 1) = LL
    exact ⟨_, _, Nat.le_refl _, hr.app rfl (Aas [tFail', decI r.fpk, decI r.fdl]), rfl⟩
theorem fun24 (n : Nat) (f : Nat → List D) (bef : List It) (hn : n ≤ 4000) (hr : RLe Aag i0 n f bef) :
    ∃ n' f', n' ≤ n + 1 ∧ RLe Aag i0 n' f' (bef ++ encIf (r.shots != 0) (say [tReclose', decI r.shots, decI r.dead, decI r.reclaim])) ∧ Lfun_24 okN' dcN' r (g + 1) (g + 1) n f = Lfun_26 okN' dcN' r (g + 1) (g + 1) n' f' := by
  rw [stfun_24]
  cases (r.shots != 0) with
  | false =>
    rw [cond_false]
    exact ⟨n, f, by omega, by rw [show ∀ x, encIf false x = [] from fun _ => rfl, List.append_nil]; exact hr, rfl⟩
  | true =>
    rw [cond_true, okn h.shots, cond_true, okn h.dead, cond_true, okn h.reclaim, cond_true, appOk5 (by omega), cond_true]
    generalize Lfun_26 okN' dcN' r (g + 1) (g + 1) = LL
    exact ⟨_, _, Nat.le_refl _, hr.app rfl (Aas [tReclose', decI r.shots, decI r.dead, decI r.reclaim]), rfl⟩
theorem fun26 (n : Nat) (f : Nat → List D) (bef : List It) (hn : n ≤ 4000) (hr : RLe Aag i0 n f bef) :
    ∃ n' f', n' ≤ n + 1 ∧ RLe Aag i0 n' f' (bef ++ encIf (r.uon) (say [tUnder', decI r.upk, decI r.udl])) ∧ Lfun_26 okN' dcN' r (g + 1) (g + 1) n f = Lfun_28 okN' dcN' r (g + 1) (g + 1) n' f' := by
  rw [stfun_26]
  cases (r.uon) with
  | false =>
    rw [cond_false]
    exact ⟨n, f, by omega, by rw [show ∀ x, encIf false x = [] from fun _ => rfl, List.append_nil]; exact hr, rfl⟩
  | true =>
    rw [cond_true, okn h.upk, cond_true, okn h.udl, cond_true, appOk5 (by omega), cond_true]
    generalize Lfun_28 okN' dcN' r (g + 1) (g + 1) = LL
    exact ⟨_, _, Nat.le_refl _, hr.app rfl (Aas [tUnder', decI r.upk, decI r.udl]), rfl⟩
theorem fun28 (n : Nat) (f : Nat → List D) (bef : List It) (hn : n ≤ 4000) (hr : RLe Aag i0 n f bef) :
    ∃ n' f', n' ≤ n + 1 ∧ RLe Aag i0 n' f' (bef ++ encIf (r.oon) (say [tOver', decI r.opk, decI r.odl])) ∧ Lfun_28 okN' dcN' r (g + 1) (g + 1) n f = Lfun_30 okN' dcN' r (g + 1) (g + 1) n' f' := by
  rw [stfun_28]
  cases (r.oon) with
  | false =>
    rw [cond_false]
    exact ⟨n, f, by omega, by rw [show ∀ x, encIf false x = [] from fun _ => rfl, List.append_nil]; exact hr, rfl⟩
  | true =>
    rw [cond_true, okn h.opk, cond_true, okn h.odl, cond_true, appOk5 (by omega), cond_true]
    generalize Lfun_30 okN' dcN' r (g + 1) (g + 1) = LL
    exact ⟨_, _, Nat.le_refl _, hr.app rfl (Aas [tOver', decI r.opk, decI r.odl]), rfl⟩
theorem fun30 (n : Nat) (f : Nat → List D) (bef : List It) (hn : n ≤ 4000) (hr : RLe Aag i0 n f bef) :
    ∃ n' f', n' ≤ n + 1 ∧ RLe Aag i0 n' f' (bef ++ encIf (r.diff != 0) (say [tDifferential', decI r.diff, decI r.num, decI r.den, decI r.harm])) ∧ Lfun_30 okN' dcN' r (g + 1) (g + 1) n f = Lfun_32 okN' dcN' r (g + 1) (g + 1) n' f' := by
  rw [stfun_30]
  cases (r.diff != 0) with
  | false =>
    rw [cond_false]
    exact ⟨n, f, by omega, by rw [show ∀ x, encIf false x = [] from fun _ => rfl, List.append_nil]; exact hr, rfl⟩
  | true =>
    rw [cond_true, okn h.diff, cond_true, okn h.num, cond_true, okn h.den, cond_true, okn h.harm, cond_true, appOk5 (by omega), cond_true]
    generalize Lfun_32 okN' dcN' r (g + 1) (g + 1) = LL
    exact ⟨_, _, Nat.le_refl _, hr.app rfl (Aas [tDifferential', decI r.diff, decI r.num, decI r.den, decI r.harm]), rfl⟩
end
theorem cfun {r : SRel} (h : NFit r) : CX Tryz.prog 43 [aRel r] [] (.c (.row 0 4 (encNum r).length)) [(0, Blk.row (encNum r).length (fun i => Aag ((encNum r).getD i i0)) 4 57)] := by
  obtain ⟨g, hg⟩ : ∃ g : Nat, g = 10 := ⟨10, rfl⟩
  have hz := RLe.nil (c := Aag) (d0 := i0) fun _ => []
  obtain ⟨nz0, fz0', bz0, rz0, ez0⟩ := funz0 h g g 0 (fun _ => []) [] (by omega) hz
  obtain ⟨nz1, fz1', bz1, rz1, ez1⟩ := funz1 h g (g - 1) nz0 fz0' _ (by omega) rz0
  obtain ⟨nz2, fz2', bz2, rz2, ez2⟩ := funz2 h g (g - 2) nz1 fz1' _ (by omega) rz1
  obtain ⟨n14, f14, b14, r14, e14⟩ := fun14 h g nz2 fz2' _ (by omega) rz2
  obtain ⟨n16, f16, b16, r16, e16⟩ := fun16 h g n14 f14 _ (by omega) r14
  obtain ⟨n18, f18, b18, r18, e18⟩ := fun18 h g n16 f16 _ (by omega) r16
  obtain ⟨n20, f20, b20, r20, e20⟩ := fun20 h g n18 f18 _ (by omega) r18
  obtain ⟨n22, f22, b22, r22, e22⟩ := fun22 h g n20 f20 _ (by omega) r20
  obtain ⟨n24, f24, b24, r24, e24⟩ := fun24 h g n22 f22 _ (by omega) r22
  obtain ⟨n26, f26, b26, r26, e26⟩ := fun26 h g n24 f24 _ (by omega) r24
  obtain ⟨n28, f28, b28, r28, e28⟩ := fun28 h g n26 f26 _ (by omega) r26
  obtain ⟨n30, f30, b30, r30, e30⟩ := fun30 h g n28 f28 _ (by omega) r28
  have hl := r30.len
  have key : Aal Tryz.prog (oSay okN' dcN') annfun (g + 1) Tryz.f43 (Aad Tryz.f43) [aRel r] [] = some (T.leaf (AV.c (C.row 0 4 n30), [(0, Blk.row n30 f30 4 57)])) := by
    subst hg
    rw [evfun]
    refine ez0.trans (ez1.trans (ez2.trans ((fz3 _ _ _ _ _ _ _).trans (e14.trans (e16.trans (e18.trans (e20.trans (e22.trans (e24.trans (e26.trans (e28.trans (e30.trans ?_))))))))))))
    rw [stfun_32]
  have hc := cx_of sSay.ok Tryz.func43 bfun rfl key
  have e : n30 = (encNum r).length := hl
  subst e
  exact hc.le (.refl _) (.cons ⟨rfl, rfl, rfl, fun i hi => r30.le i hi⟩ .nil)
end Go.Proofs.YtmnfibmlhmeheaaGreatDoor.en
namespace Go.Proofs.YtmnfibmlhmeheaaGreatDoor.en
open Go.RowKit Go.Eb
set_option maxRecDepth 100000
def isRow (H : Hp) : Bool := match Go.Eb.look H 0 with
  | some (.row _ _ _ _) => true
  | _ => false
noncomputable def oSy (okd : List AV → Bool) (dcd : List AV → ByteArray) (oke : List AV → Bool) (we : List AV → D) : Orc := Orc.cons 42 (ansIte isRow (ansE oke fun x => .agg [.d (dI 0), .d (we x), .d (dB false), .d (.v (.slice none 0 0))]) (inl Tryz.prog (oDc okd dcd) na 12 Tryz.f42)) Orc.nil
noncomputable def oIt (okd : List AV → Bool) (dcd : List AV → ByteArray) (oke : List AV → Bool) (we : List AV → D) (okf : List AV → Hp → Bool) (nf : List AV → Nat) (ff : List AV → Nat → List D) : Orc := Orc.cons 43 (ansM okf (fun x _ => .c (.row 0 4 (nf x))) fun x _ => [(0, Blk.row (nf x) (ff x) 4 57)]) (oSy okd dcd oke we)
noncomputable def annitm : Ann := annOf [(100004, ⟨[5, 3, 4], [(5, 1, 1000, 0), (5, 3, 4, 57)]⟩), (7, ⟨[5, 3, 4, 6], [(5, 1, 1000, 0), (5, 3, 4, 57)]⟩), (13, ⟨[5, 3, 4, 8], [(5, 1, 1000, 0), (5, 3, 4, 57)]⟩), (17, ⟨[5, 3, 4, 9], [(5, 1, 1000, 0), (5, 3, 4, 57)]⟩), (21, ⟨[5, 3, 4, 10], [(5, 1, 1000, 0), (5, 3, 4, 57)]⟩)]
noncomputable def Litm_4 (okd : List AV → Bool) (dcd : List AV → ByteArray) (oke : List AV → Bool) (we : List AV → D) (okf : List AV → Hp → Bool) (nf : List AV → Nat) (ff : List AV → Nat → List D) (s : SSta) (r : SRel) (g m : Nat) (n3 : Nat) (f3 : Nat → List D) (x1 : Int) (x1_2 : Bool) (x2 : Int) (x2_2 : D) (x2_3 : Bool) := GK Tryz.prog (oIt okd dcd oke we okf nf ff) annitm 0 g Tryz.f21 4 m ⟨frm [(3, .c (.ptr 0 0)), (4, .c (.ptr 1 0)), (5, .c (.ptr 2 0))] 0 Tryz.f21.ntmps, [(0, Blk.cells (List.map C.d (relC r)) 51), (1, Blk.cells [.d (.v (.int .i64 x1)), .d (.v (.slice none 0 0)), .d (.v (.bool x1_2)), .d (.v (.slice none 0 0))] 57), (2, Blk.cells [.d (.v (.int .i64 x2)), C.d (x2_2), .d (.v (.bool x2_3)), C.row 3 4 n3] 57), (3, Blk.row n3 f3 4 57)], 4⟩
noncomputable def Litm_7 (okd : List AV → Bool) (dcd : List AV → ByteArray) (oke : List AV → Bool) (we : List AV → D) (okf : List AV → Hp → Bool) (nf : List AV → Nat) (ff : List AV → Nat → List D) (s : SSta) (r : SRel) (g m : Nat) (n3 : Nat) (f3 : Nat → List D) (i6 : Int) (x1 : Int) (x1_2 : Bool) (x2 : Int) (x2_2 : D) (x2_3 : Bool) := LK Tryz.prog (oIt okd dcd oke we okf nf ff) annitm 0 g Tryz.f21 7 m ⟨frm [(3, .c (.ptr 0 0)), (4, .c (.ptr 1 0)), (5, .c (.ptr 2 0)), (6, .c (.d (.v (.int .i64 i6))))] 0 Tryz.f21.ntmps, [(0, Blk.cells (List.map C.d (relC r)) 51), (1, Blk.cells [.d (.v (.int .i64 x1)), .d (.v (.slice none 0 0)), .d (.v (.bool x1_2)), .d (.v (.slice none 0 0))] 57), (2, Blk.cells [.d (.v (.int .i64 x2)), C.d x2_2, .d (.v (.bool x2_3)), C.row 3 4 n3] 57), (3, Blk.row n3 f3 4 57)], 4⟩
noncomputable def Litm_13 (okd : List AV → Bool) (dcd : List AV → ByteArray) (oke : List AV → Bool) (we : List AV → D) (okf : List AV → Hp → Bool) (nf : List AV → Nat) (ff : List AV → Nat → List D) (s : SSta) (r : SRel) (g m : Nat) (n3 : Nat) (f3 : Nat → List D) (i8 : Int) (x1 : Int) (x1_2 : Bool) (x2 : Int) (x2_2 : D) (x2_3 : Bool) := LK Tryz.prog (oIt okd dcd oke we okf nf ff) annitm 0 g Tryz.f21 13 m ⟨frm [(3, .c (.ptr 0 0)), (4, .c (.ptr 1 0)), (5, .c (.ptr 2 0)), (8, .c (.d (.v (.int .i64 i8))))] 0 Tryz.f21.ntmps, [(0, Blk.cells (List.map C.d (relC r)) 51), (1, Blk.cells [.d (.v (.int .i64 x1)), .d (.v (.slice none 0 0)), .d (.v (.bool x1_2)), .d (.v (.slice none 0 0))] 57), (2, Blk.cells [.d (.v (.int .i64 x2)), C.d x2_2, .d (.v (.bool x2_3)), C.row 3 4 n3] 57), (3, Blk.row n3 f3 4 57)], 4⟩
noncomputable def Litm_17 (okd : List AV → Bool) (dcd : List AV → ByteArray) (oke : List AV → Bool) (we : List AV → D) (okf : List AV → Hp → Bool) (nf : List AV → Nat) (ff : List AV → Nat → List D) (s : SSta) (r : SRel) (g m : Nat) (n3 : Nat) (f3 : Nat → List D) (i9 : Int) (x1 : Int) (x1_2 : Bool) (x2 : Int) (x2_2 : D) (x2_3 : Bool) := LK Tryz.prog (oIt okd dcd oke we okf nf ff) annitm 0 g Tryz.f21 17 m ⟨frm [(3, .c (.ptr 0 0)), (4, .c (.ptr 1 0)), (5, .c (.ptr 2 0)), (9, .c (.d (.v (.int .i64 i9))))] 0 Tryz.f21.ntmps, [(0, Blk.cells (List.map C.d (relC r)) 51), (1, Blk.cells [.d (.v (.int .i64 x1)), .d (.v (.slice none 0 0)), .d (.v (.bool x1_2)), .d (.v (.slice none 0 0))] 57), (2, Blk.cells [.d (.v (.int .i64 x2)), C.d x2_2, .d (.v (.bool x2_3)), C.row 3 4 n3] 57), (3, Blk.row n3 f3 4 57)], 4⟩
noncomputable def Litm_21 (okd : List AV → Bool) (dcd : List AV → ByteArray) (oke : List AV → Bool) (we : List AV → D) (okf : List AV → Hp → Bool) (nf : List AV → Nat) (ff : List AV → Nat → List D) (s : SSta) (r : SRel) (g m : Nat) (n3 : Nat) (f3 : Nat → List D) (i10 : Int) (x1 : Int) (x1_2 : Bool) (x2 : Int) (x2_2 : D) (x2_3 : Bool) := LK Tryz.prog (oIt okd dcd oke we okf nf ff) annitm 0 g Tryz.f21 21 m ⟨frm [(3, .c (.ptr 0 0)), (4, .c (.ptr 1 0)), (5, .c (.ptr 2 0)), (10, .c (.d (.v (.int .i64 i10))))] 0 Tryz.f21.ntmps, [(0, Blk.cells (List.map C.d (relC r)) 51), (1, Blk.cells [.d (.v (.int .i64 x1)), .d (.v (.slice none 0 0)), .d (.v (.bool x1_2)), .d (.v (.slice none 0 0))] 57), (2, Blk.cells [.d (.v (.int .i64 x2)), C.d x2_2, .d (.v (.bool x2_3)), C.row 3 4 n3] 57), (3, Blk.row n3 f3 4 57)], 4⟩
theorem bitm : Tryz.f21.body = some (Aad Tryz.f21) := by kernel_rfl
theorem stitm_4 (okd : List AV → Bool) (dcd : List AV → ByteArray) (oke : List AV → Bool) (we : List AV → D) (okf : List AV → Hp → Bool) (nf : List AV → Nat) (ff : List AV → Nat → List D) (s : SSta) (r : SRel) (g m : Nat) (n3 : Nat) (f3 : Nat → List D) (x1 : Int) (x1_2 : Bool) (x2 : Int) (x2_2 : D) (x2_3 : Bool) : Litm_4 okd dcd oke we okf nf ff s r g (m + 1) n3 f3 x1 x1_2 x2 x2_2 x2_3 =
 (bif okf [AV.agg (List.map C.d (relC r))] [] then Litm_7 okd dcd oke we okf nf ff s r g g (nf [AV.agg (List.map C.d (relC r))]) (ff [AV.agg (List.map C.d (relC r))]) ((0 : Int)) x1
 x1_2 x2 x2_2 true else none) := by kernel_rfl
theorem stitm_7 (okd : List AV → Bool) (dcd : List AV → ByteArray) (oke : List AV → Bool) (we : List AV → D) (okf : List AV → Hp → Bool) (nf : List AV → Nat) (ff : List AV → Nat → List D) (s : SSta) (r : SRel) (g m : Nat) (n3 : Nat) (f3 : Nat → List D) (i6 : Int) (x1 : Int) (x1_2 : Bool) (x2 : Int) (x2_2 : D) (x2_3 : Bool) : Litm_7 okd dcd oke we okf nf ff s r g (m + 1) n3 f3 i6 x1 x1_2 x2 x2_2 x2_3 =
 (bif decide (i6 < (↑(List.length (SRel.rules r)) : Int)) then (bif decide ((0 : Int) ≤ i6) && decide (i6 < (↑(List.length (SRel.rules r)) : Int)) then (bif decide ((0 : Int) ≤ i6)
 && decide (i6 < (↑(List.length (SRel.rules r)) : Int)) then (bif decide ((n3 + 1) * 64 ≤ 140737488355328) && decide (n3 + 1 ≤ (9223372036854775807 :
 Nat)) then Litm_7 okd dcd oke we okf nf ff s r g m (n3 + 1) (appF n3 f3 (Aaf [D.v (.int .i64 (0 : Int)), D.sl (1 + 1) (0 + 1 +
 1 + 1) (Aaf [D.v (.string (⟨#[114, 117, 108, 101]⟩)), D.v (.bool false), dS (SRule.name (List.getD
 (SRel.rules r) (Int.toNat i6) rule0)), D.v (.bool false), dS (SRule.text (List.getD (SRel.rules r) (Int.toNat i6) rule0)), D.v (.bool true)] (1 + 1)), D.v
 (Value.bool false), D.v (.slice none 0 0)] (3 + 1))) (IntKind.wrap .i64 (i6 + (1 : Int))) x1 x1_2 x2 x2_2 x2_3 else none) else none) else
 none) else Litm_13 okd dcd oke we okf nf ff s r g g n3 f3 ((0 : Int)) x1 x1_2 x2 x2_2 x2_3) := by kernel_rfl
theorem stitm_13 (okd : List AV → Bool) (dcd : List AV → ByteArray) (oke : List AV → Bool) (we : List AV → D) (okf : List AV → Hp → Bool) (nf : List AV → Nat) (ff : List AV → Nat → List D) (s : SSta) (r : SRel) (g m : Nat) (n3 : Nat) (f3 : Nat → List D) (i8 : Int) (x1 : Int) (x1_2 : Bool) (x2 : Int) (x2_2 : D) (x2_3 : Bool) : Litm_13 okd dcd oke we okf nf ff s r g (m + 1) n3 f3 i8 x1 x1_2 x2 x2_2 x2_3 =
 (bif decide (i8 < (↑(List.length (SRel.sets r)) : Int)) then (bif decide ((0 : Int) ≤ i8) && decide (i8 < (↑(List.length (SRel.sets r)) : Int)) then (bif decide ((0 : Int) ≤ i8) &&
 decide (i8 < (↑(List.length (SRel.sets r)) : Int)) then (bif decide ((2 + List.length (SSet.sigs (List.getD (SRel.sets r) (Int.toNat i8) set0))) * 16 ≤
 140737488355328) && decide (2 + List.length (SSet.sigs (List.getD (SRel.sets r) (Int.toNat i8) set0)) ≤ 9223372036854775807) then (bif oke [AV.c (C.d (D.sl
 (1) (2 + List.length (SSet.sigs (List.getD (SRel.sets r) (Int.toNat i8) set0))) (appF 2 (Aaf [D.v (.string (⟨#[115, (101 :
 UInt8), 116]⟩)), dS (SSet.name (List.getD (SRel.sets r) (Int.toNat i8) set0))] (0 + 1)) fun i => busC (List.getD (SSet.sigs (List.getD (SRel.sets r)
 (Int.toNat i8) set0)) i e0)))), AV.c (.d (.v (.slice none 0 0)))] then (bif decide ((n3 + 1) * 64 ≤ 140737488355328) && decide (n3 +
 1 ≤ 9223372036854775807) then Litm_13 okd dcd oke we okf nf ff s r g m (n3 + 1) (appF n3 f3 (Aaf [dI (0 : Int), we [AV.c (C.d (D.sl (1) (2
 + List.length (SSet.sigs (List.getD (SRel.sets r) (Int.toNat i8) set0))) (appF 2 (Aaf [D.v (.string (⟨#[115, 101, 116]⟩)), dS
 (SSet.name (List.getD (SRel.sets r) (Int.toNat i8) set0))] (0 + 1)) fun i => busC (List.getD (SSet.sigs (List.getD (SRel.sets r) (Int.toNat i8) set0)) i e0)))), AV.c
 (C.d (.v (.slice none 0 0)))], dB false, D.v (.slice none 0 0)] (3 + 1))) (IntKind.wrap .i64 (i8 + (1 : Int))) x1
 x1_2 x2 x2_2 x2_3 else none) else none) else none) else none) else none) else Litm_17 okd dcd oke we okf nf ff s r g g n3 f3 ((0 : Int)) x1 x1_2 x2 x2_2 x2_3) := by kernel_rfl
theorem stitm_17 (okd : List AV → Bool) (dcd : List AV → ByteArray) (oke : List AV → Bool) (we : List AV → D) (okf : List AV → Hp → Bool) (nf : List AV → Nat) (ff : List AV → Nat → List D) (s : SSta) (r : SRel) (g m : Nat) (n3 : Nat) (f3 : Nat → List D) (i9 : Int) (x1 : Int) (x1_2 : Bool) (x2 : Int) (x2_2 : D) (x2_3 : Bool) : Litm_17 okd dcd oke we okf nf ff s r g (m + 1) n3 f3 i9 x1 x1_2 x2 x2_2 x2_3 =
 (bif decide (i9 < (↑(List.length (SRel.pubs r)) : Int)) then (bif decide ((0 : Int) ≤ i9) && decide (i9 < (↑(List.length (SRel.pubs r)) : Int)) then (bif decide ((0 : Int) ≤ i9) &&
 decide (i9 < (↑(List.length (SRel.pubs r)) : Int)) then (bif decide ((0 : Int) ≤ i9) && decide (i9 < (↑(List.length (SRel.pubs r)) : Int)) then (bif okd [AV.c (C.d (D.v (Value.int
 IntKind.i64 (SPub.fst (List.getD (SRel.pubs r) (Int.toNat i9) pub0)))))] then (bif okd [AV.c (.d (.v (.int .i64 (SPub.max (List.getD (SRel.pubs r) (Int.toNat i9)
 pub0)))))] then (bif decide ((n3 + 1) * 64 ≤ 140737488355328) && decide (n3 + 1 ≤ 9223372036854775807) then Litm_17 okd dcd oke we okf nf ff
 s r g m (n3 + 1) (appF n3 f3 (Aaf [D.v (.int .i64 (0 : Int)), D.sl (1 + 1) (0 + 1 + 1 + 1 + 1) (Aaf
 [D.v (.string (⟨#[112, 117, 98, 108, 105, 115, 104]⟩)), D.v (.bool false), dS (SPub.set
 (List.getD (SRel.pubs r) (Int.toNat i9) pub0)), D.v (.bool false), D.v (.string (dcd [AV.c (.d (.v (.int .i64 (SPub.fst (List.getD (SRel.pubs r) (Int.toNat
 i9) pub0)))))])), D.v (.bool false), D.v (.string (dcd [AV.c (.d (.v (.int .i64 (SPub.max (List.getD (SRel.pubs r) (Int.toNat i9) pub0)))))])), D.v
 (Value.bool false)] (1 + 1)), D.v (.bool false), D.v (.slice none 0 0)] (3 + 1))) (IntKind.wrap .i64 (i9 + (1 :
 Int))) x1 x1_2 x2 x2_2 x2_3 else none) else none) else none) else none) else none) else none) else Litm_21 okd dcd oke we okf nf ff s r g g n3 f3 ((0 : Int)) x1 x1_2 x2 x2_2 x2_3) := by kernel_rfl
theorem stitm_21 (okd : List AV → Bool) (dcd : List AV → ByteArray) (oke : List AV → Bool) (we : List AV → D) (okf : List AV → Hp → Bool) (nf : List AV → Nat) (ff : List AV → Nat → List D) (s : SSta) (r : SRel) (g m : Nat) (n3 : Nat) (f3 : Nat → List D) (i10 : Int) (x1 : Int) (x1_2 : Bool) (x2 : Int) (x2_2 : D) (x2_3 : Bool) : Litm_21 okd dcd oke we okf nf ff s r g (m + 1) n3 f3 i10 x1 x1_2 x2 x2_2 x2_3 =
 (bif decide (i10 < (↑(List.length (SRel.subs r)) : Int)) then (bif decide ((0 : Int) ≤ i10) && decide (i10 < (↑(List.length (SRel.subs r)) : Int)) then (bif decide ((n3 + 1)
 * 64 ≤ 140737488355328) && decide (n3 + 1 ≤ 9223372036854775807) then Litm_21 okd dcd oke we okf nf ff s r g m (n3 + 1) (appF n3 f3 (Aaf
 [D.v (.int .i64 (0 : Int)), D.sl (1 + 1) (0 + 1 + 1 + 1 + 1 + 1) (Aaf [D.v (.string (⟨#[115, 117, 98, 115, 99, 114, 105, 98, 101]⟩)), D.v (.bool false), dS (SSub.loc
 (List.getD (SRel.subs r) (Int.toNat i10) sub0)), D.v (.bool false), dS (SSub.dev (List.getD (SRel.subs r) (Int.toNat i10) sub0)), D.v (.bool false), dS (SSub.set
 (List.getD (SRel.subs r) (Int.toNat i10) sub0)), D.v (.bool false), dS (SSub.sig (List.getD (SRel.subs r) (Int.toNat i10) sub0)), D.v (.bool false)] (1 + (1 :
 Nat))), D.v (.bool false), D.v (.slice none 0 0)] (3 + 1))) (IntKind.wrap .i64 (i10 + (1 : Int))) x1 x1_2 x2 x2_2 x2_3 else none)
 else none) else some (T.leaf (AV.agg [C.d (.v (.int .i64 x2)), C.d x2_2, C.d (.v (.bool x2_3)), C.row (0) (4) n3], [(0, Blk.row n3 f3 ((4
 : Nat)) (57))]))) := by kernel_rfl
end Go.Proofs.YtmnfibmlhmeheaaGreatDoor.en
namespace Go.Proofs.YtmnfibmlhmeheaaGreatDoor.en
open Go.RowKit Go.Eb
set_option maxRecDepth 100000
def relT (k : Int) (r : SRel) : SRel := { r with kind := k }
theorem relT_eq {r : SRel} {k : Int} (e : r.kind = k) : r = relT k r := by
  cases r
  cases e
  rfl
theorem itm4 (okd : List AV → Bool) (dcd : List AV → ByteArray) (oke : List AV → Bool) (we : List AV → D) (okf : List AV → Hp → Bool) (nf : List AV → Nat) (ff : List AV → Nat → List D) (s : SSta) (r : SRel) (g : Nat) : Aal Tryz.prog (oIt okd dcd oke we okf nf ff) annitm g Tryz.f21 (Aad Tryz.f21) [aSta s, aRel (relT 4 r)] [] =
 Litm_4 okd dcd oke we okf nf ff s (relT 4 r) g g 0 (fun x => []) (0 : Int) false (0 : Int) (D.sl (2) (3) (Aaf [D.v (.string (⟨#[114, 101,
 108, 97, 121]⟩)), D.v (.bool false), dS (SRel.name r), D.v (.bool false), D.v (.string (⟨#[98, 117, 115]⟩)), D.v (.bool false)] (1 + (1 :
 Nat)))) false := by kernel_rfl
theorem itm1 (okd : List AV → Bool) (dcd : List AV → ByteArray) (oke : List AV → Bool) (we : List AV → D) (okf : List AV → Hp → Bool) (nf : List AV → Nat) (ff : List AV → Nat → List D) (s : SSta) (r : SRel) (g : Nat) : Aal Tryz.prog (oIt okd dcd oke we okf nf ff) annitm g Tryz.f21 (Aad Tryz.f21) [aSta s, aRel (relT 1 r)] [] =
 (bif decide ((0 : Int) ≤ SRel.bay r) && decide (SRel.bay r < (↑(List.length (SSta.bays s)) : Int)) then Litm_4 okd dcd oke we okf nf ff s (relT 1 r) g g 0 (fun x => []) (0 :
 Int) false (0 : Int) (D.sl (2) (4) (Aaf [D.v (.string (⟨#[114, 101, 108, 97, 121]⟩)), D.v (.bool false), dS (SRel.name r), D.v (Value.bool
 false), D.v (.string (⟨#[108, 105, 110, 101]⟩)), D.v (.bool false), dS (SBay.name (List.getD (SSta.bays s) (Int.toNat (SRel.bay r)) bay0)), D.v (Value.bool
 false)] (1 + 1))) false else none) := by kernel_rfl
theorem itm2 (okd : List AV → Bool) (dcd : List AV → ByteArray) (oke : List AV → Bool) (we : List AV → D) (okf : List AV → Hp → Bool) (nf : List AV → Nat) (ff : List AV → Nat → List D) (s : SSta) (r : SRel) (g : Nat) : Aal Tryz.prog (oIt okd dcd oke we okf nf ff) annitm g Tryz.f21 (Aad Tryz.f21) [aSta s, aRel (relT 2 r)] [] =
 (bif decide ((0 : Int) ≤ SRel.bay r) && decide (SRel.bay r < (↑(List.length (SSta.bays s)) : Int)) then Litm_4 okd dcd oke we okf nf ff s (relT 2 r) g g 0 (fun x => []) (0 :
 Int) false (0 : Int) (D.sl (2) (4) (Aaf [D.v (.string (⟨#[114, 101, 108, 97, 121]⟩)), D.v (.bool false), dS (SRel.name r), D.v (Value.bool
 false), D.v (.string (⟨#[115, 111, 117, 114, 99, 101]⟩)), D.v (.bool false), dS (SBay.name (List.getD (SSta.bays s) (Int.toNat (SRel.bay r)) bay0)), D.v
 (Value.bool false)] (1 + 1))) false else none) := by kernel_rfl
theorem itm3 (okd : List AV → Bool) (dcd : List AV → ByteArray) (oke : List AV → Bool) (we : List AV → D) (okf : List AV → Hp → Bool) (nf : List AV → Nat) (ff : List AV → Nat → List D) (s : SSta) (r : SRel) (g : Nat) : Aal Tryz.prog (oIt okd dcd oke we okf nf ff) annitm g Tryz.f21 (Aad Tryz.f21) [aSta s, aRel (relT 3 r)] [] =
 (bif decide ((0 : Int) ≤ SRel.bay r) && decide (SRel.bay r < (↑(List.length (SSta.bays s)) : Int)) then Litm_4 okd dcd oke we okf nf ff s (relT 3 r) g g 0 (fun x => []) (0 :
 Int) false (0 : Int) (D.sl (2) (4) (Aaf [D.v (.string (⟨#[114, 101, 108, 97, 121]⟩)), D.v (.bool false), dS (SRel.name r), D.v (Value.bool
 false), D.v (.string (⟨#[99, 111, 117, 112, 108, 101, 114]⟩)), D.v (.bool false), dS (SBay.name (List.getD (SSta.bays s) (Int.toNat (SRel.bay r)) bay0)), D.v
 (Value.bool false)] (1 + 1))) false else none) := by kernel_rfl
end Go.Proofs.YtmnfibmlhmeheaaGreatDoor.en
namespace Go.Proofs.YtmnfibmlhmeheaaGreatDoor.en
open Go.RowKit Go.Eb
set_option maxRecDepth 100000
abbrev AX := ((Int × Nat × Bool × Unit × Unit) × D × Unit) × ((ByteArray × Bool × ByteArray × Bool × Unit) × Unit)
def dX : Dec (List AV × Hp) AX := .pair (.cons (.agg (.cons .i64 (.cons (.row 0 2) (.cons .bool (.cons .nilS .nil))))) (.cons (.c .data) .nil)) (.cons (.blk 0 (.cells 59 (.cons .str (.cons .bool (.cons .str (.cons .bool .nil)))))) .nil)
noncomputable def oPls (okd : List AV → Bool) (dcd : List AV → ByteArray) (okx : AX → Bool) (nx : AX → Nat) (fx : AX → Nat → List D) : Orc := Orc.cons 15 (inl Tryz.prog oPx na 12 Tryz.f15) (Orc.cons 16 (ansOr dX okx (fun a => .agg [.d (dI a.1.1.1), .row 1 2 (nx a), .d (dB a.1.1.2.2.1), .d (.v (.slice none 0 0))]) (fun a => [(0, .dead), (1, .row (nx a) (fx a) 2 59)]) (inl Tryz.prog Orc.nil na 12 Tryz.f16)) (Orc.cons 38 (inl Tryz.prog (oPit okd dcd) na 12 Tryz.f38) (oPit okd dcd)))
noncomputable def annlst : Ann := annOf [(3, ⟨[14, 1, 15, 16, 3], [(3, 0, 4, 57)]⟩), (10, ⟨[38, 1, 39, 40, 3], [(3, 0, 4, 57)]⟩), (15, ⟨[56, 1, 57, 58, 3], [(3, 0, 4, 57)]⟩), (20, ⟨[78, 79, 80, 3], [(3, 0, 4, 57)]⟩)]
noncomputable def Llst_3 (okd : List AV → Bool) (dcd : List AV → ByteArray) (okx : AX → Bool) (nx : AX → Nat) (fx : AX → Nat → List D) (r : SRel) (g m : Nat) (n1 : Nat) (f1 : Nat → List D) (i16 : Int) := LK Tryz.prog (oPls okd dcd okx nx fx) annlst 0 g Tryz.f19 3 m ⟨frm [(1, .c (.ptr 0 0)), (3, .c (.row 1 4 n1)), (14, .c (.d (Aac 2 ruleC rule0 (SRel.rules r)))), (15, .c (.d (.v (.int .i64 (↑(List.length (SRel.rules r)) : Int))))), (16, .c (.d (.v (.int .i64 i16))))] 0 Tryz.f19.ntmps, [(0, Blk.cells (List.map C.d (relC r)) 51), (1, Blk.row n1 f1 4 57)], 2⟩
noncomputable def Llst_10 (okd : List AV → Bool) (dcd : List AV → ByteArray) (okx : AX → Bool) (nx : AX → Nat) (fx : AX → Nat → List D) (r : SRel) (g m : Nat) (n1 : Nat) (f1 : Nat → List D) (i40 : Int) := LK Tryz.prog (oPls okd dcd okx nx fx) annlst 0 g Tryz.f19 10 m ⟨frm [(1, .c (.ptr 0 0)), (3, .c (.row 1 4 n1)), (38, .c (.d (Aac 2 setC set0 (SRel.sets r)))), (39, .c (.d (.v (.int .i64 (↑(List.length (SRel.sets r)) : Int))))), (40, .c (.d (.v (.int .i64 i40))))] 0 Tryz.f19.ntmps, [(0, Blk.cells (List.map C.d (relC r)) 51), (1, Blk.row n1 f1 4 57)], 2⟩
noncomputable def Llst_15 (okd : List AV → Bool) (dcd : List AV → ByteArray) (okx : AX → Bool) (nx : AX → Nat) (fx : AX → Nat → List D) (r : SRel) (g m : Nat) (n1 : Nat) (f1 : Nat → List D) (i58 : Int) := LK Tryz.prog (oPls okd dcd okx nx fx) annlst 0 g Tryz.f19 15 m ⟨frm [(1, .c (.ptr 0 0)), (3, .c (.row 1 4 n1)), (56, .c (.d (Aac 3 pubC pub0 (SRel.pubs r)))), (57, .c (.d (.v (.int .i64 (↑(List.length (SRel.pubs r)) : Int))))), (58, .c (.d (.v (.int .i64 i58))))] 0 Tryz.f19.ntmps, [(0, Blk.cells (List.map C.d (relC r)) 51), (1, Blk.row n1 f1 4 57)], 2⟩
noncomputable def Llst_20 (okd : List AV → Bool) (dcd : List AV → ByteArray) (okx : AX → Bool) (nx : AX → Nat) (fx : AX → Nat → List D) (r : SRel) (g m : Nat) (n0 : Nat) (f0 : Nat → List D) (i80 : Int) := LK Tryz.prog (oPls okd dcd okx nx fx) annlst 0 g Tryz.f19 20 m ⟨frm [(3, .c (.row 0 4 n0)), (78, .c (.d (Aac 4 subC sub0 (SRel.subs r)))), (79, .c (.d (.v (.int .i64 (↑(List.length (SRel.subs r)) : Int))))), (80, .c (.d (.v (.int .i64 i80))))] 0 Tryz.f19.ntmps, [(0, Blk.row n0 f0 4 57)], 1⟩
theorem blst : Tryz.f19.body = some (Aad Tryz.f19) := by kernel_rfl
theorem evlst (okd : List AV → Bool) (dcd : List AV → ByteArray) (okx : AX → Bool) (nx : AX → Nat) (fx : AX → Nat → List D) (r : SRel) (g : Nat) : Aal Tryz.prog (oPls okd dcd okx nx fx) annlst g Tryz.f19 (Aad Tryz.f19) [aRel r] [] =
 Llst_3 okd dcd okx nx fx r g g 0 (fun x => []) ((0 : Int)) := by kernel_rfl
theorem stlst_3 (okd : List AV → Bool) (dcd : List AV → ByteArray) (okx : AX → Bool) (nx : AX → Nat) (fx : AX → Nat → List D) (r : SRel) (g m : Nat) (n1 : Nat) (f1 : Nat → List D) (i16 : Int) : Llst_3 okd dcd okx nx fx r g (m + 1) n1 f1 i16 =
 (bif decide (i16 < (↑(List.length (SRel.rules r)) : Int)) then (bif decide ((0 : Int) ≤ i16) && decide (i16 < (↑(List.length (SRel.rules r)) : Int)) then (bif decide ((n1 + (1 :
 Nat)) * 64 ≤ 140737488355328) && decide (n1 + 1 ≤ 9223372036854775807) then Llst_3 okd dcd okx nx fx r g m (n1 + 1) (appF n1 f1 (Aaf [D.v
 (Value.int IntKind.i64 (0 : Int)), D.sl (1 + 1) (0 + 1 + 1 + 1) (Aaf [D.v (.string (⟨#[114, (117 :
 UInt8), 108, 101]⟩)), D.v (.bool false), dS (SRule.name (List.getD (SRel.rules r) (Int.toNat i16) rule0)), D.v (.bool false), dS (SRule.text (List.getD
 (SRel.rules r) (Int.toNat i16) rule0)), D.v (.bool true)] (1 + 1)), D.v (.bool false), D.v (.slice none 0 0)] (3 + (1 :
 Nat)))) (IntKind.wrap .i64 (i16 + (1 : Int))) else none) else none) else Llst_10 okd dcd okx nx fx r g g n1 f1 ((0 : Int))) := by kernel_rfl
theorem stlst_10 (okd : List AV → Bool) (dcd : List AV → ByteArray) (okx : AX → Bool) (nx : AX → Nat) (fx : AX → Nat → List D) (r : SRel) (g m : Nat) (n1 : Nat) (f1 : Nat → List D) (i40 : Int) : Llst_10 okd dcd okx nx fx r g (m + 1) n1 f1 i40 =
 (bif decide (i40 < (↑(List.length (SRel.sets r)) : Int)) then (bif decide ((0 : Int) ≤ i40) && decide (i40 < (↑(List.length (SRel.sets r)) : Int)) then (bif okx ((((0 : Int), (0 :
 Nat) + 1 + 1, false, (), ()), Aab (SSet.sigs (List.getD (SRel.sets r) (Int.toNat i40) set0)), ()), (⟨#[115, 101, 116]⟩,
 false, SSet.name (List.getD (SRel.sets r) (Int.toNat i40) set0), false, ()), ()) then (bif decide ((n1 + 1) * 64 ≤ 140737488355328) && decide (n1 + 1
 ≤ 9223372036854775807) then Llst_10 okd dcd okx nx fx r g m (n1 + 1) (appF n1 f1 (Aaf [dI (0 : Int), D.sl 2 (nx ((((0 : Int), 0 + 1 + (1 :
 Nat), false, (), ()), Aab (SSet.sigs (List.getD (SRel.sets r) (Int.toNat i40) set0)), ()), (⟨#[115, 101, 116]⟩, false, SSet.name
 (List.getD (SRel.sets r) (Int.toNat i40) set0), false, ()), ())) (fx ((((0 : Int), 0 + 1 + 1, false, (), ()), Aab (SSet.sigs (List.getD (SRel.sets r)
 (Int.toNat i40) set0)), ()), (⟨#[115, 101, 116]⟩, false, SSet.name (List.getD (SRel.sets r) (Int.toNat i40) set0), false, ()), ())), dB
 false, D.v (.slice none 0 0)] (3 + 1))) (IntKind.wrap .i64 (i40 + (1 : Int))) else none) else none) else none) else Llst_15 okd dcd okx
 nx fx r g g n1 f1 ((0 : Int))) := by kernel_rfl
theorem stlst_15 (okd : List AV → Bool) (dcd : List AV → ByteArray) (okx : AX → Bool) (nx : AX → Nat) (fx : AX → Nat → List D) (r : SRel) (g m : Nat) (n1 : Nat) (f1 : Nat → List D) (i58 : Int) : Llst_15 okd dcd okx nx fx r g (m + 1) n1 f1 i58 =
 (bif decide (i58 < (↑(List.length (SRel.pubs r)) : Int)) then (bif decide ((0 : Int) ≤ i58) && decide (i58 < (↑(List.length (SRel.pubs r)) : Int)) then (bif okd [AV.c (C.d (D.v
 (Value.int IntKind.i64 (SPub.fst (List.getD (SRel.pubs r) (Int.toNat i58) pub0)))))] then (bif okd [AV.c (.d (.v (.int .i64 (SPub.max (List.getD (SRel.pubs r)
 (Int.toNat i58) pub0)))))] then (bif decide ((n1 + 1) * 64 ≤ 140737488355328) && decide (n1 + 1 ≤ 9223372036854775807) then Llst_15 okd dcd
 okx nx fx r g m (n1 + 1) (appF n1 f1 (Aaf [D.v (.int .i64 (0 : Int)), D.sl (1 + 1) (0 + 1 + 1 + 1 + 1)
 (Aaf [D.v (.string (⟨#[112, 117, 98, 108, 105, 115, 104]⟩)), D.v (.bool false), dS
 (SPub.set (List.getD (SRel.pubs r) (Int.toNat i58) pub0)), D.v (.bool false), D.v (.string (dcd [AV.c (.d (.v (.int .i64 (SPub.fst (List.getD (SRel.pubs r)
 (Int.toNat i58) pub0)))))])), D.v (.bool false), D.v (.string (dcd [AV.c (.d (.v (.int .i64 (SPub.max (List.getD (SRel.pubs r) (Int.toNat i58) pub0)))))])),
 D.v (.bool false)] (1 + 1)), D.v (.bool false), D.v (.slice none 0 0)] (3 + 1))) (IntKind.wrap .i64 (i58 + (1 :
 Int))) else none) else none) else none) else none) else Llst_20 okd dcd okx nx fx r g g n1 f1 ((0 : Int))) := by kernel_rfl
theorem stlst_20 (okd : List AV → Bool) (dcd : List AV → ByteArray) (okx : AX → Bool) (nx : AX → Nat) (fx : AX → Nat → List D) (r : SRel) (g m : Nat) (n0 : Nat) (f0 : Nat → List D) (i80 : Int) : Llst_20 okd dcd okx nx fx r g (m + 1) n0 f0 i80 =
 (bif decide (i80 < (↑(List.length (SRel.subs r)) : Int)) then (bif decide ((0 : Int) ≤ i80) && decide (i80 < (↑(List.length (SRel.subs r)) : Int)) then (bif decide ((n0 + 1)
 * 64 ≤ 140737488355328) && decide (n0 + 1 ≤ 9223372036854775807) then Llst_20 okd dcd okx nx fx r g m (n0 + 1) (appF n0 f0 (Aaf [D.v
 (Value.int IntKind.i64 (0 : Int)), D.sl (1 + 1) (0 + 1 + 1 + 1 + 1 + 1) (Aaf [D.v (.string (⟨#[115, 117, 98, 115, 99, 114, 105, 98, 101]⟩)), D.v (.bool false), dS (SSub.loc
 (List.getD (SRel.subs r) (Int.toNat i80) sub0)), D.v (.bool false), dS (SSub.dev (List.getD (SRel.subs r) (Int.toNat i80) sub0)), D.v (.bool false), dS (SSub.set
 (List.getD (SRel.subs r) (Int.toNat i80) sub0)), D.v (.bool false), dS (SSub.sig (List.getD (SRel.subs r) (Int.toNat i80) sub0)), D.v (.bool false)] (1 + (1 :
 Nat))), D.v (.bool false), D.v (.slice none 0 0)] (3 + 1))) (IntKind.wrap .i64 (i80 + (1 : Int))) else none) else none) else some
 (T.leaf (AV.c (C.row (0) (4) n0), [(0, Blk.row n0 f0 (4) (57))]))) := by kernel_rfl
end Go.Proofs.YtmnfibmlhmeheaaGreatDoor.en
namespace Go.Proofs.YtmnfibmlhmeheaaGreatDoor.en
open Go.RowKit Go.Eb
set_option maxRecDepth 100000
noncomputable def annext : Ann := annOf [(2, ⟨[2, 7, 4, 8, 9], [(2, 1, 2, 59)]⟩)]
noncomputable def Lext_2 (a b : ByteArray) (ws : List ByteArray) (g m : Nat) (n2 : Nat) (f2 : Nat → List D) (i9 : Int) (x1 : Int) (x1_2 : Bool) (x3 : Int) (x3_2 : Bool) := LK Tryz.prog Orc.nil annext (List.length (α := Nat × Blk) [(0, .cells [.d (dS a), .d (dB false), .d (dS b), .d (dB false)] 59)]) g Tryz.f16 2 m ⟨frm [(2, .c (.ptr 1 0)), (4, .c (.ptr 3 0)), (7, .c (.d (Aac 1 busC e0 ws))), (8, .c (.d (.v (.int .i64 (↑(List.length ws) : Int))))), (9, .c (.d (.v (.int .i64 i9))))] 0 Tryz.f16.ntmps, [(0, Blk.dead), (1, Blk.cells [.d (.v (.int .i64 x1)), C.row 2 2 n2, .d (.v (.bool x1_2)), .d (.v (.slice none 0 0))] 57), (2, Blk.row n2 f2 2 59), (3, Blk.cells [.d (.v (.int .i64 x3)), .d (.v (.slice none 0 0)), .d (.v (.bool x3_2)), .d (.v (.slice none 0 0))] 57)], 4⟩
theorem bext : Tryz.f16.body = some (Aad Tryz.f16) := by kernel_rfl
theorem evext (a b : ByteArray) (ws : List ByteArray) (g : Nat) : Aal Tryz.prog Orc.nil annext g Tryz.f16 (Aad Tryz.f16) [.agg [.d (dI 0), .row 0 2 2, .d (dB false), .d (.v (.slice none 0 0))], .c (.d (Aab ws))] [(0, .cells [.d (dS a), .d (dB false), .d (dS b), .d (dB false)] 59)] =
 Lext_2 a b ws g g 2 (Aaf [dS a, dB false, dS b, dB false] 2) ((0 : Int)) ((0 : Int)) false ((0 : Int)) false := by kernel_rfl
theorem stext_2 (a b : ByteArray) (ws : List ByteArray) (g m : Nat) (n2 : Nat) (f2 : Nat → List D) (i9 : Int) (x1 : Int) (x1_2 : Bool) (x3 : Int) (x3_2 : Bool) : Lext_2 a b ws g (m + 1) n2 f2 i9 x1 x1_2 x3 x3_2 =
 (bif decide (i9 < (↑(List.length ws) : Int)) then (bif decide ((0 : Int) ≤ i9) && decide (i9 < (↑(List.length ws) : Int)) then (bif decide ((n2 + 1) * 24 ≤
 140737488355328) && decide (n2 + 1 ≤ 9223372036854775807) then Lext_2 a b ws g m (n2 + 1) (appF n2 f2 (Aaf [dS (List.getD ws (Int.toNat i9) e0),
 D.v (.bool false)] (1 + 1))) (IntKind.wrap .i64 (i9 + (1 : Int))) x1 x1_2 x3 x3_2 else none) else none) else some (T.leaf (AV.agg [C.d (D.v (Value.int
 IntKind.i64 x1)), C.row (1) (2) n2, C.d (.v (.bool x1_2)), C.d (.v (.slice none 0 0))], [(0, Blk.dead), (1, Blk.row n2 f2
 (2) (59))]))) := by kernel_rfl
end Go.Proofs.YtmnfibmlhmeheaaGreatDoor.en
namespace Go.Proofs.YtmnfibmlhmeheaaGreatDoor.en
open Go.RowKit Go.Eb
set_option maxRecDepth 100000
theorem appW {n : Nat} (h : n ≤ 5000) : (decide ((n + (1 : Nat)) * (24 : Nat) ≤ (140737488355328 : Nat)) && decide (n + (1 : Nat) ≤ (9223372036854775807 : Nat))) = true := by
  rw [decide_eq_true (by omega), decide_eq_true (by omega)]; rfl
theorem csay (ws : List ByteArray) (h : ws.length ≤ 4000) : CX Tryz.prog 42 [.c (.d (Aab ws)), .c (.d (.v (.slice none 0 0)))] [] (.agg [.d (dI 0), .d (wordsD (plainW ws)), .d (dB false), .d (.v (.slice none 0 0))]) [] := by
  obtain ⟨g, hg⟩ : ∃ g, 6000 < g := ⟨6001, by omega⟩
  obtain ⟨m, rfl⟩ : ∃ m, g = m + 1 := ⟨g - 1, by omega⟩
  obtain ⟨f', h1, h2⟩ := app_loop (L := fun k n f i => Lsay_3 okN' dcN' ws (m + 1) k n f i 0 false 0 false) (K := fun n f => Lsay_7 okN' dcN' ws (m + 1) (m + 1) n f 0 0 false 0 false)
    (l := ws) (d := e0) (c := wcells) (d0 := w0) (ch := fun t => [dS t, dB false]) (e := fun t => (⟨t, false⟩ : Wd)) (sz := 2)
    (fun k i n f hk hn => by
      show Lsay_3 okN' dcN' ws (m + 1) (k + 1) n f i 0 false 0 false = Lsay_3 okN' dcN' ws (m + 1) k (n + 1) _ _ 0 false 0 false
      rw [stsay_3, lt1 hk, cond_true, ge0, tt, cond_true, tn, appW hn, cond_true, nx hk (by omega)])
    (fun k n f => by
      show Lsay_3 okN' dcN' ws (m + 1) (k + 1) n f (ws.length : Int) 0 false 0 false = _
      rw [stsay_3, lt0 (Nat.lt_irrefl _), cond_false])
    (fun _ => rfl) (fun _ _ => .refl _) (m + 1) 0 0 (fun _ => []) [] (by omega) (by omega) (by omega) (.nil _)
  simp only [Nat.sub_zero, List.drop_zero, List.nil_append] at h1 h2
  have h3 : Aal Tryz.prog (oDc okN' dcN') annsay (m + 1) Tryz.f42 (Aad Tryz.f42) [.c (.d (Aab ws)), .c (.d (.v (.slice none 0 0)))] [] = some (T.leaf (AV.agg [.d (dI 0), .row 0 2 (0 + ws.length), .d (dB false), .d (.v (.slice none 0 0))], [(0, Blk.row (0 + ws.length) f' 2 59)])) := by
    rw [evsay]
    refine Eq.trans h2 ?_
    rw [stsay_7]
    rfl
  have hc := (cr_of sDn.ok Tryz.func42 bsay rfl h3).data (y := .agg [.d (dI 0), .d (.sl 2 (0 + ws.length) f'), .d (dB false), .d (.v (.slice none 0 0))]) rfl
  refine (CX.of_cr Tryz.func42 bsay hc).le ?_ (.refl _)
  exact ale_of_des (a := [dI 0, .sl 2 (0 + ws.length) f', dB false, .v (.slice none 0 0)]) (b := [dI 0, wordsD (plainW ws), dB false, .v (.slice none 0 0)]) (.cons (.refl _) (.cons (h1.de (sz := 2)) (.cons (.refl _) (.cons (.refl _) .nil))))
theorem cext (a b : ByteArray) (ws : List ByteArray) (h : ws.length ≤ 4000) : CX Tryz.prog 16 [.agg [.d (dI 0), .row 0 2 2, .d (dB false), .d (.v (.slice none 0 0))], .c (.d (Aab ws))] [(0, .cells [.d (dS a), .d (dB false), .d (dS b), .d (dB false)] 59)]
    (.agg [.d (dI 0), .row 1 2 (2 + ws.length), .d (dB false), .d (.v (.slice none 0 0))]) [(0, .dead), (1, .row (2 + ws.length) (fun i => wcells ((plainW (a :: b :: ws)).getD i w0)) 2 59)] := by
  obtain ⟨g, hg⟩ : ∃ g, 6000 < g := ⟨6001, by omega⟩
  obtain ⟨m, rfl⟩ : ∃ m, g = m + 1 := ⟨g - 1, by omega⟩
  have h0 : RLe wcells w0 2 (Aaf [dS a, dB false, dS b, dB false] (2 : Nat)) [⟨a, false⟩, ⟨b, false⟩] := ⟨rfl, fun i hi => by
    match i, hi with
    | 0, _ => exact .refl _
    | 1, _ => exact .refl _⟩
  obtain ⟨f', h1, h2⟩ := app_loop (L := fun k n f i => Lext_2 a b ws (m + 1) k n f i 0 false 0 false) (K := fun n f => some (T.leaf (AV.agg [.d (dI 0), .row 1 2 n, .d (dB false), .d (.v (.slice none 0 0))], [(0, Blk.dead), (1, Blk.row n f 2 59)])))
    (l := ws) (d := e0) (c := wcells) (d0 := w0) (ch := fun t => [dS t, dB false]) (e := fun t => (⟨t, false⟩ : Wd)) (sz := 2)
    (fun k i n f hk hn => by
      show Lext_2 a b ws (m + 1) (k + 1) n f i 0 false 0 false = Lext_2 a b ws (m + 1) k (n + 1) _ _ 0 false 0 false
      rw [stext_2, lt1 hk, cond_true, ge0, tt, cond_true, tn, appW hn, cond_true, nx hk (by omega)])
    (fun k n f => by
      show Lext_2 a b ws (m + 1) (k + 1) n f (ws.length : Int) 0 false 0 false = _
      rw [stext_2, lt0 (Nat.lt_irrefl _), cond_false])
    (fun _ => rfl) (fun _ _ => .refl _) (m + 1) 0 2 _ _ (by omega) (by omega) (by omega) h0
  simp only [Nat.sub_zero, List.drop_zero] at h1 h2
  have h3 := cx_of (Orc.nil_ok _) Tryz.func16 bext rfl ((evext a b ws (m + 1)).trans h2)
  exact h3.le (.refl _) (.cons (.refl _) (.cons ⟨rfl, rfl, rfl, fun i hi => h1.le i hi⟩ .nil))
theorem buses_below {d : D} {a b : List ByteArray} (h1 : DE d (Aab a)) (h2 : DE d (Aab b)) : a = b := by
  have key : ∀ {n : Nat} {f : Nat → List D} {l : List ByteArray}, DE (.sl 1 n f) (Aab l) → n = l.length ∧ ∀ i, i < n → DEs (f i) (busC (l.getD i e0)) := fun h => by
    cases h with
    | sl _ _ _ _ k1 k2 => exact ⟨rfl, fun i hi => ⟨k1 i hi, fun j x y e1 e2 => k2 i j x y hi e1 e2⟩⟩
  cases d with
  | v v =>
    have e1 : a.length = 0 := by cases a with | nil => rfl | cons x r => cases h1
    have e2 : b.length = 0 := by cases b with | nil => rfl | cons x r => cases h2
    rw [List.eq_nil_of_length_eq_zero e1, List.eq_nil_of_length_eq_zero e2]
  | sl sz n f =>
    have hz : sz = 1 := by cases h1; rfl
    subst hz
    obtain ⟨a1, a2⟩ := key h1
    obtain ⟨b1, b2⟩ := key h2
    refine List.ext_getElem (by omega) fun i i1 i2 => ?_
    have p := a2 i (by omega)
    have q := b2 i (by omega)
    have e : ∀ {x y : ByteArray} {l : List D}, DEs l (busC x) → DEs l (busC y) → x = y := fun {x y l} p q => by
      match l, p.1 with
      | [c], _ =>
        have c1 := p.2 0 c (dS x) rfl rfl
        have c2 := q.2 0 c (dS y) rfl rfl
        cases c1 with
        | v _ => exact dS_inj c2
    have := e p q
    simpa [List.getD_eq_getElem?_getD, i1, i2] using this
end Go.Proofs.YtmnfibmlhmeheaaGreatDoor.en
namespace Go.Proofs.YtmnfibmlhmeheaaGreatDoor.en
open Go.RowKit Go.Eb
set_option maxRecDepth 100000
structure LFit (r : SRel) : Prop where
  nr : r.rules.length ≤ 900
  ns : r.sets.length ≤ 900
  np : r.pubs.length ≤ 900
  nq : r.subs.length ≤ 900
  sg : ∀ k, k < r.sets.length → (r.sets.getD k set0).sigs.length ≤ 3000
  fs : ∀ k, k < r.pubs.length → nI (r.pubs.getD k pub0).fst = true
  mx : ∀ k, k < r.pubs.length → nI (r.pubs.getD k pub0).max = true
noncomputable def wsX (a : AX) : List ByteArray := theE Aab a.1.2.1
noncomputable def okX' (a : AX) : Bool := (a.1.1.1 == 0 && (a.1.1.2.1 == 2 && (!a.1.1.2.2.1 && (!a.2.1.2.1 && !a.2.1.2.2.2.1)))) && (okE Aab a.1.2.1 && decide ((wsX a).length ≤ 4000))
noncomputable def nX' (a : AX) : Nat := 2 + (wsX a).length
noncomputable def fX' (a : AX) : Nat → List D := fun i => wcells ((plainW (a.2.1.1 :: a.2.1.2.2.1 :: wsX a)).getD i w0)
theorem cextX (a : AX) (h : okX' a = true) : CX Tryz.prog 16 (dX.enc a).1 (dX.enc a).2 (.agg [.d (dI a.1.1.1), .row 1 2 (nX' a), .d (dB a.1.1.2.2.1), .d (.v (.slice none 0 0))]) [(0, .dead), (1, .row (nX' a) (fX' a) 2 59)] := by
  obtain ⟨⟨⟨ln, n, bl, _, _⟩, x, _⟩, ⟨t1, q1, t2, q2, _⟩, _⟩ := a
  unfold okX' at h
  simp only [Bool.and_eq_true, beq_iff_eq, Bool.not_eq_true', decide_eq_true_eq] at h
  obtain ⟨⟨e1, e2, e3, e4, e5⟩, e6, e7⟩ := h
  subst e1 e2 e3 e4 e5
  exact (cext t1 t2 (theE Aab x) e7).ge (.cons (.refl _) (.cons (ale_d (theE_de e6)) .nil)) (.refl _)
theorem sLs : OrcS Tryz.prog (oPls okN' dcN' okX' nX' fX') := .cons (.inl sPx Tryz.func15 (by kernel_rfl)) (.cons (.or cextX (.inl .nil Tryz.func16 (by kernel_rfl))) (.cons (.inl sPit Tryz.func38 (by kernel_rfl)) sPit))
abbrev aXs (x : SSet) : AX := ((((0 : Int), (0 : Nat) + (1 : Nat) + (1 : Nat), false, (), ()), Aab (SSet.sigs x), ()), (ByteArray.mk #[(115 : UInt8), (101 : UInt8), (116 : UInt8)], false, SSet.name x, false, ()), ())
theorem wsX_set (x : SSet) : wsX (aXs x) = x.sigs := (the_list busC_inj x.sigs).2
theorem okX_set {x : SSet} (h : x.sigs.length ≤ 4000) : okX' (aXs x) = true := by
  unfold okX'
  rw [wsX_set, decide_eq_true h, (the_list busC_inj x.sigs).1]
  rfl
theorem nX_set (x : SSet) : nX' (aXs x) = 2 + x.sigs.length := by unfold nX'; rw [wsX_set]
theorem fX_set (x : SSet) : fX' (aXs x) = fun i => wcells ((plainW (tSet' :: x.name :: x.sigs)).getD i w0) := by unfold fX'; rw [wsX_set]; rfl
theorem ruleC_de (x : SRule) : DEs [dI 0, D.sl 2 3 (Aaf [dS tRule', dB false, dS x.name, dB false, dS x.text, dB true] 2), dB false, D.v (Value.slice none 0 0)] (Aag (encRule x)) := by
  refine .cons (.refl _) (.cons ?_ (.cons (.refl _) (.cons (.nil _ _) .nil)))
  refine .sls fun i hi => ?_
  match i, hi with
  | 0, _ => exact .refl _
  | 1, _ => exact .refl _
  | 2, _ => exact .refl _
section
variable {r : SRel} (h : LFit r) (g : Nat) (hg : 1000 < g)
include h hg
abbrev leafL (n : Nat) (f : Nat → List D) : Option (T (AV × Hp)) := some (T.leaf (AV.c (C.row 0 4 n), [(0, Blk.row n f 4 57)]))
noncomputable abbrev L3 (r : SRel) (g m n : Nat) (f : Nat → List D) (i : Int) := Llst_3 okN' dcN' okX' nX' fX' r g m n f i
noncomputable abbrev L10 (r : SRel) (g m n : Nat) (f : Nat → List D) (i : Int) := Llst_10 okN' dcN' okX' nX' fX' r g m n f i
noncomputable abbrev L15 (r : SRel) (g m n : Nat) (f : Nat → List D) (i : Int) := Llst_15 okN' dcN' okX' nX' fX' r g m n f i
noncomputable abbrev L20 (r : SRel) (g m n : Nat) (f : Nat → List D) (i : Int) := Llst_20 okN' dcN' okX' nX' fX' r g m n f i
theorem q20 (n : Nat) (f : Nat → List D) (bef : List It) (hn : n ≤ 4000) (hr : RLe Aag i0 n f bef) : ∃ n' f', RLe Aag i0 n' f' (bef ++ r.subs.map encSub) ∧ L20 r g g n f 0 = leafL n' f' := by
  have hq := h.nq
  obtain ⟨f', h1, h2⟩ := app_loop (L := fun m n f i => L20 r g m n f i) (K := leafL) (l := r.subs) (d := sub0) (c := Aag) (d0 := i0) (ch := fun x => sayC [tSubscribe', x.loc, x.dev, x.set, x.sig]) (e := encSub) (sz := 4)
    (fun m k n f hk hn => by
      show L20 r g (m + 1) n f k = L20 r g m (n + 1) _ _
      unfold L20
      rw [stlst_20, lt1 hk, cond_true, ge0, tt, cond_true, tn, appOk5 hn, cond_true, nx hk (by omega)]
      generalize Llst_20 okN' dcN' okX' nX' fX' r g m = LL
      rfl)
    (fun m n f => by
      show L20 r g (m + 1) n f (r.subs.length : Int) = _
      unfold L20
      rw [stlst_20, lt0 (Nat.lt_irrefl _), cond_false])
    (fun _ => rfl) (fun _ _ => Aas _) g 0 n f bef (by omega) (by omega) (by omega) hr
  simp only [Nat.sub_zero, List.drop_zero] at h1 h2
  exact ⟨_, f', h1, h2⟩
theorem q15 (n : Nat) (f : Nat → List D) (bef : List It) (hn : n ≤ 3000) (hr : RLe Aag i0 n f bef) : ∃ n' f', RLe Aag i0 n' f' (bef ++ r.pubs.map encPub ++ r.subs.map encSub) ∧ L15 r g g n f 0 = leafL n' f' := by
  have hq := h.np
  obtain ⟨f', h1, h2⟩ := app_loop (L := fun m n f i => L15 r g m n f i) (K := fun n f => L20 r g g n f 0) (l := r.pubs) (d := pub0) (c := Aag) (d0 := i0) (ch := fun x => sayC [tPublish', x.set, decI x.fst, decI x.max]) (e := encPub) (sz := 4)
    (fun m k n f hk hn => by
      show L15 r g (m + 1) n f k = L15 r g m (n + 1) _ _
      unfold L15
      rw [stlst_15, lt1 hk, cond_true, ge0, tt, cond_true, tn, okn (h.fs k hk), cond_true, okn (h.mx k hk), cond_true, appOk5 hn, cond_true, nx hk (by omega)]
      generalize Llst_15 okN' dcN' okX' nX' fX' r g m = LL
      rfl)
    (fun m n f => by
      show L15 r g (m + 1) n f (r.pubs.length : Int) = _
      unfold L15
      rw [stlst_15, lt0 (Nat.lt_irrefl _), cond_false])
    (fun _ => rfl) (fun _ _ => Aas _) g 0 n f bef (by omega) (by omega) (by omega) hr
  simp only [Nat.sub_zero, List.drop_zero] at h1 h2
  obtain ⟨n2, f2, k1, k2⟩ := q20 h g hg _ f' _ (by omega) h1
  exact ⟨n2, f2, k1, h2.trans k2⟩
theorem q10 (n : Nat) (f : Nat → List D) (bef : List It) (hn : n ≤ 2000) (hr : RLe Aag i0 n f bef) : ∃ n' f', RLe Aag i0 n' f' (bef ++ r.sets.map encSet ++ r.pubs.map encPub ++ r.subs.map encSub) ∧ L10 r g g n f 0 = leafL n' f' := by
  have hq := h.ns
  obtain ⟨f', h1, h2⟩ := app_loop (L := fun m n f i => L10 r g m n f i) (K := fun n f => L15 r g g n f 0) (l := r.sets) (d := set0) (c := Aag) (d0 := i0) (ch := fun x => [dI 0, D.sl 2 (nX' (aXs x)) (fX' (aXs x)), dB false, D.v (Value.slice none 0 0)]) (e := encSet) (sz := 4)
    (fun m k n f hk hn => by
      show L10 r g (m + 1) n f k = L10 r g m (n + 1) _ _
      unfold L10
      rw [stlst_10, lt1 hk, cond_true, ge0, tt, cond_true, tn, okX_set (Nat.le_trans (h.sg k hk) (by omega)), cond_true, appOk5 hn, cond_true, nx hk (by omega)])
    (fun m n f => by
      show L10 r g (m + 1) n f (r.sets.length : Int) = _
      unfold L10
      rw [stlst_10, lt0 (Nat.lt_irrefl _), cond_false])
    (fun _ => rfl) (fun k hk => by
      rw [nX_set, fX_set]
      refine .cons (.refl _) (.cons ?_ (.cons (.refl _) (.cons (.nil _ _) .nil)))
      generalize r.sets.getD k set0 = x
      have e : (encSet x).words = plainW (tSet' :: x.name :: x.sigs) := rfl
      rw [e]
      have e2 : (plainW (tSet' :: x.name :: x.sigs)).length = 2 + x.sigs.length := by unfold plainW; simp; omega
      unfold wordsD
      rw [e2]
      exact .refl _) g 0 n f bef (by omega) (by omega) (by omega) hr
  simp only [Nat.sub_zero, List.drop_zero] at h1 h2
  obtain ⟨n2, f2, k1, k2⟩ := q15 h g hg _ f' _ (by omega) h1
  exact ⟨n2, f2, k1, h2.trans k2⟩
theorem q3 (n : Nat) (f : Nat → List D) (bef : List It) (hn : n ≤ 1000) (hr : RLe Aag i0 n f bef) : ∃ n' f', RLe Aag i0 n' f' (bef ++ r.rules.map encRule ++ r.sets.map encSet ++ r.pubs.map encPub ++ r.subs.map encSub) ∧ L3 r g g n f 0 = leafL n' f' := by
  have hq := h.nr
  obtain ⟨f', h1, h2⟩ := app_loop (L := fun m n f i => L3 r g m n f i) (K := fun n f => L10 r g g n f 0) (l := r.rules) (d := rule0) (c := Aag) (d0 := i0) (ch := fun x => [dI 0, D.sl 2 3 (Aaf [dS tRule', dB false, dS x.name, dB false, dS x.text, dB true] 2), dB false, D.v (Value.slice none 0 0)]) (e := encRule) (sz := 4)
    (fun m k n f hk hn => by
      show L3 r g (m + 1) n f k = L3 r g m (n + 1) _ _
      unfold L3
      rw [stlst_3, lt1 hk, cond_true, ge0, tt, cond_true, tn, appOk5 hn, cond_true, nx hk (by omega)]
      generalize Llst_3 okN' dcN' okX' nX' fX' r g m = LL
      rfl)
    (fun m n f => by
      show L3 r g (m + 1) n f (r.rules.length : Int) = _
      unfold L3
      rw [stlst_3, lt0 (Nat.lt_irrefl _), cond_false])
    (fun _ => rfl) (fun _ _ => ruleC_de _) g 0 n f bef (by omega) (by omega) (by omega) hr
  simp only [Nat.sub_zero, List.drop_zero] at h1 h2
  obtain ⟨n2, f2, k1, k2⟩ := q10 h g hg _ f' _ (by omega) h1
  exact ⟨n2, f2, k1, h2.trans k2⟩
end
theorem clst {r : SRel} (h : LFit r) : CX Tryz.prog 19 [aRel r] [] (.c (.row 0 4 (encLst r).length)) [(0, Blk.row (encLst r).length (fun i => Aag ((encLst r).getD i i0)) 4 57)] := by
  obtain ⟨n', f', h1, h2⟩ := q3 h 1001 (by omega) 0 (fun _ => []) [] (by omega) (.nil _)
  have hc := cx_of sLs.ok Tryz.func19 blst rfl ((evlst _ _ _ _ _ r 1001).trans h2)
  have e : n' = (encLst r).length := h1.len
  subst e
  exact hc.le (.refl _) (.cons ⟨rfl, rfl, rfl, fun i hi => h1.le i hi⟩ .nil)
end Go.Proofs.YtmnfibmlhmeheaaGreatDoor.en
namespace Go.Proofs.YtmnfibmlhmeheaaGreatDoor.en
open Go.RowKit Go.Eb
set_option maxRecDepth 100000
theorem aRel_inj : InjA aRel := aG_inj relC_inj
abbrev eR := en1 aRel
theorem eR_inj : InjT eR := en1_inj aRel_inj
noncomputable def nB (r : SRel) : Bool := @decide (NFit r) (Classical.propDecidable _)
theorem nB_iff {r : SRel} : nB r = true ↔ NFit r := by unfold nB; simp
noncomputable def okNf (x : List AV) (H : Hp) : Bool := okG eR nB x && H.length == 0
noncomputable def nNf (x : List AV) : Nat := (encNum (theT eR x)).length
noncomputable def fNf (x : List AV) : Nat → List D := fun i => Aag ((encNum (theT eR x)).getD i i0)
theorem okNf_of {r : SRel} (h : NFit r) : okNf [AV.agg (List.map C.d (relC r))] [] = true := by
  have e : okG eR nB [AV.agg (List.map C.d (relC r))] = true := okG_enc eR_inj r (nB_iff.2 h)
  unfold okNf
  rw [e]
  rfl
theorem theR (r : SRel) : theT eR [AV.agg (List.map C.d (relC r))] = r := theT_enc eR_inj r
theorem okNf_un {x : List AV} {H : Hp} (h : okNf x H = true) : NFit (theT eR x) ∧ Asle x (eR (theT eR x)) ∧ H = [] := by
  unfold okNf okG at h
  simp only [Bool.and_eq_true, beq_iff_eq] at h
  exact ⟨nB_iff.1 h.1.2, theT_le h.1.1, List.eq_nil_of_length_eq_zero h.2⟩
def encS (ws : List ByteArray) : List AV := [.c (.d (Aab ws)), .c (.d (.v (.slice none 0 0)))]
noncomputable def okW' (x : List AV) : Bool := okG encS (fun ws => decide (ws.length ≤ 4000)) x
noncomputable def weW (x : List AV) : D := wordsD (plainW (theT encS x))
theorem okW_of {d : D} {ws : List ByteArray} (h : DE d (Aab ws)) (hl : ws.length ≤ 4000) : okW' [.c (.d d), .c (.d (.v (.slice none 0 0)))] = true ∧ theT encS [.c (.d d), .c (.d (.v (.slice none 0 0)))] = ws := by
  have hx : okX encS [.c (.d d), .c (.d (.v (.slice none 0 0)))] = true := okX_iff.2 ⟨ws, .cons (ale_d h) (.cons (.refl _) .nil)⟩
  have ht := theT_le hx
  have e : theT encS [.c (.d d), .c (.d (.v (.slice none 0 0)))] = ws := buses_below (ale_c (asle_cons ht).1) h
  refine ⟨?_, e⟩
  unfold okW' okG
  rw [hx, e]
  show (true && decide (ws.length ≤ 4000)) = true
  rw [decide_eq_true hl]
  rfl
theorem sSy : OrcS Tryz.prog (oSy okN' dcN' okW' weW) := .cons (.ite (.e Tryz.func42 bsay fun x h => by
  unfold okW' okG at h
  simp only [Bool.and_eq_true, decide_eq_true_eq] at h
  exact ⟨(csay _ h.2).ge (theT_le h.1) (.refl _), rfl⟩) (.inl sDn Tryz.func42 bsay)) .nil
theorem sIt : OrcS Tryz.prog (oIt okN' dcN' okW' weW okNf nNf fNf) := .cons (.mg fun x H h => by
  obtain ⟨h1, h2, rfl⟩ := okNf_un h
  exact (cfun h1).ge h2 (.refl _)) sSy
section
variable {s : SSta} {r : SRel} (h : LFit r) (g : Nat) (hg : 1000 < g) (w : D)
abbrev leafI (w : D) (n : Nat) (f : Nat → List D) : Option (T (AV × Hp)) := some (T.leaf (AV.agg [.d (dI 0), .d w, .d (dB true), .row 0 4 n], [(0, Blk.row n f 4 57)]))
noncomputable abbrev M7 (s : SSta) (r : SRel) (w : D) (g m n : Nat) (f : Nat → List D) (i : Int) := Litm_7 okN' dcN' okW' weW okNf nNf fNf s r g m n f i 0 false 0 w true
noncomputable abbrev M13 (s : SSta) (r : SRel) (w : D) (g m n : Nat) (f : Nat → List D) (i : Int) := Litm_13 okN' dcN' okW' weW okNf nNf fNf s r g m n f i 0 false 0 w true
noncomputable abbrev M17 (s : SSta) (r : SRel) (w : D) (g m n : Nat) (f : Nat → List D) (i : Int) := Litm_17 okN' dcN' okW' weW okNf nNf fNf s r g m n f i 0 false 0 w true
noncomputable abbrev M21 (s : SSta) (r : SRel) (w : D) (g m n : Nat) (f : Nat → List D) (i : Int) := Litm_21 okN' dcN' okW' weW okNf nNf fNf s r g m n f i 0 false 0 w true
include h hg
theorem i21 (n : Nat) (f : Nat → List D) (bef : List It) (hn : n ≤ 4000) (hr : RLe Aag i0 n f bef) : ∃ n' f', RLe Aag i0 n' f' (bef ++ r.subs.map encSub) ∧ M21 s r w g g n f 0 = leafI w n' f' := by
  have hq := h.nq
  obtain ⟨f', h1, h2⟩ := app_loop (L := fun m n f i => M21 s r w g m n f i) (K := leafI w) (l := r.subs) (d := sub0) (c := Aag) (d0 := i0) (ch := fun x => sayC [tSubscribe', x.loc, x.dev, x.set, x.sig]) (e := encSub) (sz := 4)
    (fun m k n f hk hn => by
      show M21 s r w g (m + 1) n f k = M21 s r w g m (n + 1) _ _
      unfold M21
      rw [stitm_21, lt1 hk, cond_true, ge0, tt, cond_true, tn, appOk5 hn, cond_true, nx hk (by omega)]
      generalize Litm_21 okN' dcN' okW' weW okNf nNf fNf s r g m = LL
      rfl)
    (fun m n f => by
      show M21 s r w g (m + 1) n f (r.subs.length : Int) = _
      unfold M21
      rw [stitm_21, lt0 (Nat.lt_irrefl _), cond_false])
    (fun _ => rfl) (fun _ _ => Aas _) g 0 n f bef (by omega) (by omega) (by omega) hr
  simp only [Nat.sub_zero, List.drop_zero] at h1 h2
  exact ⟨_, f', h1, h2⟩
theorem i17 (n : Nat) (f : Nat → List D) (bef : List It) (hn : n ≤ 3000) (hr : RLe Aag i0 n f bef) : ∃ n' f', RLe Aag i0 n' f' (bef ++ r.pubs.map encPub ++ r.subs.map encSub) ∧ M17 s r w g g n f 0 = leafI w n' f' := by
  have hq := h.np
  obtain ⟨f', h1, h2⟩ := app_loop (L := fun m n f i => M17 s r w g m n f i) (K := fun n f => M21 s r w g g n f 0) (l := r.pubs) (d := pub0) (c := Aag) (d0 := i0) (ch := fun x => sayC [tPublish', x.set, decI x.fst, decI x.max]) (e := encPub) (sz := 4)
    (fun m k n f hk hn => by
      show M17 s r w g (m + 1) n f k = M17 s r w g m (n + 1) _ _
      unfold M17
      rw [stitm_17, lt1 hk, cond_true, ge0, tt, cond_true, cond_true, cond_true, tn, okn (h.fs k hk), cond_true, okn (h.mx k hk), cond_true, appOk5 hn, cond_true, nx hk (by omega)]
      generalize Litm_17 okN' dcN' okW' weW okNf nNf fNf s r g m = LL
      rfl)
    (fun m n f => by
      show M17 s r w g (m + 1) n f (r.pubs.length : Int) = _
      unfold M17
      rw [stitm_17, lt0 (Nat.lt_irrefl _), cond_false])
    (fun _ => rfl) (fun _ _ => Aas _) g 0 n f bef (by omega) (by omega) (by omega) hr
  simp only [Nat.sub_zero, List.drop_zero] at h1 h2
  obtain ⟨n2, f2, k1, k2⟩ := i21 h g hg w _ f' _ (by omega) h1
  exact ⟨n2, f2, k1, h2.trans k2⟩
end
theorem setW_len (x : SSet) : (tSet' :: x.name :: x.sigs).length = x.sigs.length + 2 := rfl
abbrev setF (x : SSet) : D := D.sl 1 (2 + x.sigs.length) (appF 2 (Aaf [dS tSet', dS x.name] ((0 : Nat) + (1 : Nat))) fun i => busC (x.sigs.getD i e0))
theorem setF_de (x : SSet) : DE (setF x) (Aab (tSet' :: x.name :: x.sigs)) := by
  have e : (tSet' :: x.name :: x.sigs).length = 2 + x.sigs.length := by simp; omega
  unfold setF
  show DE _ (.sl 1 (tSet' :: x.name :: x.sigs).length _)
  rw [e]
  refine .sls fun i hi => ?_
  unfold appF
  rw [bltD]
  by_cases h : i < 2
  · rw [decide_eq_true h]
    match i, h with
    | 0, _ => exact .refl _
    | 1, _ => exact .refl _
  · rw [decide_eq_false h]
    obtain ⟨j, rfl⟩ : ∃ j, i = j + 2 := ⟨i - 2, by omega⟩
    rw [show j + 2 - 2 = j by omega]
    exact .refl _
section
variable {s : SSta} {r : SRel} (h : LFit r) (g : Nat) (hg : 1000 < g) (w : D)
include h hg
theorem i13 (n : Nat) (f : Nat → List D) (bef : List It) (hn : n ≤ 2000) (hr : RLe Aag i0 n f bef) : ∃ n' f', RLe Aag i0 n' f' (bef ++ r.sets.map encSet ++ r.pubs.map encPub ++ r.subs.map encSub) ∧ M13 s r w g g n f 0 = leafI w n' f' := by
  have hq := h.ns
  obtain ⟨f', h1, h2⟩ := app_loop (L := fun m n f i => M13 s r w g m n f i) (K := fun n f => M17 s r w g g n f 0) (l := r.sets) (d := set0) (c := Aag) (d0 := i0) (ch := fun x => [dI 0, weW [.c (.d (setF x)), .c (.d (.v (.slice none 0 0)))], dB false, D.v (Value.slice none 0 0)]) (e := encSet) (sz := 4)
    (fun m k n f hk hn => by
      show M13 s r w g (m + 1) n f k = M13 s r w g m (n + 1) _ _
      unfold M13
      have hs := h.sg k hk
      have ho : okW' [AV.c (C.d (setF (r.sets.getD k set0))), AV.c (C.d (D.v (Value.slice none (0 : Nat) (0 : Nat))))] = true := (okW_of (setF_de (r.sets.getD k set0)) (by rw [setW_len]; omega)).1
      have ha : (decide (((2 : Nat) + (r.sets.getD k set0).sigs.length) * (16 : Nat) ≤ (140737488355328 : Nat)) && decide ((2 : Nat) + (r.sets.getD k set0).sigs.length ≤ (9223372036854775807 : Nat))) = true := by
        rw [decide_eq_true (by omega), decide_eq_true (by omega)]; rfl
      rw [stitm_13, lt1 hk, cond_true, ge0, tt, cond_true, cond_true, tn, ha, cond_true]
      refine Eq.trans (congrArg (fun b => cond b _ _) ho) ?_
      rw [cond_true, appOk5 hn, cond_true, nx hk (by omega)]
      generalize Litm_13 okN' dcN' okW' weW okNf nNf fNf s r g m = LL
      rfl)
    (fun m n f => by
      show M13 s r w g (m + 1) n f (r.sets.length : Int) = _
      unfold M13
      rw [stitm_13, lt0 (Nat.lt_irrefl _), cond_false])
    (fun _ => rfl) (fun k hk => by
      have hs := h.sg k hk
      have e := (okW_of (setF_de (r.sets.getD k set0)) (by rw [setW_len]; omega)).2
      unfold weW
      rw [e]
      exact .cons (.refl _) (.cons (.refl _) (.cons (.refl _) (.cons (.nil _ _) .nil)))) g 0 n f bef (by omega) (by omega) (by omega) hr
  simp only [Nat.sub_zero, List.drop_zero] at h1 h2
  obtain ⟨n2, f2, k1, k2⟩ := i17 h g hg w _ f' _ (by omega) h1
  exact ⟨n2, f2, k1, h2.trans k2⟩
theorem i7 (n : Nat) (f : Nat → List D) (bef : List It) (hn : n ≤ 1000) (hr : RLe Aag i0 n f bef) : ∃ n' f', RLe Aag i0 n' f' (bef ++ r.rules.map encRule ++ r.sets.map encSet ++ r.pubs.map encPub ++ r.subs.map encSub) ∧ M7 s r w g g n f 0 = leafI w n' f' := by
  have hq := h.nr
  obtain ⟨f', h1, h2⟩ := app_loop (L := fun m n f i => M7 s r w g m n f i) (K := fun n f => M13 s r w g g n f 0) (l := r.rules) (d := rule0) (c := Aag) (d0 := i0) (ch := fun x => [dI 0, D.sl 2 3 (Aaf [dS tRule', dB false, dS x.name, dB false, dS x.text, dB true] 2), dB false, D.v (Value.slice none 0 0)]) (e := encRule) (sz := 4)
    (fun m k n f hk hn => by
      show M7 s r w g (m + 1) n f k = M7 s r w g m (n + 1) _ _
      unfold M7
      rw [stitm_7, lt1 hk, cond_true, ge0, tt, cond_true, cond_true, tn, appOk5 hn, cond_true, nx hk (by omega)]
      generalize Litm_7 okN' dcN' okW' weW okNf nNf fNf s r g m = LL
      rfl)
    (fun m n f => by
      show M7 s r w g (m + 1) n f (r.rules.length : Int) = _
      unfold M7
      rw [stitm_7, lt0 (Nat.lt_irrefl _), cond_false])
    (fun _ => rfl) (fun _ _ => ruleC_de _) g 0 n f bef (by omega) (by omega) (by omega) hr
  simp only [Nat.sub_zero, List.drop_zero] at h1 h2
  obtain ⟨n2, f2, k1, k2⟩ := i13 h g hg w _ f' _ (by omega) h1
  exact ⟨n2, f2, k1, h2.trans k2⟩
end
theorem encNum_len (r : SRel) : (encNum r).length ≤ 12 := by
  have z : ∀ i on fw x r l d, (encZone i on fw x r l d).length ≤ 1 := fun i on fw x r l d => by cases on <;> simp [encZone]
  have e : ∀ b x, (encIf b x).length ≤ 1 := fun b x => by cases b <;> simp [encIf]
  unfold encNum
  simp only [List.length_append]
  have := z 1 r.zon0 r.zfw0 r.zx0 r.zr0 r.zl0 r.zd0
  have := z 2 r.zon1 r.zfw1 r.zx1 r.zr1 r.zl1 r.zd1
  have := z 3 r.zon2 r.zfw2 r.zx2 r.zr2 r.zl2 r.zd2
  have := e (r.min != 0) (say [tLoop', decI r.min, decI r.kre, decI r.kim])
  have := e (r.scheme != 0) (say [tScheme', schemeW r.scheme, decI r.wait, decI r.guard])
  have := e r.don (say [tDefinite', decI r.dpk, decI r.ddl])
  have := e r.ion (say [tInverse', decI r.ipk, decI r.idl])
  have := e r.fon (say [tFail', decI r.fpk, decI r.fdl])
  have := e (r.shots != 0) (say [tReclose', decI r.shots, decI r.dead, decI r.reclaim])
  have := e r.uon (say [tUnder', decI r.upk, decI r.udl])
  have := e r.oon (say [tOver', decI r.opk, decI r.odl])
  have := e (r.diff != 0) (say [tDifferential', decI r.diff, decI r.num, decI r.den, decI r.harm])
  omega
def PFit (s : SSta) (r : SRel) : Prop := r.kind = 4 ∨ ((r.kind = 1 ∨ r.kind = 2 ∨ r.kind = 3) ∧ 0 ≤ r.bay ∧ r.bay < (s.bays.length : Int))
theorem citm {s : SSta} {r : SRel} (hn : NFit r) (hl : LFit r) (hp : PFit s r) : CX Tryz.prog 21 [aSta s, aRel r] [] (.agg [.d (dI 0), .d (wordsD (plainW (relW s r))), .d (dB true), .d (kidsD (encRel s r))]) [] := by
  have fin : ∀ (l : List ByteArray), relW s r = l → Aal Tryz.prog (oIt okN' dcN' okW' weW okNf nNf fNf) annitm 1001 Tryz.f21 (Aad Tryz.f21) [aSta s, aRel r] [] = Litm_4 okN' dcN' okW' weW okNf nNf fNf s r 1001 1001 0 (fun _ => []) 0 false 0 (wordsC l) false →
      CX Tryz.prog 21 [aSta s, aRel r] [] (.agg [.d (dI 0), .d (wordsD (plainW (relW s r))), .d (dB true), .d (kidsD (encRel s r))]) [] := fun l hw he => by
    have h0 : RLe Aag i0 (encNum r).length (fun i => Aag ((encNum r).getD i i0)) (encNum r) := ⟨rfl, fun i hi => .refl _⟩
    obtain ⟨n', f', h1, h2⟩ := i7 (s := s) hl 1001 (by omega) (wordsC l) _ _ _ (by have := encNum_len r; omega) h0
    have key : Aal Tryz.prog (oIt okN' dcN' okW' weW okNf nNf fNf) annitm 1001 Tryz.f21 (Aad Tryz.f21) [aSta s, aRel r] [] = leafI (wordsC l) n' f' := by
      rw [he, stitm_4, okNf_of hn, cond_true]
      unfold nNf fNf
      rw [theR]
      exact h2
    have hc := (cr_of sIt.ok Tryz.func21 bitm rfl key).data (y := .agg [.d (dI 0), .d (wordsC l), .d (dB true), .d (.sl 4 n' f')]) rfl
    refine (CX.of_cr Tryz.func21 bitm hc).le ?_ (.refl _)
    refine ale_of_des (a := [dI 0, wordsC l, dB true, .sl 4 n' f']) (b := [dI 0, wordsD (plainW (relW s r)), dB true, kidsD (encRel s r)]) (.cons (.refl _) (.cons (hw ▸ wordsC_de l) (.cons (.refl _) (.cons ?_ .nil))))
    have h3 : RLe Aag i0 n' f' (encRel s r).kids := by
      show RLe Aag i0 n' f' (encNum r ++ encLst r)
      unfold encLst
      simpa only [List.append_assoc] using h1
    exact (h3.de (sz := 4)).trans (itemsD_de (encRel s r))
  rcases hp with e | ⟨e | e | e, b0, b1⟩
  · refine fin [tRelay', r.name, tBus'] (by unfold relW; rw [e]; rfl) ?_
    have st := itm4 okN' dcN' okW' weW okNf nNf fNf s r 1001
    rw [← relT_eq e] at st
    rw [st]
    generalize Litm_4 okN' dcN' okW' weW okNf nNf fNf s r 1001 1001 = LL
    rfl
  · refine fin [tRelay', r.name, tLine', (s.bays.getD r.bay.toNat bay0).name] (by unfold relW kindW; rw [e]; rfl) ?_
    have st := itm1 okN' dcN' okW' weW okNf nNf fNf s r 1001
    rw [← relT_eq e] at st
    rw [st, decide_eq_true b0, decide_eq_true b1, tt, cond_true]
    generalize Litm_4 okN' dcN' okW' weW okNf nNf fNf s r 1001 1001 = LL
    rfl
  · refine fin [tRelay', r.name, tSource, (s.bays.getD r.bay.toNat bay0).name] (by unfold relW kindW; rw [e]; rfl) ?_
    have st := itm2 okN' dcN' okW' weW okNf nNf fNf s r 1001
    rw [← relT_eq e] at st
    rw [st, decide_eq_true b0, decide_eq_true b1, tt, cond_true]
    generalize Litm_4 okN' dcN' okW' weW okNf nNf fNf s r 1001 1001 = LL
    rfl
  · refine fin [tRelay', r.name, tCoupler, (s.bays.getD r.bay.toNat bay0).name] (by unfold relW kindW; rw [e]; rfl) ?_
    have st := itm3 okN' dcN' okW' weW okNf nNf fNf s r 1001
    rw [← relT_eq e] at st
    rw [st, decide_eq_true b0, decide_eq_true b1, tt, cond_true]
    generalize Litm_4 okN' dcN' okW' weW okNf nNf fNf s r 1001 1001 = LL
    rfl
end Go.Proofs.YtmnfibmlhmeheaaGreatDoor.en
namespace Go.Proofs.YtmnfibmlhmeheaaGreatDoor.en
open Go.RowKit Go.Eb
set_option maxRecDepth 100000
theorem rle_app {β : Type} {c : β → List D} {d0 : β} {n m : Nat} {f g : Nat → List D} {l k : List β} (h : RLe c d0 n f l) (h2 : RLe c d0 m g k) : RLe c d0 (n + m) (appF n f g) (l ++ k) := by
  refine ⟨by rw [h.len, h2.len]; simp, fun i hi => ?_⟩
  unfold appF
  rw [bltD]
  by_cases e : i < n
  · rw [decide_eq_true e, getD_app_lt (by rw [← h.len]; exact e)]; exact h.le i e
  · rw [decide_eq_false e, getD_app_ge (by rw [← h.len]; omega), ← h.len]
    exact h2.le (i - n) (by omega)
structure RFit (s : SSta) (l : List SRel) : Prop where
  nf : ∀ k, k < l.length → NFit (l.getD k rel0)
  lf : ∀ k, k < l.length → LFit (l.getD k rel0)
  pf : ∀ k, k < l.length → PFit s (l.getD k rel0)
  le : l.length ≤ 900
noncomputable def lB' (r : SRel) : Bool := @decide (LFit r) (Classical.propDecidable _)
theorem lB_iff {r : SRel} : lB' r = true ↔ LFit r := by unfold lB'; simp
noncomputable def okLf (x : List AV) (H : Hp) : Bool := okG eR lB' x && H.length == 0
noncomputable def nLf (x : List AV) : Nat := (encLst (theT eR x)).length
noncomputable def fLf (x : List AV) : Nat → List D := fun i => Aag ((encLst (theT eR x)).getD i i0)
theorem okLf_of {r : SRel} (h : LFit r) : okLf [AV.agg (List.map C.d (relC r))] [] = true := by
  have e : okG eR lB' [AV.agg (List.map C.d (relC r))] = true := okG_enc eR_inj r (lB_iff.2 h)
  unfold okLf
  rw [e]
  rfl
theorem okLf_un {x : List AV} {H : Hp} (h : okLf x H = true) : LFit (theT eR x) ∧ Asle x (eR (theT eR x)) ∧ H = [] := by
  unfold okLf okG at h
  simp only [Bool.and_eq_true, beq_iff_eq] at h
  exact ⟨lB_iff.1 h.1.2, theT_le h.1.1, List.eq_nil_of_length_eq_zero h.2⟩
abbrev aSR (s : SSta) (l : List SRel) : List AV := [aSta s, .c (.d (relsD l))]
noncomputable def okEq (y x : List AV) : Bool := @decide (x = y) (Classical.propDecidable _)
theorem okEq_iff {y x : List AV} : okEq y x = true ↔ x = y := by unfold okEq; simp
abbrev tIE (e : Int × Int) : AV := .tup [(false, [.d (dI e.1)]), (false, [.d (dI e.2)])]
noncomputable def ZQ (s : SSta) (l : List SRel) (e : Int × Int) : KQ where
  okc := okEq (aSR s l)
  ci _ := e.1
  ce _ := e.2
  okn := okNf
  nn := nNf
  fn := fNf
  okl := okLf
  nl := nLf
  fl := fLf
theorem sPe {s : SSta} {l : List SRel} {e : Int × Int} (hck : CX Tryz.prog 14 (aSR s l) [] (tIE e) []) : OrcS Tryz.prog (oPe (ZQ s l e)) :=
  .cons (.g fun x h => by obtain rfl := okEq_iff.1 h; exact hck) (.cons (.mg fun x H h => by
    obtain ⟨h1, h2, rfl⟩ := okNf_un h
    exact (cnum h1).ge h2 (.refl _)) (.cons (.mg fun x H h => by
    obtain ⟨h1, h2, rfl⟩ := okLf_un h
    exact (clst h1).ge h2 (.refl _)) (.cons (.inl sPx Tryz.func15 (by kernel_rfl)) (.cons (.inl .nil Tryz.func16 (by kernel_rfl)) (.cons (.inl .nil Tryz.func17 (by kernel_rfl)) .nil)))))
noncomputable def kidF (x : SRel) : D := D.sl (3 + 1) (nNf [aRel x] + nLf [aRel x]) (appF (nNf [aRel x]) (fNf [aRel x]) (fLf [aRel x]))
theorem kidF_de (s : SSta) (x : SRel) : DE (kidF x) (kidsD (encRel s x)) := by
  have a : RLe Aag i0 (nNf [aRel x]) (fNf [aRel x]) (encNum x) := by
    have e : theT eR [aRel x] = x := theR x
    unfold nNf fNf
    rw [e]
    exact ⟨rfl, fun i hi => .refl _⟩
  have b : RLe Aag i0 (nLf [aRel x]) (fLf [aRel x]) (encLst x) := by
    have e : theT eR [aRel x] = x := theR x
    unfold nLf fLf
    rw [e]
    exact ⟨rfl, fun i hi => .refl _⟩
  exact ((rle_app a b).de (sz := 4)).trans (itemsD_de (encRel s x))
theorem encLst_len {r : SRel} (h : LFit r) : (encLst r).length ≤ 3600 := by
  have := h.nr
  have := h.ns
  have := h.np
  have := h.nq
  unfold encLst
  simp
  omega
def encRO (s : SSta) (l : List SRel) (e : Int) : List It := bif e == 0 then encRels s l else []
theorem cpenS {s : SSta} {l : List SRel} {e : Int × Int} (hck : CX Tryz.prog 14 (aSR s l) [] (tIE e) []) (hf : e.2 = 0 → RFit s l) : CX Tryz.prog 7 (aSR s l) [] (.c (.d (itemsD (encRO s l e.2)))) [] := by
  have ev := evpen (ZQ s l e) s l 1001
  have k1 : KQ.okc (ZQ s l e) [AV.agg (List.map C.d (staC s)), AV.c (C.d (Aac ((53 : Nat)) relC rel0 l))] = true := okEq_iff.2 rfl
  rw [k1, cond_true] at ev
  cases h0 : (e.2 == 0) with
  | false =>
    have h1 : (KQ.ce (ZQ s l e) [AV.agg (List.map C.d (staC s)), AV.c (C.d (Aac ((53 : Nat)) relC rel0 l))] != (0 : Int)) = true := by
      show (e.2 != 0) = true
      unfold bne
      rw [h0]; rfl
    rw [h1, cond_true] at ev
    unfold encRO
    rw [h0]
    exact (cx_of (sPe hck).ok Tryz.func7 bpen rfl ev).le (ale_d (.nil _ _)) (.refl _)
  | true =>
    have he : e.2 = 0 := eq_of_beq h0
    have hR := hf he
    have h1 : (KQ.ce (ZQ s l e) [AV.agg (List.map C.d (staC s)), AV.c (C.d (Aac ((53 : Nat)) relC rel0 l))] != (0 : Int)) = false := by
      show (e.2 != 0) = false
      rw [he]; rfl
    rw [h1, cond_false] at ev
    have hle := hR.le
    obtain ⟨f', r1, r2⟩ := app_loop (L := fun m n f i => Lpen_6 (ZQ s l e) s l 1001 m n f i) (K := fun n f => some (T.leaf (AV.c (C.row 0 4 n), [(0, Blk.row n f 4 57)]))) (l := l) (d := rel0) (c := Aag) (d0 := i0) (ch := fun x => [dI 0, wordsC (relW s x), dB true, kidF x]) (e := encRel s) (sz := 4)
      (fun m k n f hk hn => by
        show Lpen_6 (ZQ s l e) s l 1001 (m + 1) n f k = Lpen_6 (ZQ s l e) s l 1001 m (n + 1) _ _
        have step : ∀ w, Lpen_12 (ZQ s l e) s l 1001 m 1001 n f k 0 w false = Lpen_6 (ZQ s l e) s l 1001 m (n + 1) (appF n f (Aaf [dI 0, w, dB true, kidF (l.getD k rel0)] 4)) ((k + 1 : Nat) : Int) := fun w => by
          have hn1 := okNf_of (hR.nf k hk)
          have hl1 := okLf_of (hR.lf k hk)
          have q1 : KQ.okn (ZQ s l e) [AV.agg (List.map C.d (relC (List.getD l k rel0)))] [] = true := hn1
          have q2 : KQ.okl (ZQ s l e) [AV.agg (List.map C.d (relC (List.getD l k rel0)))] [] = true := hl1
          have z1 : nNf [AV.agg (List.map C.d (relC (List.getD l k rel0)))] ≤ 12 := by
            unfold nNf
            rw [theR]
            exact encNum_len _
          have z2 : nLf [AV.agg (List.map C.d (relC (List.getD l k rel0)))] ≤ 3600 := by
            unfold nLf
            rw [theR]
            exact encLst_len (hR.lf k hk)
          have q3 : (decide ((KQ.nn (ZQ s l e) [AV.agg (List.map C.d (relC (List.getD l k rel0)))] + KQ.nl (ZQ s l e) [AV.agg (List.map C.d (relC (List.getD l k rel0)))]) * (64 : Nat) ≤ (140737488355328 : Nat)) && decide (KQ.nn (ZQ s l e) [AV.agg (List.map C.d (relC (List.getD l k rel0)))] + KQ.nl (ZQ s l e) [AV.agg (List.map C.d (relC (List.getD l k rel0)))] ≤ (9223372036854775807 : Nat))) = true := by
            show (decide ((nNf _ + nLf _) * 64 ≤ _) && decide (nNf _ + nLf _ ≤ _)) = true
            rw [decide_eq_true (by omega), decide_eq_true (by omega)]; rfl
          rw [stpen_12, tn, q1, cond_true, q2, cond_true, q3, cond_true, appOk5 hn, cond_true, nx hk (by omega)]
          rfl
        rw [stpen_6, lt1 hk, cond_true, ge0, tt, cond_true, tn]
        rcases hR.pf k hk with p | ⟨p | p | p, b0, b1⟩
        · rw [p, show ((4 : Int) == 4) = true by decide, cond_true]
          refine (step _).trans ?_
          generalize Lpen_6 (ZQ s l e) s l 1001 m = LL
          have ew : relW s (l.getD k rel0) = [tRelay', (l.getD k rel0).name, tBus'] := by unfold relW; rw [p]; rfl
          rw [ew]
          rfl
        · rw [p, show ((1 : Int) == 4) = false by decide, cond_false, show ((1 : Int) == 1) = true by decide, cond_true, decide_eq_true b0, decide_eq_true b1, tt, cond_true]
          refine (step _).trans ?_
          generalize Lpen_6 (ZQ s l e) s l 1001 m = LL
          have ew : relW s (l.getD k rel0) = [tRelay', (l.getD k rel0).name, tLine', (s.bays.getD (l.getD k rel0).bay.toNat bay0).name] := by unfold relW kindW; rw [p]; rfl
          rw [ew]
          rfl
        · rw [p, show ((2 : Int) == 4) = false by decide, cond_false, show ((2 : Int) == 1) = false by decide, cond_false, show ((2 : Int) == 2) = true by decide, cond_true, decide_eq_true b0, decide_eq_true b1, tt, cond_true]
          refine (step _).trans ?_
          generalize Lpen_6 (ZQ s l e) s l 1001 m = LL
          have ew : relW s (l.getD k rel0) = [tRelay', (l.getD k rel0).name, tSource, (s.bays.getD (l.getD k rel0).bay.toNat bay0).name] := by unfold relW kindW; rw [p]; rfl
          rw [ew]
          rfl
        · rw [p, show ((3 : Int) == 4) = false by decide, cond_false, show ((3 : Int) == 1) = false by decide, cond_false, show ((3 : Int) == 2) = false by decide, cond_false, decide_eq_true b0, decide_eq_true b1, tt, cond_true]
          refine (step _).trans ?_
          generalize Lpen_6 (ZQ s l e) s l 1001 m = LL
          have ew : relW s (l.getD k rel0) = [tRelay', (l.getD k rel0).name, tCoupler, (s.bays.getD (l.getD k rel0).bay.toNat bay0).name] := by unfold relW kindW; rw [p]; rfl
          rw [ew]
          rfl)
      (fun m n f => by
        show Lpen_6 (ZQ s l e) s l 1001 (m + 1) n f (l.length : Int) = _
        rw [stpen_6, lt0 (Nat.lt_irrefl _), cond_false])
      (fun _ => rfl) (fun k hk => bayC_de (x := encRel s (l.getD k rel0)) rfl rfl (wordsC_de _) (kidF_de s _)) 1001 0 0 (fun _ => []) [] (by omega) (by omega) (by omega) (.nil _)
    simp only [Nat.sub_zero, List.drop_zero, List.nil_append] at r1 r2
    have hc := (cr_of (sPe hck).ok Tryz.func7 bpen rfl (ev.trans r2)).data (y := .c (.d (.sl 4 (0 + l.length) f'))) rfl
    refine (CX.of_cr Tryz.func7 bpen hc).le ?_ (.refl _)
    unfold encRO
    rw [h0]
    exact ale_d (r1.de (sz := 4))
end Go.Proofs.YtmnfibmlhmeheaaGreatDoor.en
namespace Go.Eb
open Go.RowKit
def namesS (s : SSta) : List ByteArray := s.buses ++ (s.lines.map SLine.name ++ (s.srcs.map SSrc.name ++ s.bays.map SBay.name))
end Go.Eb
namespace Go.Proofs.YtmnfibmlhmeheaaGreatDoor.st
open Go.RowKit Go.Eb
noncomputable def ann15 := annOf [(4, ⟨[0, 16, 17], []⟩)]
noncomputable def L15 (s : ByteArray) (g m : Nat) (i : Int) := LK Tryz.prog Orc.nil ann15 0 g Tryz.f49 4 m ⟨frm [(0, vS s), (16, vI s.size), (17, vI i)] 0 Tryz.f49.ntmps, [], 0⟩
theorem ev15 (s : ByteArray) (g : Nat) : Aal Tryz.prog Orc.nil ann15 g Tryz.f49 (Aad Tryz.f49) [vS s] [] =
 (bif (↑(ByteArray.size s) : Int) == (0 : Int) then some (T.leaf (AV.c (.d (.v (.bool false))), [])) else (bif decide ((↑(ByteArray.size s) : Int) > (12 : Int)) then some
 (T.leaf (AV.c (.d (.v (.bool false))), [])) else L15 s g g ((0 : Int)))) := by kernel_rfl
theorem st15 (s : ByteArray) (g m : Nat) (i : Int) : L15 s g (m + 1) i =
 (bif decide (i < (↑(ByteArray.size s) : Int)) then (bif decide ((0 : Int) ≤ i) && decide (i < (↑(ByteArray.size s) : Int)) then (bif decide ((↑(UInt8.toNat (List.getD (Array.toList
 (ByteArray.data s)) (Int.toNat i) 0)) : Int) ≥ (65 : Int)) then (bif decide ((↑(UInt8.toNat (List.getD (Array.toList (ByteArray.data s)) (Int.toNat i) 0)) : Int)
 ≤ (90 : Int)) then (bif decide ((↑(UInt8.toNat (List.getD (Array.toList (ByteArray.data s)) (Int.toNat i) 0)) : Int) ≥ (48 : Int)) then (bif decide ((↑(UInt8.toNat
 (List.getD (Array.toList (ByteArray.data s)) (Int.toNat i) 0)) : Int) ≤ (57 : Int)) then L15 s g m (IntKind.wrap .i64 (i + (1 : Int))) else L15 s g m (IntKind.wrap
 IntKind.i64 (i + (1 : Int)))) else L15 s g m (IntKind.wrap .i64 (i + (1 : Int)))) else (bif decide ((↑(UInt8.toNat (List.getD (Array.toList (ByteArray.data s)) (Int.toNat i)
 0)) : Int) ≥ (97 : Int)) then (bif decide ((↑(UInt8.toNat (List.getD (Array.toList (ByteArray.data s)) (Int.toNat i) 0)) : Int) ≥ (48 : Int)) then (bif decide
 ((↑(UInt8.toNat (List.getD (Array.toList (ByteArray.data s)) (Int.toNat i) 0)) : Int) ≤ (57 : Int)) then (bif !decide ((↑(UInt8.toNat (List.getD (Array.toList
 (ByteArray.data s)) (Int.toNat i) 0)) : Int) ≤ (122 : Int)) then (bif i == (0 : Int) then some (T.leaf (AV.c (.d (.v (.bool false))), [])) else L15 s g m
 (IntKind.wrap .i64 (i + (1 : Int)))) else L15 s g m (IntKind.wrap .i64 (i + (1 : Int)))) else (bif !decide ((↑(UInt8.toNat (List.getD (Array.toList (ByteArray.data s))
 (Int.toNat i) 0)) : Int) ≤ (122 : Int)) then (bif i == (0 : Int) then some (T.leaf (AV.c (.d (.v (.bool false))), [])) else (bif !(↑(UInt8.toNat (List.getD
 (Array.toList (ByteArray.data s)) (Int.toNat i) 0)) : Int) == (95 : Int) then some (T.leaf (AV.c (.d (.v (.bool false))), [])) else L15 s g m (IntKind.wrap
 IntKind.i64 (i + (1 : Int))))) else L15 s g m (IntKind.wrap .i64 (i + (1 : Int))))) else (bif !decide ((↑(UInt8.toNat (List.getD (Array.toList (ByteArray.data s)) (Int.toNat
 i) 0)) : Int) ≤ (122 : Int)) then (bif i == (0 : Int) then some (T.leaf (AV.c (.d (.v (.bool false))), [])) else (bif !(↑(UInt8.toNat (List.getD (Array.toList
 (ByteArray.data s)) (Int.toNat i) 0)) : Int) == (95 : Int) then some (T.leaf (AV.c (.d (.v (.bool false))), [])) else L15 s g m (IntKind.wrap .i64 (i + (1 :
 Int))))) else L15 s g m (IntKind.wrap .i64 (i + (1 : Int))))) else (bif decide ((↑(UInt8.toNat (List.getD (Array.toList (ByteArray.data s)) (Int.toNat i) 0)) : Int)
 ≥ (48 : Int)) then (bif decide ((↑(UInt8.toNat (List.getD (Array.toList (ByteArray.data s)) (Int.toNat i) 0)) : Int) ≤ (57 : Int)) then (bif i == (0 : Int) then some
 (T.leaf (AV.c (.d (.v (.bool false))), [])) else L15 s g m (IntKind.wrap .i64 (i + (1 : Int)))) else (bif i == (0 : Int) then some (T.leaf (AV.c (C.d (D.v (Value.bool
 false))), [])) else (bif !(↑(UInt8.toNat (List.getD (Array.toList (ByteArray.data s)) (Int.toNat i) 0)) : Int) == (95 : Int) then some (T.leaf (AV.c (C.d (D.v (Value.bool
 false))), [])) else L15 s g m (IntKind.wrap .i64 (i + (1 : Int)))))) else (bif i == (0 : Int) then some (T.leaf (AV.c (.d (.v (.bool false))), [])) else (bif
 !(↑(UInt8.toNat (List.getD (Array.toList (ByteArray.data s)) (Int.toNat i) 0)) : Int) == (95 : Int) then some (T.leaf (AV.c (.d (.v (.bool false))), [])) else L15 s
 g m (IntKind.wrap .i64 (i + (1 : Int)))))))) else (bif decide ((↑(UInt8.toNat (List.getD (Array.toList (ByteArray.data s)) (Int.toNat i) 0)) : Int) ≥ (97 : Int))
 then (bif decide ((↑(UInt8.toNat (List.getD (Array.toList (ByteArray.data s)) (Int.toNat i) 0)) : Int) ≥ (48 : Int)) then (bif decide ((↑(UInt8.toNat (List.getD
 (Array.toList (ByteArray.data s)) (Int.toNat i) 0)) : Int) ≤ (57 : Int)) then (bif !decide ((↑(UInt8.toNat (List.getD (Array.toList (ByteArray.data s)) (Int.toNat i) (0 :
 UInt8))) : Int) ≤ (122 : Int)) then (bif i == (0 : Int) then some (T.leaf (AV.c (.d (.v (.bool false))), [])) else L15 s g m (IntKind.wrap .i64 (i + (1 : Int)))) else
 L15 s g m (IntKind.wrap .i64 (i + (1 : Int)))) else (bif !decide ((↑(UInt8.toNat (List.getD (Array.toList (ByteArray.data s)) (Int.toNat i) 0)) : Int) ≤ (122 :
 Int)) then (bif i == (0 : Int) then some (T.leaf (AV.c (.d (.v (.bool false))), [])) else (bif !(↑(UInt8.toNat (List.getD (Array.toList (ByteArray.data s)) (Int.toNat i) (0 :
 UInt8))) : Int) == (95 : Int) then some (T.leaf (AV.c (.d (.v (.bool false))), [])) else L15 s g m (IntKind.wrap .i64 (i + (1 : Int))))) else L15 s g m (IntKind.wrap
 IntKind.i64 (i + (1 : Int))))) else (bif !decide ((↑(UInt8.toNat (List.getD (Array.toList (ByteArray.data s)) (Int.toNat i) 0)) : Int) ≤ (122 : Int)) then (bif i == (0 :
 Int) then some (T.leaf (AV.c (.d (.v (.bool false))), [])) else (bif !(↑(UInt8.toNat (List.getD (Array.toList (ByteArray.data s)) (Int.toNat i) 0)) : Int) == (95 :
 Int) then some (T.leaf (AV.c (.d (.v (.bool false))), [])) else L15 s g m (IntKind.wrap .i64 (i + (1 : Int))))) else L15 s g m (IntKind.wrap .i64 (i + (1 :
 Int))))) else (bif decide ((↑(UInt8.toNat (List.getD (Array.toList (ByteArray.data s)) (Int.toNat i) 0)) : Int) ≥ (48 : Int)) then (bif decide ((↑(UInt8.toNat (List.getD
 (Array.toList (ByteArray.data s)) (Int.toNat i) 0)) : Int) ≤ (57 : Int)) then (bif i == (0 : Int) then some (T.leaf (AV.c (.d (.v (.bool false))), [])) else L15 s g
 m (IntKind.wrap .i64 (i + (1 : Int)))) else (bif i == (0 : Int) then some (T.leaf (AV.c (.d (.v (.bool false))), [])) else (bif !(↑(UInt8.toNat (List.getD
 (Array.toList (ByteArray.data s)) (Int.toNat i) 0)) : Int) == (95 : Int) then some (T.leaf (AV.c (.d (.v (.bool false))), [])) else L15 s g m (IntKind.wrap
 IntKind.i64 (i + (1 : Int)))))) else (bif i == (0 : Int) then some (T.leaf (AV.c (.d (.v (.bool false))), [])) else (bif !(↑(UInt8.toNat (List.getD (Array.toList
 (ByteArray.data s)) (Int.toNat i) 0)) : Int) == (95 : Int) then some (T.leaf (AV.c (.d (.v (.bool false))), [])) else L15 s g m (IntKind.wrap .i64 (i + (1 :
 Int)))))))) else none) else some (T.leaf (AV.c (.d (.v (.bool true))), []))) := by kernel_rfl
noncomputable def ann16 := annOf [(4, ⟨[0, 3], []⟩)]
noncomputable def L16 (s : ByteArray) (g m : Nat) (i : Int) := LK Tryz.prog Orc.nil ann16 0 g Tryz.f31 4 m ⟨frm [(0, vS s), (3, vI i)] 0 Tryz.f31.ntmps, [], 0⟩
theorem ev16 (s : ByteArray) (g : Nat) : Aal Tryz.prog Orc.nil ann16 g Tryz.f31 (Aad Tryz.f31) [vS s] [] =
 (bif decide ((↑(ByteArray.size s) : Int) < (1 : Int)) then some (T.leaf (AV.c (.d (.v (.bool false))), [])) else (bif decide ((↑(ByteArray.size s) : Int) > (12 : Int)) then
 some (T.leaf (AV.c (.d (.v (.bool false))), [])) else L16 s g g ((0 : Int)))) := by kernel_rfl
theorem st16 (s : ByteArray) (g m : Nat) (i : Int) : L16 s g (m + 1) i =
 (bif decide (i < (↑(ByteArray.size s) : Int)) then (bif decide ((0 : Int) ≤ i) && decide (i < (↑(ByteArray.size s) : Int)) then (bif decide ((↑(UInt8.toNat (List.getD (Array.toList
 (ByteArray.data s)) (Int.toNat i) 0)) : Int) ≥ (97 : Int)) then (bif decide ((↑(UInt8.toNat (List.getD (Array.toList (ByteArray.data s)) (Int.toNat i) 0)) : Int)
 ≤ (122 : Int)) then L16 s g m (IntKind.wrap .i64 (i + (1 : Int))) else (bif decide ((↑(UInt8.toNat (List.getD (Array.toList (ByteArray.data s)) (Int.toNat i) 0)) :
 Int) ≥ (65 : Int)) then (bif !decide ((↑(UInt8.toNat (List.getD (Array.toList (ByteArray.data s)) (Int.toNat i) 0)) : Int) ≤ (90 : Int)) then (bif i == (0 : Int) then some
 (T.leaf (AV.c (.d (.v (.bool false))), [])) else (bif decide ((↑(UInt8.toNat (List.getD (Array.toList (ByteArray.data s)) (Int.toNat i) 0)) : Int) < (48 : Int))
 then (bif (↑(UInt8.toNat (List.getD (Array.toList (ByteArray.data s)) (Int.toNat i) 0)) : Int) != (95 : Int) then some (T.leaf (AV.c (.d (.v (.bool false))), []))
 else L16 s g m (IntKind.wrap .i64 (i + (1 : Int)))) else (bif decide ((↑(UInt8.toNat (List.getD (Array.toList (ByteArray.data s)) (Int.toNat i) 0)) : Int) > (57 :
 Int)) then (bif (↑(UInt8.toNat (List.getD (Array.toList (ByteArray.data s)) (Int.toNat i) 0)) : Int) != (95 : Int) then some (T.leaf (AV.c (.d (.v (.bool false))),
 [])) else L16 s g m (IntKind.wrap .i64 (i + (1 : Int)))) else L16 s g m (IntKind.wrap .i64 (i + (1 : Int)))))) else L16 s g m (IntKind.wrap .i64 (i + (1 :
 Int)))) else (bif i == (0 : Int) then some (T.leaf (AV.c (.d (.v (.bool false))), [])) else (bif decide ((↑(UInt8.toNat (List.getD (Array.toList (ByteArray.data s))
 (Int.toNat i) 0)) : Int) < (48 : Int)) then (bif (↑(UInt8.toNat (List.getD (Array.toList (ByteArray.data s)) (Int.toNat i) 0)) : Int) != (95 : Int) then some
 (T.leaf (AV.c (.d (.v (.bool false))), [])) else L16 s g m (IntKind.wrap .i64 (i + (1 : Int)))) else (bif decide ((↑(UInt8.toNat (List.getD (Array.toList
 (ByteArray.data s)) (Int.toNat i) 0)) : Int) > (57 : Int)) then (bif (↑(UInt8.toNat (List.getD (Array.toList (ByteArray.data s)) (Int.toNat i) 0)) : Int) != (95
 : Int) then some (T.leaf (AV.c (.d (.v (.bool false))), [])) else L16 s g m (IntKind.wrap .i64 (i + (1 : Int)))) else L16 s g m (IntKind.wrap .i64 (i + (1 :
 Int)))))))) else (bif decide ((↑(UInt8.toNat (List.getD (Array.toList (ByteArray.data s)) (Int.toNat i) 0)) : Int) ≥ (65 : Int)) then (bif !decide ((↑(UInt8.toNat
 (List.getD (Array.toList (ByteArray.data s)) (Int.toNat i) 0)) : Int) ≤ (90 : Int)) then (bif i == (0 : Int) then some (T.leaf (AV.c (.d (.v (.bool false))), []))
 else (bif decide ((↑(UInt8.toNat (List.getD (Array.toList (ByteArray.data s)) (Int.toNat i) 0)) : Int) < (48 : Int)) then (bif (↑(UInt8.toNat (List.getD (Array.toList
 (ByteArray.data s)) (Int.toNat i) 0)) : Int) != (95 : Int) then some (T.leaf (AV.c (.d (.v (.bool false))), [])) else L16 s g m (IntKind.wrap .i64 (i + (1 :
 Int)))) else (bif decide ((↑(UInt8.toNat (List.getD (Array.toList (ByteArray.data s)) (Int.toNat i) 0)) : Int) > (57 : Int)) then (bif (↑(UInt8.toNat (List.getD
 (Array.toList (ByteArray.data s)) (Int.toNat i) 0)) : Int) != (95 : Int) then some (T.leaf (AV.c (.d (.v (.bool false))), [])) else L16 s g m (IntKind.wrap
 IntKind.i64 (i + (1 : Int)))) else L16 s g m (IntKind.wrap .i64 (i + (1 : Int)))))) else L16 s g m (IntKind.wrap .i64 (i + (1 : Int)))) else (bif i == (0 : Int) then
 some (T.leaf (AV.c (.d (.v (.bool false))), [])) else (bif decide ((↑(UInt8.toNat (List.getD (Array.toList (ByteArray.data s)) (Int.toNat i) 0)) : Int) < (48 :
 Int)) then (bif (↑(UInt8.toNat (List.getD (Array.toList (ByteArray.data s)) (Int.toNat i) 0)) : Int) != (95 : Int) then some (T.leaf (AV.c (.d (.v (.bool false))),
 [])) else L16 s g m (IntKind.wrap .i64 (i + (1 : Int)))) else (bif decide ((↑(UInt8.toNat (List.getD (Array.toList (ByteArray.data s)) (Int.toNat i) 0)) : Int) >
 (57 : Int)) then (bif (↑(UInt8.toNat (List.getD (Array.toList (ByteArray.data s)) (Int.toNat i) 0)) : Int) != (95 : Int) then some (T.leaf (AV.c (C.d (D.v (Value.bool
 false))), [])) else L16 s g m (IntKind.wrap .i64 (i + (1 : Int)))) else L16 s g m (IntKind.wrap .i64 (i + (1 : Int)))))))) else none) else some (T.leaf (AV.c (C.d (D.v
 (Value.bool true))), []))) := by kernel_rfl
noncomputable def ann46 := annOf [(2, ⟨[0, 1, 5], []⟩)]
noncomputable def L46 (l : List ByteArray) (s : ByteArray) (g m : Nat) (i : Int) := LK Tryz.prog Orc.nil ann46 0 g Tryz.f85 2 m ⟨frm [(0, .c (.d (Aab l))), (1, vS s), (5, vI i)] 0 Tryz.f85.ntmps, [], 0⟩
theorem ev46 (l : List ByteArray) (s : ByteArray) (g : Nat) : Aal Tryz.prog Orc.nil ann46 g Tryz.f85 (Aad Tryz.f85) [.c (.d (Aab l)), vS s] [] =
 L46 l s g g ((0 : Int)) := by kernel_rfl
theorem st46 (l : List ByteArray) (s : ByteArray) (g m : Nat) (i : Int) : L46 l s g (m + 1) i =
 (bif decide (i < (↑(List.length l) : Int)) then (bif decide ((0 : Int) ≤ i) && decide (i < (↑(List.length l) : Int)) then (bif ByteArray.toList (List.getD l (Int.toNat i) e0) ==
 ByteArray.toList s then some (T.leaf (AV.c (.d (.v (.int .i64 i))), [])) else L46 l s g m (IntKind.wrap .i64 (i + (1 : Int)))) else none) else some (T.leaf
 (AV.c (.d (.v (.int .i64 (-1 : Int)))), []))) := by kernel_rfl
noncomputable def ann7 := annOf [(4, ⟨[1, 3], []⟩)]
noncomputable def L7 (s : SSta) (g m : Nat) (i : Int) := LK Tryz.prog Orc.nil ann7 0 g Tryz.f11 4 m ⟨frm [(1, .c (.ptr 0 0)), (3, vI i)] 0 Tryz.f11.ntmps, [(0, .cells ((staC s).map .d) 27)], 1⟩
theorem ev7 (s : SSta) (g : Nat) : Aal Tryz.prog Orc.nil ann7 g Tryz.f11 (Aad Tryz.f11) [aSta s] [] =
 (bif decide ((↑(List.length (SSta.buses s)) : Int) > (8 : Int)) then some (T.leaf (AV.c (.d (.v (.bool true))), [])) else (bif decide ((↑(List.length (SSta.lines s)) : Int) >
 (10 : Int)) then some (T.leaf (AV.c (.d (.v (.bool true))), [])) else (bif decide ((↑(List.length (SSta.srcs s)) : Int) > (8 : Int)) then some (T.leaf (AV.c (C.d (D.v
 (Value.bool true))), [])) else (bif decide ((↑(List.length (SSta.bays s)) : Int) > (20 : Int)) then some (T.leaf (AV.c (.d (.v (.bool true))), [])) else L7 s g g ((0 :
 Int)))))) := by kernel_rfl
theorem st7 (s : SSta) (g m : Nat) (i : Int) : L7 s g (m + 1) i =
 (bif decide (i < (↑(List.length (SSta.bays s)) : Int)) then (bif decide ((0 : Int) ≤ i) && decide (i < (↑(List.length (SSta.bays s)) : Int)) then (bif decide ((↑(List.length
 (SBay.links (List.getD (SSta.bays s) (Int.toNat i) bay0))) : Int) > (6 : Int)) then some (T.leaf (AV.c (.d (.v (.bool true))), [])) else L7 s g m (IntKind.wrap .i64 (i
 + (1 : Int)))) else none) else some (T.leaf (AV.c (.d (.v (.bool false))), []))) := by kernel_rfl
end Go.Proofs.YtmnfibmlhmeheaaGreatDoor.st
namespace Go.Proofs.YtmnfibmlhmeheaaGreatDoor.st
open Go.RowKit Go.Eb
theorem b15 : Tryz.f49.body = some (Aad Tryz.f49) := by kernel_rfl
theorem b16 : Tryz.f31.body = some (Aad Tryz.f31) := by kernel_rfl
theorem z0 (k : Nat) : ((k : Int) == 0) = (k == 0) := by cases k <;> rfl
theorem lp15 (s : ByteArray) (g : Nat) (hs : s.size ≤ 12) : ∀ (m k : Nat), k ≤ s.size → s.size - k < m → L15 s g m k = some (.leaf (vB (nmT k (s.data.toList.drop k)), []))
  | 0, k, _, h => by omega
  | m + 1, k, hk, h => by
    rw [st15]
    by_cases hlt : k < s.size
    · have hl : k < s.data.toList.length := by simpa using hlt
      have ih := lp15 s g hs m (k + 1) (by omega) (by omega)
      rw [drop_at' (d := 0) hl]
      simp only [lt1 hlt, ge0, tn, Bool.and_self, cond_true, nx hlt (by omega), ih, nmT, letterB, otherB, ge_iff_le, z0, bne]
      generalize s.data.toList.getD k 0 = c
      generalize nmT (k + 1) (s.data.toList.drop (k + 1)) = t
      generalize decide (65 ≤ (c.toNat : Int)) = a1
      generalize decide ((c.toNat : Int) ≤ 90) = a2
      generalize decide (97 ≤ (c.toNat : Int)) = b1
      generalize decide ((c.toNat : Int) ≤ 122) = b2
      generalize decide (48 ≤ (c.toNat : Int)) = d1
      generalize decide ((c.toNat : Int) ≤ 57) = d2
      generalize ((c.toNat : Int) == 95) = e1
      generalize (k == 0) = z
      cases a1 <;> cases a2 <;> cases b1 <;> cases b2 <;> cases d1 <;> cases d2 <;> cases e1 <;> cases z <;> rfl
    · rw [lt0 hlt, List.drop_of_length_le (by simp; omega)]
      rfl
theorem c15 (s : ByteArray) : CX Tryz.prog 49 [vS s] [] (vB (Aae s)) [] := by
  refine cx_of (Orc.nil_ok _) Tryz.func49 b15 rfl ((ev15 s (s.size + 1)).trans ?_)
  generalize hg : s.size + 1 = g
  unfold Aae
  cases h0 : ((s.size : Int) == 0) with
  | true => rfl
  | false =>
    cases h1 : decide ((s.size : Int) > 12) with
    | true => rfl
    | false =>
      have hs : s.size ≤ 12 := by simp at h1; omega
      have := lp15 s g hs g 0 (by omega) (by omega)
      simp only [cond_false, Bool.not_false, Bool.true_and]
      exact this
theorem ltn (x y : Int) : decide (x < y) = !decide (y ≤ x) := by
  by_cases h : x < y
  · rw [decide_eq_true h, decide_eq_false (by omega)]; rfl
  · rw [decide_eq_false h, decide_eq_true (by omega)]; rfl
theorem gtn (x y : Int) : decide (x > y) = !decide (x ≤ y) := by
  by_cases h : x > y
  · rw [decide_eq_true h, decide_eq_false (by omega)]; rfl
  · rw [decide_eq_false h, decide_eq_true (by omega)]; rfl
theorem lt1z (n : Nat) : decide ((n : Int) < 1) = ((n : Int) == 0) := by
  by_cases h : n = 0
  · subst h; rfl
  · have h2 : ((n : Int) == 0) = false := beq_eq_false_iff_ne.2 (by omega)
    rw [decide_eq_false (by omega), h2]
theorem lp16 (s : ByteArray) (g : Nat) (hs : s.size ≤ 12) : ∀ (m k : Nat), k ≤ s.size → s.size - k < m → L16 s g m k = some (.leaf (vB (nmT k (s.data.toList.drop k)), []))
  | 0, k, _, h => by omega
  | m + 1, k, hk, h => by
    rw [st16]
    by_cases hlt : k < s.size
    · have hl : k < s.data.toList.length := by simpa using hlt
      have ih := lp16 s g hs m (k + 1) (by omega) (by omega)
      rw [drop_at' (d := 0) hl]
      generalize hc : s.data.toList.getD k 0 = c
      have e48 : decide ((c.toNat : Int) < 48) = !decide (48 ≤ (c.toNat : Int)) := ltn _ _
      have e57 : decide ((c.toNat : Int) > 57) = !decide ((c.toNat : Int) ≤ 57) := gtn _ _
      simp only [lt1 hlt, ge0, tn, hc, Bool.and_self, cond_true, nx hlt (by omega), ih, nmT, letterB, otherB, e48, e57, z0, bne, ge_iff_le]
      generalize nmT (k + 1) (s.data.toList.drop (k + 1)) = t
      generalize decide (65 ≤ (c.toNat : Int)) = a1
      generalize decide ((c.toNat : Int) ≤ 90) = a2
      generalize decide (97 ≤ (c.toNat : Int)) = b1
      generalize decide ((c.toNat : Int) ≤ 122) = b2
      generalize decide (48 ≤ (c.toNat : Int)) = d1
      generalize decide ((c.toNat : Int) ≤ 57) = d2
      generalize ((c.toNat : Int) == 95) = e1
      generalize (k == 0) = z
      cases a1 <;> cases a2 <;> cases b1 <;> cases b2 <;> cases d1 <;> cases d2 <;> cases e1 <;> cases z <;> rfl
    · rw [lt0 hlt, List.drop_of_length_le (by simp; omega)]
      rfl
theorem r16 (s : ByteArray) (g : Nat) (hg : s.size < g) : Aal Tryz.prog Orc.nil ann16 g Tryz.f31 (Aad Tryz.f31) [vS s] [] = some (.leaf (vB (Aae s), [])) := by
  rw [ev16, lt1z]
  unfold Aae
  cases h0 : ((s.size : Int) == 0) with
  | true => rfl
  | false =>
    cases h1 : decide ((s.size : Int) > 12) with
    | true => rfl
    | false =>
      have hs : s.size ≤ 12 := by simp at h1; omega
      have := lp16 s g hs g 0 (by omega) (by omega)
      simp only [cond_false, Bool.not_false, Bool.true_and]
      exact this
theorem c16 (s : ByteArray) : CX Tryz.prog 31 [vS s] [] (vB (Aae s)) [] := cx_of (Orc.nil_ok _) Tryz.func31 b16 rfl (r16 s (s.size + 1) (by omega))
end Go.Proofs.YtmnfibmlhmeheaaGreatDoor.st
namespace Go.Proofs.YtmnfibmlhmeheaaGreatDoor.se
open Go.RowKit Go.Eb
abbrev aRule (x : SRule) : AV := .agg ((ruleC x).map .d)
abbrev aSet (x : SSet) : AV := .agg ((setC x).map .d)
abbrev aPub (x : SPub) : AV := .agg ((pubC x).map .d)
abbrev aSub (x : SSub) : AV := .agg ((subC x).map .d)
abbrev dF (f : FuncId) : D := .v (.func (.func f) #[] #[])
abbrev dNF : D := .v .nilFunc
theorem ev115_t (s : ByteArray) : Aal Tryz.prog Orc.nil na 5 Tryz.f117 (Aad Tryz.f117) [vS s] [] =
 (bif ByteArray.toList s == ByteArray.toList (⟨#[116, 114, 117, 101]⟩) then (bif ByteArray.toList s == ByteArray.toList
 (⟨#[116, 114, 117, 101]⟩) then some (T.leaf (AV.c (.d (.v (.bool true))), [])) else some (T.leaf (AV.c (C.d (D.v
 (Value.bool false))), []))) else (bif ByteArray.toList s == ByteArray.toList (⟨#[102, 97, 108, 115, 101]⟩) then (bif
 ByteArray.toList s == ByteArray.toList (⟨#[102, 97, 108, 115, 101]⟩) then some (T.leaf (AV.c (C.d (D.v (Value.bool
 true))), [])) else some (T.leaf (AV.c (.d (.v (.bool false))), []))) else (bif ByteArray.toList s == ByteArray.toList (⟨#[110, 111, (116 :
 UInt8)]⟩) then (bif ByteArray.toList s == ByteArray.toList (⟨#[110, 111, 116]⟩) then some (T.leaf (AV.c (.d (.v (.bool true))), []))
 else some (T.leaf (AV.c (.d (.v (.bool false))), []))) else (bif ByteArray.toList s == ByteArray.toList (⟨#[97, 110, 100]⟩) then (bif
 ByteArray.toList s == ByteArray.toList (⟨#[97, 110, 100]⟩) then some (T.leaf (AV.c (.d (.v (.bool true))), [])) else some (T.leaf
 (AV.c (.d (.v (.bool false))), []))) else (bif ByteArray.toList s == ByteArray.toList (⟨#[111, 114]⟩) then (bif ByteArray.toList s ==
 ByteArray.toList (⟨#[111, 114]⟩) then some (T.leaf (AV.c (.d (.v (.bool true))), [])) else some (T.leaf (AV.c (.d (.v (.bool false))),
 []))) else (bif ByteArray.toList s == ByteArray.toList (⟨#[120, 111, 114]⟩) then (bif ByteArray.toList s == ByteArray.toList (⟨#[120, 111, 114]⟩) then some (T.leaf (AV.c (.d (.v (.bool true))), [])) else some (T.leaf (AV.c (.d (.v (.bool false))), []))) else (bif
 ByteArray.toList s == ByteArray.toList (⟨#[109, 105, 110]⟩) then (bif ByteArray.toList s == ByteArray.toList (⟨#[109,
 105, 110]⟩) then some (T.leaf (AV.c (.d (.v (.bool true))), [])) else some (T.leaf (AV.c (.d (.v (.bool false))), []))) else (bif ByteArray.toList s
 == ByteArray.toList (⟨#[109, 97, 120]⟩) then (bif ByteArray.toList s == ByteArray.toList (⟨#[109, 97, (120 :
 UInt8)]⟩) then some (T.leaf (AV.c (.d (.v (.bool true))), [])) else some (T.leaf (AV.c (.d (.v (.bool false))), []))) else (bif ByteArray.toList s == ByteArray.toList
 (⟨#[97, 98, 115]⟩) then (bif ByteArray.toList s == ByteArray.toList (⟨#[97, 98, 115]⟩) then some
 (T.leaf (AV.c (.d (.v (.bool true))), [])) else some (T.leaf (AV.c (.d (.v (.bool false))), []))) else (bif ByteArray.toList s == ByteArray.toList (⟨#[(105
 : UInt8), 102]⟩) then (bif ByteArray.toList s == ByteArray.toList (⟨#[105, 102]⟩) then some (T.leaf (AV.c (.d (.v (.bool true))), []))
 else some (T.leaf (AV.c (.d (.v (.bool false))), []))) else (bif ByteArray.toList s == ByteArray.toList (⟨#[114, 105, 115, (101 :
 UInt8)]⟩) then (bif ByteArray.toList s == ByteArray.toList (⟨#[114, 105, 115, 101]⟩) then some (T.leaf (AV.c (C.d (D.v (Value.bool
 true))), [])) else some (T.leaf (AV.c (.d (.v (.bool false))), []))) else (bif ByteArray.toList s == ByteArray.toList (⟨#[102, 97, (108 :
 UInt8), 108]⟩) then (bif ByteArray.toList s == ByteArray.toList (⟨#[102, 97, 108, 108]⟩) then some (T.leaf (AV.c (C.d
 (D.v (.bool true))), [])) else some (T.leaf (AV.c (.d (.v (.bool false))), []))) else (bif ByteArray.toList s == ByteArray.toList (⟨#[100, (101 :
 UInt8), 108, 97, 121]⟩) then (bif ByteArray.toList s == ByteArray.toList (⟨#[100, 101, 108, 97, (121
 : UInt8)]⟩) then some (T.leaf (AV.c (.d (.v (.bool true))), [])) else some (T.leaf (AV.c (.d (.v (.bool false))), []))) else (bif ByteArray.toList s == ByteArray.toList
 (⟨#[104, 111, 108, 100]⟩) then (bif ByteArray.toList s == ByteArray.toList (⟨#[104, 111, (108 :
 UInt8), 100]⟩) then some (T.leaf (AV.c (.d (.v (.bool true))), [])) else some (T.leaf (AV.c (.d (.v (.bool false))), []))) else (bif ByteArray.toList s ==
 ByteArray.toList (⟨#[108, 97, 116, 99, 104]⟩) then (bif ByteArray.toList s == ByteArray.toList (⟨#[(108 :
 UInt8), 97, 116, 99, 104]⟩) then some (T.leaf (AV.c (.d (.v (.bool true))), [])) else some (T.leaf (AV.c (C.d (D.v (Value.bool
 false))), []))) else (bif ByteArray.toList s == ByteArray.toList (⟨#[99, 111, 117, 110, 116]⟩) then some (T.leaf (AV.c
 (C.d (.v (.bool true))), [])) else some (T.leaf (AV.c (.d (.v (.bool false))), [])))))))))))))))))) := by kernel_rfl
noncomputable def ev115_v (s : ByteArray) : Bool :=
 (bif ByteArray.toList s == ByteArray.toList (ByteArray.mk #[(116 : UInt8), (114 : UInt8), (117 : UInt8), (101 : UInt8)]) then (bif ByteArray.toList s == ByteArray.toList
 (ByteArray.mk #[(116 : UInt8), (114 : UInt8), (117 : UInt8), (101 : UInt8)]) then (true) else (false)) else (bif ByteArray.toList s == ByteArray.toList (ByteArray.mk #[(102 :
 UInt8), (97 : UInt8), (108 : UInt8), (115 : UInt8), (101 : UInt8)]) then (bif ByteArray.toList s == ByteArray.toList (ByteArray.mk #[(102 : UInt8), (97 : UInt8), (108 : UInt8), (115
 : UInt8), (101 : UInt8)]) then (true) else (false)) else (bif ByteArray.toList s == ByteArray.toList (ByteArray.mk #[(110 : UInt8), (111 : UInt8), (116 : UInt8)]) then (bif
 ByteArray.toList s == ByteArray.toList (ByteArray.mk #[(110 : UInt8), (111 : UInt8), (116 : UInt8)]) then (true) else (false)) else (bif ByteArray.toList s == ByteArray.toList
 (ByteArray.mk #[(97 : UInt8), (110 : UInt8), (100 : UInt8)]) then (bif ByteArray.toList s == ByteArray.toList (ByteArray.mk #[(97 : UInt8), (110 : UInt8), (100 : UInt8)]) then
 (true) else (false)) else (bif ByteArray.toList s == ByteArray.toList (ByteArray.mk #[(111 : UInt8), (114 : UInt8)]) then (bif ByteArray.toList s == ByteArray.toList (ByteArray.mk
 #[(111 : UInt8), (114 : UInt8)]) then (true) else (false)) else (bif ByteArray.toList s == ByteArray.toList (ByteArray.mk #[(120 : UInt8), (111 : UInt8), (114 : UInt8)]) then (bif
 ByteArray.toList s == ByteArray.toList (ByteArray.mk #[(120 : UInt8), (111 : UInt8), (114 : UInt8)]) then (true) else (false)) else (bif ByteArray.toList s == ByteArray.toList
 (ByteArray.mk #[(109 : UInt8), (105 : UInt8), (110 : UInt8)]) then (bif ByteArray.toList s == ByteArray.toList (ByteArray.mk #[(109 : UInt8), (105 : UInt8), (110 : UInt8)]) then
 (true) else (false)) else (bif ByteArray.toList s == ByteArray.toList (ByteArray.mk #[(109 : UInt8), (97 : UInt8), (120 : UInt8)]) then (bif ByteArray.toList s == ByteArray.toList
 (ByteArray.mk #[(109 : UInt8), (97 : UInt8), (120 : UInt8)]) then (true) else (false)) else (bif ByteArray.toList s == ByteArray.toList (ByteArray.mk #[(97 : UInt8), (98 : UInt8),
 (115 : UInt8)]) then (bif ByteArray.toList s == ByteArray.toList (ByteArray.mk #[(97 : UInt8), (98 : UInt8), (115 : UInt8)]) then (true) else (false)) else (bif ByteArray.toList s
 == ByteArray.toList (ByteArray.mk #[(105 : UInt8), (102 : UInt8)]) then (bif ByteArray.toList s == ByteArray.toList (ByteArray.mk #[(105 : UInt8), (102 : UInt8)]) then (true) else
 (false)) else (bif ByteArray.toList s == ByteArray.toList (ByteArray.mk #[(114 : UInt8), (105 : UInt8), (115 : UInt8), (101 : UInt8)]) then (bif ByteArray.toList s ==
 ByteArray.toList (ByteArray.mk #[(114 : UInt8), (105 : UInt8), (115 : UInt8), (101 : UInt8)]) then (true) else (false)) else (bif ByteArray.toList s == ByteArray.toList
 (ByteArray.mk #[(102 : UInt8), (97 : UInt8), (108 : UInt8), (108 : UInt8)]) then (bif ByteArray.toList s == ByteArray.toList (ByteArray.mk #[(102 : UInt8), (97 : UInt8), (108 :
 UInt8), (108 : UInt8)]) then (true) else (false)) else (bif ByteArray.toList s == ByteArray.toList (ByteArray.mk #[(100 : UInt8), (101 : UInt8), (108 : UInt8), (97 : UInt8), (121 :
 UInt8)]) then (bif ByteArray.toList s == ByteArray.toList (ByteArray.mk #[(100 : UInt8), (101 : UInt8), (108 : UInt8), (97 : UInt8), (121 : UInt8)]) then (true) else (false)) else
 (bif ByteArray.toList s == ByteArray.toList (ByteArray.mk #[(104 : UInt8), (111 : UInt8), (108 : UInt8), (100 : UInt8)]) then (bif ByteArray.toList s == ByteArray.toList
 (ByteArray.mk #[(104 : UInt8), (111 : UInt8), (108 : UInt8), (100 : UInt8)]) then (true) else (false)) else (bif ByteArray.toList s == ByteArray.toList (ByteArray.mk #[(108 :
 UInt8), (97 : UInt8), (116 : UInt8), (99 : UInt8), (104 : UInt8)]) then (bif ByteArray.toList s == ByteArray.toList (ByteArray.mk #[(108 : UInt8), (97 : UInt8), (116 : UInt8), (99 :
 UInt8), (104 : UInt8)]) then (true) else (false)) else (bif ByteArray.toList s == ByteArray.toList (ByteArray.mk #[(99 : UInt8), (111 : UInt8), (117 : UInt8), (110 : UInt8), (116 :
 UInt8)]) then (true) else (false)))))))))))))))))
theorem ev115 (s : ByteArray) : Aal Tryz.prog Orc.nil na 5 Tryz.f117 (Aad Tryz.f117) [vS s] [] = some (.leaf (vB (ev115_v s), [])) := by
  rw [ev115_t]
  unfold ev115_v
  simp only [bLeaf]
noncomputable def ann117 : Ann := annOf [(4, ⟨[1, 11, 12], []⟩)]
noncomputable def L117_4 (x : SRule) (g m : Nat) (i12 : Int) := LK Tryz.prog Orc.nil ann117 0 g Tryz.f119 4 m ⟨frm [(1, .c (.ptr 0 0)), (11, .c (.d (.v (.int .i64 (↑(ByteArray.size (SRule.text x)) : Int))))), (12, .c (.d (.v (.int .i64 i12))))] 0 Tryz.f119.ntmps, [(0, Blk.cells (List.map C.d (ruleC x)) 107)], 1⟩
theorem b117 : Tryz.f119.body = some (Aad Tryz.f119) := by kernel_rfl
theorem ev117 (x : SRule) (g : Nat) : Aal Tryz.prog Orc.nil ann117 g Tryz.f119 (Aad Tryz.f119) [aRule x] [] =
 (bif decide ((↑(ByteArray.size (SRule.text x)) : Int) > (120 : Int)) then some (T.leaf (AV.c (.d (.v (.int .i64 (4 : Int)))), [])) else L117_4 x g g ((0 : Int))) := by kernel_rfl
theorem st117_4 (x : SRule) (g m : Nat) (i12 : Int) : L117_4 x g (m + 1) i12 =
 (bif decide (i12 < (↑(ByteArray.size (SRule.text x)) : Int)) then (bif decide ((0 : Int) ≤ i12) && decide (i12 < (↑(ByteArray.size (SRule.text x)) : Int)) then (bif decide
 ((↑(UInt8.toNat (List.getD (Array.toList (ByteArray.data (SRule.text x))) (Int.toNat i12) 0)) : Int) < (32 : Int)) then some (T.leaf (AV.c (C.d (D.v (Value.int IntKind.i64
 (5 : Int)))), [])) else (bif decide ((↑(UInt8.toNat (List.getD (Array.toList (ByteArray.data (SRule.text x))) (Int.toNat i12) 0)) : Int) > (126 : Int)) then some (T.leaf
 (AV.c (.d (.v (.int .i64 (5 : Int)))), [])) else (bif (↑(UInt8.toNat (List.getD (Array.toList (ByteArray.data (SRule.text x))) (Int.toNat i12) 0)) : Int) ==
 (34 : Int) then some (T.leaf (AV.c (.d (.v (.int .i64 (5 : Int)))), [])) else L117_4 x g m (IntKind.wrap .i64 (i12 + (1 : Int)))))) else none) else some (T.leaf
 (AV.c (.d (.v (.int .i64 (0 : Int)))), []))) := by kernel_rfl
theorem ev123_t (x : SPub) : Aal Tryz.prog (Orc.cons 110 (inl Tryz.prog Orc.nil na 1 Tryz.f110) Orc.nil) na 5 Tryz.f125 (Aad Tryz.f125) [aPub x] [] =
 (bif decide (SPub.fst x ≥ (1 : Int)) then (bif !decide (SPub.fst x ≤ (100 : Int)) then some (T.leaf (AV.c (.d (.v (.int .i64 (2 : Int)))), [])) else (bif decide
 (SPub.max x ≥ SPub.fst x) then (bif !decide (SPub.max x ≤ (1000 : Int)) then some (T.leaf (AV.c (.d (.v (.int .i64 (2 : Int)))), [])) else some (T.leaf (AV.c (C.d (D.v
 (Value.int IntKind.i64 (0 : Int)))), []))) else some (T.leaf (AV.c (.d (.v (.int .i64 (2 : Int)))), [])))) else some (T.leaf (AV.c (.d (.v (.int .i64 (2
 : Int)))), []))) := by kernel_rfl
noncomputable def ev123_v (x : SPub) : Int :=
 (bif decide (SPub.fst x ≥ (1 : Int)) then (bif !decide (SPub.fst x ≤ (100 : Int)) then ((2 : Int)) else (bif decide (SPub.max x ≥ SPub.fst x) then (bif !decide (SPub.max x ≤ (1000 :
 Int)) then ((2 : Int)) else ((0 : Int))) else ((2 : Int)))) else ((2 : Int)))
theorem ev123 (x : SPub) : Aal Tryz.prog (Orc.cons 110 (inl Tryz.prog Orc.nil na 1 Tryz.f110) Orc.nil) na 5 Tryz.f125 (Aad Tryz.f125) [aPub x] [] = some (.leaf (vI (ev123_v x), [])) := by
  rw [ev123_t]
  unfold ev123_v
  simp only [iLeaf]
noncomputable def oN (nk : ByteArray → Bool) (r : Orc) : Orc := Orc.cons 49 (ansP decS fun s => vB (nk s)) r
noncomputable def o147 (nk : ByteArray → Bool) : Orc := Orc.cons 143 (inl Tryz.prog (oN nk Orc.nil) na 1 Tryz.f143) Orc.nil
noncomputable def ann147 : Ann := annOf [(2, ⟨[0, 1, 7, 8], []⟩)]
noncomputable def L147_2 (nk : ByteArray → Bool) (l : List ByteArray) (g m : Nat) (i8 : Int) := LK Tryz.prog (o147 nk) ann147 0 g Tryz.f151 2 m ⟨frm [(0, .c (.d (Aac 1 busC e0 l))), (1, .c (.d (D.v (Value.func (Fn.func (143 : FuncId)) #[] #[])))), (7, .c (.d (.v (.int .i64 (↑(List.length l) : Int))))), (8, .c (.d (.v (.int .i64 i8))))] 0 Tryz.f151.ntmps, [], 0⟩
theorem b147 : Tryz.f151.body = some (Aad Tryz.f151) := by kernel_rfl
theorem ev147 (nk : ByteArray → Bool) (l : List ByteArray) (g : Nat) : Aal Tryz.prog (o147 nk) ann147 g Tryz.f151 (Aad Tryz.f151) [.c (.d (Aab l)), .c (.d (dF 143))] [] =
 L147_2 nk l g g ((0 : Int)) := by kernel_rfl
theorem st147_2 (nk : ByteArray → Bool) (l : List ByteArray) (g m : Nat) (i8 : Int) : L147_2 nk l g (m + 1) i8 =
 (bif decide (i8 < (↑(List.length l) : Int)) then (bif decide ((0 : Int) ≤ i8) && decide (i8 < (↑(List.length l) : Int)) then (bif !nk (List.getD l (Int.toNat i8) e0) then some
 (T.leaf (AV.c (.d (.v (.int .i64 i8))), [])) else L147_2 nk l g m (IntKind.wrap .i64 (i8 + (1 : Int)))) else none) else some (T.leaf (AV.c (C.d (D.v (Value.int
 IntKind.i64 (-1 : Int)))), []))) := by kernel_rfl
noncomputable def o119 (oki : List AV → Bool) (ix : List AV → Int) : Orc := Orc.cons 151 (ansG oki fun x => vI (ix x)) Orc.nil
noncomputable def o142 (oki : List AV → Bool) (ix : List AV → Int) : Orc := Orc.cons 142 (inl Tryz.prog (o119 oki ix) na 1 Tryz.f142) Orc.nil
noncomputable def ann119 : Ann := annOf []
theorem b119 : Tryz.f121.body = some (Aad Tryz.f121) := by kernel_rfl
theorem ev119 (oki : List AV → Bool) (ix : List AV → Int) (l : List ByteArray) (g : Nat) : Aal Tryz.prog (o142 oki ix) ann119 g Tryz.f121 (Aad Tryz.f121) [.c (.d (Aab l))] [] =
 (bif oki [AV.c (C.d (Aac (1) busC e0 l)), AV.c (C.d (D.v (Value.func (Fn.func 143) #[] #[])))] then some (T.leaf (AV.c (.d (.v (.bool !decide (ix [AV.c (C.d
 (Aac (1) busC e0 l)), AV.c (C.d (D.v (Value.func (Fn.func 143) #[] #[])))] ≥ (0 : Int))))), [])) else none) := by kernel_rfl
noncomputable def o114 (nk rs : ByteArray → Bool) : Orc := oN nk (Orc.cons 117 (ansP decS fun s => vB (rs s)) Orc.nil)
theorem ev114_t (nk rs : ByteArray → Bool) (x : SRule) : Aal Tryz.prog (o114 nk rs) na 5 Tryz.f116 (Aad Tryz.f116) [aRule x] [] =
 (bif nk (SRule.name x) then some (T.leaf (AV.c (.d (.v (.bool !rs (SRule.name x)))), [])) else some (T.leaf (AV.c (.d (.v (.bool false))), []))) := by kernel_rfl
noncomputable def ev114_v (nk rs : ByteArray → Bool) (x : SRule) : Bool :=
 (bif nk (SRule.name x) then (!rs (SRule.name x)) else (false))
theorem ev114 (nk rs : ByteArray → Bool) (x : SRule) : Aal Tryz.prog (o114 nk rs) na 5 Tryz.f116 (Aad Tryz.f116) [aRule x] [] = some (.leaf (vB (ev114_v nk rs x), [])) := by
  rw [ev114_t]
  unfold ev114_v
  simp only [bLeaf]
noncomputable def o118 (nk : ByteArray → Bool) (okn nm : List AV → Bool) : Orc := oN nk (Orc.cons 121 (ansG okn fun x => vB (nm x)) Orc.nil)
noncomputable def ann118 : Ann := annOf []
theorem b118 : Tryz.f120.body = some (Aad Tryz.f120) := by kernel_rfl
theorem ev118 (nk : ByteArray → Bool) (okn nm : List AV → Bool) (x : SSet) (g : Nat) : Aal Tryz.prog (o118 nk okn nm) ann118 g Tryz.f120 (Aad Tryz.f120) [aSet x] [] =
 (bif nk (SSet.name x) then (bif okn [AV.c (C.d (Aac (1) busC e0 (SSet.sigs x)))] then some (T.leaf (AV.c (.d (.v (.bool (nm [AV.c (C.d (Aac (1) busC e0
 (SSet.sigs x)))])))), [])) else none) else some (T.leaf (AV.c (.d (.v (.bool false))), []))) := by kernel_rfl
theorem ev121_t (nk : ByteArray → Bool) (x : SPub) : Aal Tryz.prog (oN nk Orc.nil) na 5 Tryz.f123 (Aad Tryz.f123) [aPub x] [] =
 some (T.leaf (AV.c (.d (.v (.bool (nk (SPub.set x))))), [])) := by kernel_rfl
noncomputable def ev121_v (nk : ByteArray → Bool) (x : SPub) : Bool :=
 ((nk (SPub.set x)))
theorem ev121 (nk : ByteArray → Bool) (x : SPub) : Aal Tryz.prog (oN nk Orc.nil) na 5 Tryz.f123 (Aad Tryz.f123) [aPub x] [] = some (.leaf (vB (ev121_v nk x), [])) := by
  rw [ev121_t]
  unfold ev121_v
  simp only [bLeaf]
noncomputable def o124 (nk : ByteArray → Bool) : Orc := Orc.cons 121 (inl Tryz.prog (Orc.cons 142 (inl Tryz.prog (Orc.cons 151 (inl Tryz.prog (o147 nk) na 6 Tryz.f151) Orc.nil) na 1 Tryz.f142) Orc.nil) na 1 Tryz.f121) Orc.nil
noncomputable def ann124 : Ann := annOf []
theorem b124 : Tryz.f126.body = some (Aad Tryz.f126) := by kernel_rfl
theorem ev124 (nk : ByteArray → Bool) (x : SSub) (g : Nat) : Aal Tryz.prog (o124 nk) ann124 g Tryz.f126 (Aad Tryz.f126) [aSub x] [] =
 (bif !nk (SSub.loc x) then some (T.leaf (AV.c (.d (.v (.bool false))), [])) else (bif !nk (SSub.dev x) then some (T.leaf (AV.c (.d (.v (.bool false))), [])) else (bif
 !nk (SSub.set x) then some (T.leaf (AV.c (.d (.v (.bool false))), [])) else (bif !nk (SSub.sig x) then some (T.leaf (AV.c (.d (.v (.bool false))), [])) else some
 (T.leaf (AV.c (.d (.v (.bool true))), [])))))) := by kernel_rfl
noncomputable def o126 (okv va okt : List AV → Bool) (rt : List AV → Int) : Orc := Orc.cons 116 (ansG okv fun x => vB (va x)) (Orc.cons 118 (inl Tryz.prog Orc.nil na 1 Tryz.f118) (Orc.cons 119 (ansG okt fun x => vI (rt x)) Orc.nil))
noncomputable def ann126 : Ann := annOf [(3, ⟨[2, 5, 10, 11, 12], []⟩)]
noncomputable def L126_3 (okv va okt : List AV → Bool) (rt : List AV → Int) (l : List SRule) (g m : Nat) (l1 : List (Value × Value)) (i12 : Int) := LK Tryz.prog (o126 okv va okt rt) ann126 0 g Tryz.f128 3 m ⟨frm [(2, .c (.ptr 0 0)), (5, .c (.mp 1)), (10, .c (.d (Aac 2 ruleC rule0 l))), (11, .c (.d (.v (.int .i64 (↑(List.length l) : Int))))), (12, .c (.d (.v (.int .i64 i12))))] 0 Tryz.f128.ntmps, [(0, Blk.cells [C.d (D.v (Value.func (Fn.func (116 : FuncId)) #[] #[])), C.d (D.v (Value.func (Fn.func (118 : FuncId)) #[] #[])), C.d (D.v (Value.func (Fn.func (119 : FuncId)) #[] #[]))] 164), (1, Blk.map 0 l1)], 2⟩
theorem b126 : Tryz.f128.body = some (Aad Tryz.f128) := by kernel_rfl
theorem ev126 (okv va okt : List AV → Bool) (rt : List AV → Int) (l : List SRule) (g : Nat) : Aal Tryz.prog (o126 okv va okt rt) ann126 g Tryz.f128 (Aad Tryz.f128) [.agg [.d (dF 116), .d (dF 118), .d (dF 119)], .c (.d (rulesD l))] [] =
 L126_3 okv va okt rt l g g ([]) ((0 : Int)) := by kernel_rfl
theorem st126_3 (okv va okt : List AV → Bool) (rt : List AV → Int) (l : List SRule) (g m : Nat) (l1 : List (Value × Value)) (i12 : Int) : L126_3 okv va okt rt l g (m + 1) l1 i12 =
 (bif decide (i12 < (↑(List.length l) : Int)) then (bif decide ((0 : Int) ≤ i12) && decide (i12 < (↑(List.length l) : Int)) then (bif okv [AV.agg (List.map C.d (ruleC (List.getD l
 (Int.toNat i12) rule0)))] then (bif !va [AV.agg (List.map C.d (ruleC (List.getD l (Int.toNat i12) rule0)))] then some (T.leaf (AV.c (.d (.v (.int .i64 (7 : Int)))),
 [])) else (bif boolOf (assoc l1 (Value.string (SRule.name (List.getD l (Int.toNat i12) rule0)))) then some (T.leaf (AV.c (.d (.v (.int .i64 (8 : Int)))), [])) else
 (bif okt [AV.agg (List.map C.d (ruleC (List.getD l (Int.toNat i12) rule0)))] then (bif rt [AV.agg (List.map C.d (ruleC (List.getD l (Int.toNat i12) rule0)))] != (0 : Int) then some
 (T.leaf (AV.c (.d (.v (.int .i64 (rt [AV.agg (List.map C.d (ruleC (List.getD l (Int.toNat i12) rule0)))])))), [])) else L126_3 okv va okt rt l g m ((Value.string
 (SRule.name (List.getD l (Int.toNat i12) rule0)), Value.bool true) :: l1) (IntKind.wrap .i64 (i12 + (1 : Int)))) else none))) else none) else none) else some (T.leaf (AV.c
 (C.d (.v (.int .i64 (0 : Int)))), []))) := by kernel_rfl
noncomputable def o127 (okv va : List AV → Bool) : Orc := Orc.cons 120 (ansG okv fun x => vB (va x)) (Orc.cons 122 (inl Tryz.prog Orc.nil na 1 Tryz.f122) Orc.nil)
noncomputable def ann127 : Ann := annOf [(3, ⟨[2, 5, 10, 11, 12], []⟩)]
noncomputable def L127_3 (okv va : List AV → Bool) (l : List SSet) (g m : Nat) (l1 : List (Value × Value)) (i12 : Int) := LK Tryz.prog (o127 okv va) ann127 0 g Tryz.f129 3 m ⟨frm [(2, .c (.ptr 0 0)), (5, .c (.mp 1)), (10, .c (.d (Aac 2 setC set0 l))), (11, .c (.d (.v (.int .i64 (↑(List.length l) : Int))))), (12, .c (.d (.v (.int .i64 i12))))] 0 Tryz.f129.ntmps, [(0, Blk.cells [C.d (D.v (Value.func (Fn.func (120 : FuncId)) #[] #[])), C.d (D.v (Value.func (Fn.func (122 : FuncId)) #[] #[])), C.d (D.v Value.nilFunc)] 169), (1, Blk.map 0 l1)], 2⟩
theorem b127 : Tryz.f129.body = some (Aad Tryz.f129) := by kernel_rfl
theorem ev127 (okv va : List AV → Bool) (l : List SSet) (g : Nat) : Aal Tryz.prog (o127 okv va) ann127 g Tryz.f129 (Aad Tryz.f129) [.agg [.d (dF 120), .d (dF 122), .d dNF], .c (.d (setsD l))] [] =
 L127_3 okv va l g g ([]) ((0 : Int)) := by kernel_rfl
theorem st127_3 (okv va : List AV → Bool) (l : List SSet) (g m : Nat) (l1 : List (Value × Value)) (i12 : Int) : L127_3 okv va l g (m + 1) l1 i12 =
 (bif decide (i12 < (↑(List.length l) : Int)) then (bif decide ((0 : Int) ≤ i12) && decide (i12 < (↑(List.length l) : Int)) then (bif okv [AV.agg (List.map C.d (setC (List.getD l
 (Int.toNat i12) set0)))] then (bif !va [AV.agg (List.map C.d (setC (List.getD l (Int.toNat i12) set0)))] then some (T.leaf (AV.c (.d (.v (.int .i64 (7 : Int)))), []))
 else (bif boolOf (assoc l1 (Value.string (SSet.name (List.getD l (Int.toNat i12) set0)))) then some (T.leaf (AV.c (.d (.v (.int .i64 (8 : Int)))), [])) else L127_3 okv
 va l g m ((Value.string (SSet.name (List.getD l (Int.toNat i12) set0)), Value.bool true) :: l1) (IntKind.wrap .i64 (i12 + (1 : Int))))) else none) else none) else some
 (T.leaf (AV.c (.d (.v (.int .i64 (0 : Int)))), []))) := by kernel_rfl
noncomputable def o128 (okv va okt : List AV → Bool) (rt : List AV → Int) : Orc := Orc.cons 123 (ansG okv fun x => vB (va x)) (Orc.cons 124 (inl Tryz.prog Orc.nil na 1 Tryz.f124) (Orc.cons 125 (ansG okt fun x => vI (rt x)) Orc.nil))
noncomputable def ann128 : Ann := annOf [(3, ⟨[2, 5, 10, 11, 12], []⟩)]
noncomputable def L128_3 (okv va okt : List AV → Bool) (rt : List AV → Int) (l : List SPub) (g m : Nat) (l1 : List (Value × Value)) (i12 : Int) := LK Tryz.prog (o128 okv va okt rt) ann128 0 g Tryz.f130 3 m ⟨frm [(2, .c (.ptr 0 0)), (5, .c (.mp 1)), (10, .c (.d (Aac 3 pubC pub0 l))), (11, .c (.d (.v (.int .i64 (↑(List.length l) : Int))))), (12, .c (.d (.v (.int .i64 i12))))] 0 Tryz.f130.ntmps, [(0, Blk.cells [C.d (D.v (Value.func (Fn.func (123 : FuncId)) #[] #[])), C.d (D.v (Value.func (Fn.func (124 : FuncId)) #[] #[])), C.d (D.v (Value.func (Fn.func (125 : FuncId)) #[] #[]))] 174), (1, Blk.map 0 l1)], 2⟩
theorem b128 : Tryz.f130.body = some (Aad Tryz.f130) := by kernel_rfl
theorem ev128 (okv va okt : List AV → Bool) (rt : List AV → Int) (l : List SPub) (g : Nat) : Aal Tryz.prog (o128 okv va okt rt) ann128 g Tryz.f130 (Aad Tryz.f130) [.agg [.d (dF 123), .d (dF 124), .d (dF 125)], .c (.d (pubsD l))] [] =
 L128_3 okv va okt rt l g g ([]) ((0 : Int)) := by kernel_rfl
theorem st128_3 (okv va okt : List AV → Bool) (rt : List AV → Int) (l : List SPub) (g m : Nat) (l1 : List (Value × Value)) (i12 : Int) : L128_3 okv va okt rt l g (m + 1) l1 i12 =
 (bif decide (i12 < (↑(List.length l) : Int)) then (bif decide ((0 : Int) ≤ i12) && decide (i12 < (↑(List.length l) : Int)) then (bif okv [AV.agg (List.map C.d (pubC (List.getD l
 (Int.toNat i12) pub0)))] then (bif !va [AV.agg (List.map C.d (pubC (List.getD l (Int.toNat i12) pub0)))] then some (T.leaf (AV.c (.d (.v (.int .i64 (7 : Int)))), []))
 else (bif boolOf (assoc l1 (Value.string (SPub.set (List.getD l (Int.toNat i12) pub0)))) then some (T.leaf (AV.c (.d (.v (.int .i64 (8 : Int)))), [])) else (bif okt
 [AV.agg (List.map C.d (pubC (List.getD l (Int.toNat i12) pub0)))] then (bif rt [AV.agg (List.map C.d (pubC (List.getD l (Int.toNat i12) pub0)))] != (0 : Int) then some (T.leaf (AV.c
 (C.d (.v (.int .i64 (rt [AV.agg (List.map C.d (pubC (List.getD l (Int.toNat i12) pub0)))])))), [])) else L128_3 okv va okt rt l g m ((Value.string (SPub.set (List.getD
 l (Int.toNat i12) pub0)), Value.bool true) :: l1) (IntKind.wrap .i64 (i12 + (1 : Int)))) else none))) else none) else none) else some (T.leaf (AV.c (C.d (D.v (Value.int
 IntKind.i64 (0 : Int)))), []))) := by kernel_rfl
noncomputable def o129 (okv va : List AV → Bool) : Orc := Orc.cons 126 (ansG okv fun x => vB (va x)) (Orc.cons 127 (inl Tryz.prog Orc.nil na 1 Tryz.f127) Orc.nil)
noncomputable def ann129 : Ann := annOf [(3, ⟨[2, 5, 10, 11, 12], []⟩)]
noncomputable def L129_3 (okv va : List AV → Bool) (l : List SSub) (g m : Nat) (l1 : List (Value × Value)) (i12 : Int) := LK Tryz.prog (o129 okv va) ann129 0 g Tryz.f131 3 m ⟨frm [(2, .c (.ptr 0 0)), (5, .c (.mp 1)), (10, .c (.d (Aac 4 subC sub0 l))), (11, .c (.d (.v (.int .i64 (↑(List.length l) : Int))))), (12, .c (.d (.v (.int .i64 i12))))] 0 Tryz.f131.ntmps, [(0, Blk.cells [C.d (D.v (Value.func (Fn.func (126 : FuncId)) #[] #[])), C.d (D.v (Value.func (Fn.func (127 : FuncId)) #[] #[])), C.d (D.v Value.nilFunc)] 179), (1, Blk.map 0 l1)], 2⟩
theorem b129 : Tryz.f131.body = some (Aad Tryz.f131) := by kernel_rfl
theorem ev129 (okv va : List AV → Bool) (l : List SSub) (g : Nat) : Aal Tryz.prog (o129 okv va) ann129 g Tryz.f131 (Aad Tryz.f131) [.agg [.d (dF 126), .d (dF 127), .d dNF], .c (.d (subsD l))] [] =
 L129_3 okv va l g g ([]) ((0 : Int)) := by kernel_rfl
theorem st129_3 (okv va : List AV → Bool) (l : List SSub) (g m : Nat) (l1 : List (Value × Value)) (i12 : Int) : L129_3 okv va l g (m + 1) l1 i12 =
 (bif decide (i12 < (↑(List.length l) : Int)) then (bif decide ((0 : Int) ≤ i12) && decide (i12 < (↑(List.length l) : Int)) then (bif okv [AV.agg (List.map C.d (subC (List.getD l
 (Int.toNat i12) sub0)))] then (bif !va [AV.agg (List.map C.d (subC (List.getD l (Int.toNat i12) sub0)))] then some (T.leaf (AV.c (.d (.v (.int .i64 (7 : Int)))), []))
 else (bif boolOf (assoc l1 (Value.string (SSub.loc (List.getD l (Int.toNat i12) sub0)))) then some (T.leaf (AV.c (.d (.v (.int .i64 (8 : Int)))), [])) else L129_3 okv
 va l g m ((Value.string (SSub.loc (List.getD l (Int.toNat i12) sub0)), Value.bool true) :: l1) (IntKind.wrap .i64 (i12 + (1 : Int))))) else none) else none) else some (T.leaf
 (AV.c (.d (.v (.int .i64 (0 : Int)))), []))) := by kernel_rfl
noncomputable def o85 (ok1 ok2 ok3 ok4 : List AV → Bool) (f1 f2 f3 f4 : List AV → Int) : Orc := Orc.cons 128 (ansG ok1 fun x => vI (f1 x)) (Orc.cons 129 (ansG ok2 fun x => vI (f2 x)) (Orc.cons 130 (ansG ok3 fun x => vI (f3 x)) (Orc.cons 131 (ansG ok4 fun x => vI (f4 x)) Orc.nil)))
noncomputable def ann85 : Ann := annOf []
theorem b85 : Tryz.f84.body = some (Aad Tryz.f84) := by kernel_rfl
theorem ev85 (ok1 ok2 ok3 ok4 : List AV → Bool) (f1 f2 f3 f4 : List AV → Int) (r : SRel) (g : Nat) : Aal Tryz.prog (o85 ok1 ok2 ok3 ok4 f1 f2 f3 f4) ann85 g Tryz.f84 (Aad Tryz.f84) [aRel r] [] =
 (bif ok1 [AV.agg [C.d (D.v (Value.func (Fn.func 116) #[] #[])), C.d (D.v (Value.func (Fn.func 118) #[] #[])), C.d (D.v (Value.func (Fn.func 119) #[] #[]))],
 AV.c (C.d (Aac (2) ruleC rule0 (SRel.rules r)))] then (bif f1 [AV.agg [C.d (D.v (Value.func (Fn.func 116) #[] #[])), C.d (D.v (Value.func (Fn.func 118) #[]
 #[])), C.d (D.v (Value.func (Fn.func 119) #[] #[]))], AV.c (C.d (Aac (2) ruleC rule0 (SRel.rules r)))] != (0 : Int) then some (T.leaf (AV.c (C.d (D.v (Value.int
 IntKind.i64 (f1 [AV.agg [C.d (D.v (Value.func (Fn.func 116) #[] #[])), C.d (D.v (Value.func (Fn.func 118) #[] #[])), C.d (D.v (Value.func (Fn.func 119) #[]
 #[]))], AV.c (C.d (Aac (2) ruleC rule0 (SRel.rules r)))])))), [])) else (bif ok2 [AV.agg [C.d (D.v (Value.func (Fn.func 120) #[] #[])), C.d (D.v (Value.func
 (Fn.func 122) #[] #[])), C.d (D.v Value.nilFunc)], AV.c (C.d (Aac (2) setC set0 (SRel.sets r)))] then (bif f2 [AV.agg [C.d (D.v (Value.func (Fn.func 120)
 #[] #[])), C.d (D.v (Value.func (Fn.func 122) #[] #[])), C.d (D.v Value.nilFunc)], AV.c (C.d (Aac (2) setC set0 (SRel.sets r)))] != (0 : Int) then some (T.leaf
 (AV.c (.d (.v (.int .i64 (f2 [AV.agg [C.d (D.v (Value.func (Fn.func 120) #[] #[])), C.d (D.v (Value.func (Fn.func 122) #[] #[])), C.d (D.v
 Value.nilFunc)], AV.c (C.d (Aac (2) setC set0 (SRel.sets r)))])))), [])) else (bif ok3 [AV.agg [C.d (D.v (Value.func (Fn.func 123) #[] #[])), C.d (D.v (Value.func
 (Fn.func 124) #[] #[])), C.d (D.v (Value.func (Fn.func 125) #[] #[]))], AV.c (C.d (Aac (3) pubC pub0 (SRel.pubs r)))] then (bif f3 [AV.agg [C.d (D.v
 (Value.func (Fn.func 123) #[] #[])), C.d (D.v (Value.func (Fn.func 124) #[] #[])), C.d (D.v (Value.func (Fn.func 125) #[] #[]))], AV.c (C.d (Aac ((3 :
 Nat)) pubC pub0 (SRel.pubs r)))] != (0 : Int) then some (T.leaf (AV.c (.d (.v (.int .i64 (f3 [AV.agg [C.d (D.v (Value.func (Fn.func 123) #[] #[])), C.d (D.v
 (Value.func (Fn.func 124) #[] #[])), C.d (D.v (Value.func (Fn.func 125) #[] #[]))], AV.c (C.d (Aac (3) pubC pub0 (SRel.pubs r)))])))), [])) else (bif ok4
 [AV.agg [C.d (D.v (Value.func (Fn.func 126) #[] #[])), C.d (D.v (Value.func (Fn.func 127) #[] #[])), C.d (D.v Value.nilFunc)], AV.c (C.d (Aac (4) subC sub0
 (SRel.subs r)))] then some (T.leaf (AV.c (.d (.v (.int .i64 (f4 [AV.agg [C.d (D.v (Value.func (Fn.func 126) #[] #[])), C.d (D.v (Value.func (Fn.func (127 :
 Nat)) #[] #[])), C.d (D.v Value.nilFunc)], AV.c (C.d (Aac (4) subC sub0 (SRel.subs r)))])))), [])) else none)) else none)) else none)) else none) := by kernel_rfl
noncomputable def o113 : Orc := Orc.cons 114 (inl Tryz.prog (Orc.cons 110 (inl Tryz.prog Orc.nil na 1 Tryz.f110) Orc.nil) na 1 Tryz.f114) Orc.nil
noncomputable def ann141 : Ann := annOf [(2, ⟨[0, 1, 7, 8], []⟩)]
noncomputable def L141_2 (l : List SSet) (g m : Nat) (i8 : Int) := LK Tryz.prog o113 ann141 0 g Tryz.f141 2 m ⟨frm [(0, .c (.d (Aac 2 setC set0 l))), (1, .c (.d (D.v (Value.func (Fn.func (114 : FuncId)) #[] #[])))), (7, .c (.d (.v (.int .i64 (↑(List.length l) : Int))))), (8, .c (.d (.v (.int .i64 i8))))] 0 Tryz.f141.ntmps, [], 0⟩
theorem b141 : Tryz.f141.body = some (Aad Tryz.f141) := by kernel_rfl
theorem ev141 (l : List SSet) (g : Nat) : Aal Tryz.prog o113 ann141 g Tryz.f141 (Aad Tryz.f141) [.c (.d (setsD l)), .c (.d (dF 114))] [] =
 L141_2 l g g ((0 : Int)) := by kernel_rfl
theorem st141_2 (l : List SSet) (g m : Nat) (i8 : Int) : L141_2 l g (m + 1) i8 =
 (bif decide (i8 < (↑(List.length l) : Int)) then (bif decide ((0 : Int) ≤ i8) && decide (i8 < (↑(List.length l) : Int)) then (bif decide ((↑(List.length (SSet.sigs (List.getD l
 (Int.toNat i8) set0))) : Int) ≥ (1 : Int)) then (bif !decide ((↑(List.length (SSet.sigs (List.getD l (Int.toNat i8) set0))) : Int) ≤ (24 : Int)) then some (T.leaf (AV.c (C.d (D.v
 (Value.int IntKind.i64 i8))), [])) else L141_2 l g m (IntKind.wrap .i64 (i8 + (1 : Int)))) else some (T.leaf (AV.c (.d (.v (.int .i64 i8))), []))) else none)
 else some (T.leaf (AV.c (.d (.v (.int .i64 (-1 : Int)))), []))) := by kernel_rfl
noncomputable def o84 (oki : List AV → Bool) (ix : List AV → Int) : Orc := Orc.cons 115 (inl Tryz.prog (Orc.cons 141 (ansG oki fun x => vI (ix x)) Orc.nil) na 1 Tryz.f115) Orc.nil
noncomputable def ann84 : Ann := annOf []
theorem b84 : Tryz.f83.body = some (Aad Tryz.f83) := by kernel_rfl
theorem ev84 (oki : List AV → Bool) (ix : List AV → Int) (r : SRel) (g : Nat) : Aal Tryz.prog (o84 oki ix) ann84 g Tryz.f83 (Aad Tryz.f83) [aRel r] [] =
 (bif decide ((↑(List.length (SRel.rules r)) : Int) ≤ (16 : Int)) then (bif decide ((↑(List.length (SRel.sets r)) : Int) ≤ (4 : Int)) then (bif decide ((↑(List.length (SRel.pubs r))
 : Int) ≤ (4 : Int)) then (bif decide ((↑(List.length (SRel.subs r)) : Int) ≤ (24 : Int)) then (bif oki [AV.c (C.d (Aac (2) setC set0 (SRel.sets r))), AV.c (C.d (D.v
 (Value.func (Fn.func 114) #[] #[])))] then some (T.leaf (AV.c (.d (.v (.bool !decide (ix [AV.c (C.d (Aac (2) setC set0 (SRel.sets r))), AV.c (C.d (D.v
 (Value.func (Fn.func 114) #[] #[])))] ≥ (0 : Int))))), [])) else none) else some (T.leaf (AV.c (.d (.v (.bool false))), []))) else some (T.leaf (AV.c (C.d (D.v
 (Value.bool false))), []))) else some (T.leaf (AV.c (.d (.v (.bool false))), []))) else some (T.leaf (AV.c (.d (.v (.bool false))), []))) := by kernel_rfl
end Go.Proofs.YtmnfibmlhmeheaaGreatDoor.se
namespace Go.Proofs.YtmnfibmlhmeheaaGreatDoor.se
open Go.RowKit Go.Eb Go.Proofs.YtmnfibmlhmeheaaGreatDoor.st
theorem sN {r : Orc} (h : OrcS Tryz.prog r) : OrcS Tryz.prog (oN Aae r) := .cons (.p decS_ok c15) h
theorem sW : OrcS Tryz.prog (Orc.cons 110 (inl Tryz.prog Orc.nil na 1 Tryz.f110) Orc.nil) := .cons (.inl .nil Tryz.func110 (by kernel_rfl)) .nil
def eFn (f : FuncId) : Unit → AV := fun _ => .c (.d (dF f))
theorem eFn_inj (f : FuncId) : InjA (eFn f) := fun _ _ _ => rfl
abbrev eBus := aD Aab
theorem eBus_inj : InjA eBus := aD_inj (listD_inj (sz := 1) (d0 := e0) busC_inj)
theorem aRule_inj : InjA aRule := aG_inj ruleC_inj
theorem aSet_inj : InjA aSet := aG_inj setC_inj
theorem aPub_inj : InjA aPub := aG_inj pubC_inj
theorem aSub_inj : InjA aSub := aG_inj subC_inj
theorem c115 (s : ByteArray) : CX Tryz.prog 117 [vS s] [] (vB (ev115_v s)) [] := cx_of (Orc.nil_ok _) Tryz.func117 (by kernel_rfl) rfl (ev115 s)
theorem c123 (x : SPub) : CX Tryz.prog 125 [aPub x] [] (vI (ev123_v x)) [] := cx_of sW.ok Tryz.func125 (by kernel_rfl) rfl (ev123 x)
theorem lp117 (x : SRule) (g : Nat) (hs : x.text.size ≤ 120) : ∀ (m k : Nat), k ≤ x.text.size → x.text.size - k < m → L117_4 x g m k = lN (bif (x.text.data.toList.drop k).any badByte then 5 else 0)
  | 0, k, _, h => by omega
  | m + 1, k, hk, h => by
    rw [st117_4]
    by_cases hlt : k < x.text.size
    · have hl : k < x.text.data.toList.length := by simpa using hlt
      have ih := lp117 x g hs m (k + 1) (by omega) (by omega)
      rw [drop_at' (d := 0) hl]
      rw [lt1 hlt, ge0, tn, nx hlt (by omega), ih]
      simp only [tt, cond_true, List.any_cons, badByte]
      generalize decide (((x.text.data.toList.getD k 0).toNat : Int) < 32) = a1
      generalize decide (((x.text.data.toList.getD k 0).toNat : Int) > 126) = a2
      generalize (((x.text.data.toList.getD k 0).toNat : Int) == 34) = a3
      cases a1 <;> cases a2 <;> cases a3 <;> rfl
    · rw [lt0 hlt, List.drop_of_length_le (by simp; omega)]
      rfl
theorem c117 (x : SRule) : CX Tryz.prog 119 [aRule x] [] (vI (textErr x.text)) [] := by
  obtain ⟨g, hg⟩ : ∃ g, x.text.size < g := ⟨x.text.size + 1, by omega⟩
  refine cx_of (Orc.nil_ok _) Tryz.func119 b117 rfl ((ev117 x g).trans ?_)
  have e : decide ((x.text.size : Int) > 120) = decide (120 < x.text.size) := by
    rw [Bool.eq_iff_iff, decide_eq_true_eq, decide_eq_true_eq]; omega
  unfold textErr
  rw [e]
  cases h1 : decide (120 < x.text.size) with
  | true => rfl
  | false =>
    have hs : x.text.size ≤ 120 := by simp at h1; omega
    have := lp117 x g hs g 0 (by omega) (by omega)
    simp only [cond_false]
    exact this
theorem s147 : OrcS Tryz.prog (o147 Aae) := .cons (.inl (sN .nil) Tryz.func143 (by kernel_rfl)) .nil
theorem c147 (l : List ByteArray) (hl : l.length ≤ 9223372036854775807) : CX Tryz.prog 151 [.c (.d (Aab l)), .c (.d (dF 143))] [] (vI (idxP (fun s => !Aae s) 0 l)) [] := by
  obtain ⟨g, hg⟩ : ∃ g, l.length < g := ⟨l.length + 1, by omega⟩
  refine cx_of s147.ok Tryz.func151 b147 rfl ((ev147 Aae l g).trans ?_)
  have := idx_loop (p := fun s => !Aae s) (l := l) (d0 := e0) (L := fun m i => L147_2 Aae l g m i) (fun m k hk => by
    rw [st147_2, lt1 hk, ge0, tn, nx hk hl]
    simp only [tt, cond_true]) (fun m => by rw [st147_2, lt0 (Nat.lt_irrefl _)]; rfl) g 0 (by omega) (by omega)
  exact this
abbrev eNm := en2 eBus (eFn 143)
theorem eNm_inj : InjT eNm := en2_inj eBus_inj (eFn_inj _)
def cLen {α β : Type} (a : List α × β) : Bool := lenOk a.1
theorem s142 : OrcS Tryz.prog (o142 (okG eNm cLen) fun x => idxP (fun s => !Aae s) 0 (theT eNm x).1) :=
  .cons (.inl (.cons (.t' (r := fun (a : List ByteArray × Unit) => vI (idxP (fun s => !Aae s) 0 a.1)) fun a h => c147 a.1 (lenOk_le h)) .nil) Tryz.func142 (by kernel_rfl)) .nil
theorem anyAll (l : List ByteArray) : (!l.any fun s => !Aae s) = l.all Aae := by
  induction l with
  | nil => rfl
  | cons x r ih => simp only [List.any_cons, List.all_cons, Bool.not_or, ih, Bool.not_not]
theorem c119 (l : List ByteArray) (hl : lenOk l = true) : CX Tryz.prog 121 [.c (.d (Aab l))] [] (vB (l.all Aae)) [] := by
  refine cx_of s142.ok Tryz.func121 b119 rfl ((ev119 _ _ l 1).trans ?_)
  have k := okG_enc eNm_inj (c := cLen) (l, ()) hl
  have t := theT_enc eNm_inj (l, ())
  simp only [en2, aD, eFn] at k t
  rw [k, t, idxP_ge, anyAll]
  rfl
noncomputable def ruleOk (x : SRule) : Bool := Aae x.name && !ev115_v x.name
def setOk (x : SSet) : Bool := Aae x.name && x.sigs.all Aae
def pubOk (x : SPub) : Bool := Aae x.set
def subOk (x : SSub) : Bool := Aae x.loc && (Aae x.dev && (Aae x.set && Aae x.sig))
theorem c114 (x : SRule) : CX Tryz.prog 116 [aRule x] [] (vB (ruleOk x)) [] := by
  refine cx_of (sN (.cons (.p decS_ok c115) .nil)).ok Tryz.func116 (by kernel_rfl) rfl ((ev114 Aae ev115_v x).trans ?_)
  unfold ev114_v ruleOk
  cases Aae x.name <;> rfl
abbrev eB1 := en1 eBus
theorem eB1_inj : InjT eB1 := en1_inj eBus_inj
theorem c118 (x : SSet) (hx : okSet x = true) : CX Tryz.prog 120 [aSet x] [] (vB (setOk x)) [] := by
  refine cx_of (sN (.cons (.t' (enc := eB1) (c := lenOk) (r := fun a => vB (a.all Aae)) fun a h => c119 a h) .nil)).ok Tryz.func120 b118 rfl ((ev118 Aae (okG eB1 lenOk) (fun y => (theT eB1 y).all Aae) x 1).trans ?_)
  have k := okG_enc eB1_inj (c := lenOk) x.sigs hx
  have t := theT_enc eB1_inj x.sigs
  simp only [en1, aD] at k t
  rw [k, t]
  unfold setOk
  cases Aae x.name <;> rfl
theorem c121 (x : SPub) : CX Tryz.prog 123 [aPub x] [] (vB (pubOk x)) [] := cx_of (sN .nil).ok Tryz.func123 (by kernel_rfl) rfl (ev121 Aae x)
theorem s124 : OrcS Tryz.prog (o124 Aae) := .cons (.inl (.cons (.inl (.cons (.inl s147 Tryz.func151 (by kernel_rfl)) .nil) Tryz.func142 (by kernel_rfl)) .nil) Tryz.func121 (by kernel_rfl)) .nil
theorem c124 (x : SSub) : CX Tryz.prog 126 [aSub x] [] (vB (subOk x)) [] := by
  refine cx_of s124.ok Tryz.func126 b124 rfl ((ev124 Aae x 1).trans ?_)
  unfold subOk
  cases Aae x.loc <;> cases Aae x.dev <;> cases Aae x.set <;> cases Aae x.sig <;> rfl
def c1 {α : Type} (_ : α) : Bool := true
abbrev eRu := en1 aRule
abbrev eSe := en1 aSet
abbrev ePu := en1 aPub
abbrev eSu := en1 aSub
theorem eRu_inj : InjT eRu := en1_inj aRule_inj
theorem eSe_inj : InjT eSe := en1_inj aSet_inj
theorem ePu_inj : InjT ePu := en1_inj aPub_inj
theorem eSu_inj : InjT eSu := en1_inj aSub_inj
theorem assocN (seen : List ByteArray) (s : ByteArray) : boolOf (assoc (Aak seen) (.string s)) = inB seen s := assoc_mapOf seen s
theorem s126 : OrcS Tryz.prog (o126 (okG eRu c1) (fun x => ruleOk (theT eRu x)) (okG eRu c1) fun x => textErr (theT eRu x).text) :=
  .cons (.t' (r := fun a => vB (ruleOk a)) fun a _ => c114 a) (.cons (.inl .nil Tryz.func118 (by kernel_rfl)) (.cons (.t' (r := fun (a : SRule) => vI (textErr a.text)) fun a _ => c117 a) .nil))
theorem c126 (l : List SRule) (hl : lenOk l = true) : CX Tryz.prog 128 [.agg [.d (dF 116), .d (dF 118), .d (dF 119)], .c (.d (rulesD l))] [] (vI (listErr ruleOk SRule.name (fun x => textErr x.text) [] l)) [] := by
  obtain ⟨g, hg⟩ : ∃ g, l.length < g := ⟨l.length + 1, by omega⟩
  refine cx_of s126.ok Tryz.func128 b126 rfl ((ev126 _ _ _ _ l g).trans ?_)
  have := seen_loop (valid := ruleOk) (key := SRule.name) (rest := fun x => textErr x.text) (l := l) (d0 := rule0) (L := fun m mp i => L126_3 (okG eRu c1) (fun x => ruleOk (theT eRu x)) (okG eRu c1) (fun x => textErr (theT eRu x).text) l g m mp i) (fun m k seen hk => by
    have k1 := okG_enc eRu_inj (c := c1) (l.getD k rule0) rfl
    have t1 := theT_enc eRu_inj (l.getD k rule0)
    simp only [en1] at k1 t1
    rw [st126_3, lt1 hk, ge0, tn, nx hk (lenOk_le hl), k1, t1, assocN, mapOf_app]
    simp only [tt, cond_true]) (fun m mp => by rw [st126_3, lt0 (Nat.lt_irrefl _)]; rfl) g 0 [] (by omega) (by omega)
  exact this
theorem s127 : OrcS Tryz.prog (o127 (okG eSe okSet) fun x => setOk (theT eSe x)) := .cons (.t' (r := fun a => vB (setOk a)) fun a h => c118 a h) (.cons (.inl .nil Tryz.func122 (by kernel_rfl)) .nil)
def rest0 {α : Type} (_ : α) : Int := 0
theorem c127 (l : List SSet) (hl : lenOk l = true) (ha : l.all okSet = true) : CX Tryz.prog 129 [.agg [.d (dF 120), .d (dF 122), .d dNF], .c (.d (setsD l))] [] (vI (listErr setOk SSet.name rest0 [] l)) [] := by
  obtain ⟨g, hg⟩ : ∃ g, l.length < g := ⟨l.length + 1, by omega⟩
  refine cx_of s127.ok Tryz.func129 b127 rfl ((ev127 _ _ l g).trans ?_)
  have := seen_loop (valid := setOk) (key := SSet.name) (rest := rest0) (l := l) (d0 := set0) (L := fun m mp i => L127_3 (okG eSe okSet) (fun x => setOk (theT eSe x)) l g m mp i) (fun m k seen hk => by
    have k1 := okG_enc eSe_inj (c := okSet) (l.getD k set0) (all_getD ha rfl k)
    have t1 := theT_enc eSe_inj (l.getD k set0)
    simp only [en1] at k1 t1
    rw [st127_3, lt1 hk, ge0, tn, nx hk (lenOk_le hl), k1, t1, assocN, mapOf_app]
    simp only [tt, cond_true]
    rfl) (fun m mp => by rw [st127_3, lt0 (Nat.lt_irrefl _)]; rfl) g 0 [] (by omega) (by omega)
  exact this
theorem s128 : OrcS Tryz.prog (o128 (okG ePu c1) (fun x => pubOk (theT ePu x)) (okG ePu c1) fun x => ev123_v (theT ePu x)) :=
  .cons (.t' (r := fun a => vB (pubOk a)) fun a _ => c121 a) (.cons (.inl .nil Tryz.func124 (by kernel_rfl)) (.cons (.t' (r := fun (a : SPub) => vI (ev123_v a)) fun a _ => c123 a) .nil))
theorem c128 (l : List SPub) (hl : lenOk l = true) : CX Tryz.prog 130 [.agg [.d (dF 123), .d (dF 124), .d (dF 125)], .c (.d (pubsD l))] [] (vI (listErr pubOk SPub.set ev123_v [] l)) [] := by
  obtain ⟨g, hg⟩ : ∃ g, l.length < g := ⟨l.length + 1, by omega⟩
  refine cx_of s128.ok Tryz.func130 b128 rfl ((ev128 _ _ _ _ l g).trans ?_)
  have := seen_loop (valid := pubOk) (key := SPub.set) (rest := ev123_v) (l := l) (d0 := pub0) (L := fun m mp i => L128_3 (okG ePu c1) (fun x => pubOk (theT ePu x)) (okG ePu c1) (fun x => ev123_v (theT ePu x)) l g m mp i) (fun m k seen hk => by
    have k1 := okG_enc ePu_inj (c := c1) (l.getD k pub0) rfl
    have t1 := theT_enc ePu_inj (l.getD k pub0)
    simp only [en1] at k1 t1
    rw [st128_3, lt1 hk, ge0, tn, nx hk (lenOk_le hl), k1, t1, assocN, mapOf_app]
    simp only [tt, cond_true]) (fun m mp => by rw [st128_3, lt0 (Nat.lt_irrefl _)]; rfl) g 0 [] (by omega) (by omega)
  exact this
theorem s129 : OrcS Tryz.prog (o129 (okG eSu c1) fun x => subOk (theT eSu x)) := .cons (.t' (r := fun a => vB (subOk a)) fun a _ => c124 a) (.cons (.inl .nil Tryz.func127 (by kernel_rfl)) .nil)
theorem c129 (l : List SSub) (hl : lenOk l = true) : CX Tryz.prog 131 [.agg [.d (dF 126), .d (dF 127), .d dNF], .c (.d (subsD l))] [] (vI (listErr subOk SSub.loc rest0 [] l)) [] := by
  obtain ⟨g, hg⟩ : ∃ g, l.length < g := ⟨l.length + 1, by omega⟩
  refine cx_of s129.ok Tryz.func131 b129 rfl ((ev129 _ _ l g).trans ?_)
  have := seen_loop (valid := subOk) (key := SSub.loc) (rest := rest0) (l := l) (d0 := sub0) (L := fun m mp i => L129_3 (okG eSu c1) (fun x => subOk (theT eSu x)) l g m mp i) (fun m k seen hk => by
    have k1 := okG_enc eSu_inj (c := c1) (l.getD k sub0) rfl
    have t1 := theT_enc eSu_inj (l.getD k sub0)
    simp only [en1] at k1 t1
    rw [st129_3, lt1 hk, ge0, tn, nx hk (lenOk_le hl), k1, t1, assocN, mapOf_app]
    simp only [tt, cond_true]
    rfl) (fun m mp => by rw [st129_3, lt0 (Nat.lt_irrefl _)]; rfl) g 0 [] (by omega) (by omega)
  exact this
end Go.Proofs.YtmnfibmlhmeheaaGreatDoor.se
namespace Go.Eb
open Go.RowKit
def dec3 : List AV → Option (Int × Int × Int)
  | [.c (.d (.v (.int .i64 a))), .c (.d (.v (.int .i64 b))), .c (.d (.v (.int .i64 c)))] => some (a, b, c)
  | _ => none
theorem dec3_ok (args : List AV) (a : Int × Int × Int) (h : dec3 args = some a) : args = [vI a.1, vI a.2.1, vI a.2.2] := by
  unfold dec3 at h
  split at h
  · cases h; rfl
  · simp at h
def decE : List AV → Option (Bool × Int × Int × Int)
  | [.agg [.d (.v (.bool o)), .d (.v (.int .i64 a)), .d (.v (.int .i64 b))], .c (.d (.v (.int .i64 c)))] => some (o, a, b, c)
  | _ => none
theorem decE_ok (args : List AV) (a : Bool × Int × Int × Int) (h : decE args = some a) : args = [.agg [.d (dB a.1), .d (dI a.2.1), .d (dI a.2.2.1)], vI a.2.2.2] := by
  unfold decE at h
  split at h
  · cases h; rfl
  · simp at h
def elOk (on : Bool) (pk dl least : Int) : Bool := bif on then Aaa pk 1 16383 && Aaa dl least 500 else (pk == 0) && (dl == 0)
end Go.Eb
namespace Go.Proofs.YtmnfibmlhmeheaaGreatDoor.se
open Go.RowKit Go.Eb
noncomputable def oWi : Orc := Orc.cons 110 (inl Tryz.prog Orc.nil na 1 Tryz.f110) Orc.nil
noncomputable def oW3 : Orc := Orc.cons 110 (ansP dec3 fun a => vB (Aaa a.1 a.2.1 a.2.2)) Orc.nil
noncomputable def oE3 : Orc := Orc.cons 112 (ansP decE fun a => vB (elOk a.1 a.2.1 a.2.2.1 a.2.2.2)) oW3
noncomputable def oZo : Orc := Orc.cons 113 (inl Tryz.prog oW3 na 1 Tryz.f113) oW3
theorem evWi_t (a b c : Int) : Aal Tryz.prog Orc.nil na 5 Tryz.f110 (Aad Tryz.f110) [vI a, vI b, vI c] [] =
 (bif decide (a ≥ b) then some (T.leaf (AV.c (.d (.v (.bool (decide (a ≤ c))))), [])) else some (T.leaf (AV.c (.d (.v (.bool false))), []))) := by kernel_rfl
noncomputable def evWi_v (a b c : Int) : Bool :=
 (bif decide (a ≥ b) then ((decide (a ≤ c))) else (false))
theorem evWi (a b c : Int) : Aal Tryz.prog Orc.nil na 5 Tryz.f110 (Aad Tryz.f110) [vI a, vI b, vI c] [] = some (.leaf (vB (evWi_v a b c), [])) := by
  rw [evWi_t]
  unfold evWi_v
  simp only [bLeaf]
theorem evEl_t (o : Bool) (a b c : Int) : Aal Tryz.prog oW3 na 5 Tryz.f112 (Aad Tryz.f112) [.agg [.d (dB o), .d (dI a), .d (dI b)], vI c] [] =
 (bif !o then some (T.leaf (AV.c (.d (.v (.bool (o == false && (a == (0 : Int) && (b == (0 : Int) && true)))))), [])) else (bif Aaa a (1 : Int) (16383 : Int) then some
 (T.leaf (AV.c (.d (.v (.bool (Aaa b c (500 : Int))))), [])) else some (T.leaf (AV.c (.d (.v (.bool false))), [])))) := by kernel_rfl
noncomputable def evEl_v (o : Bool) (a b c : Int) : Bool :=
 (bif !o then ((o == false && (a == (0 : Int) && (b == (0 : Int) && true)))) else (bif Aaa a (1 : Int) (16383 : Int) then ((Aaa b c (500 : Int))) else (false)))
theorem evEl (o : Bool) (a b c : Int) : Aal Tryz.prog oW3 na 5 Tryz.f112 (Aad Tryz.f112) [.agg [.d (dB o), .d (dI a), .d (dI b)], vI c] [] = some (.leaf (vB (evEl_v o a b c), [])) := by
  rw [evEl_t]
  unfold evEl_v
  simp only [bLeaf]
theorem ev78_t (r : SRel) : Aal Tryz.prog oW3 na 5 Tryz.f77 (Aad Tryz.f77) [aRel r] [] =
 (bif SRel.kind r != (1 : Int) then (bif SRel.zon0 r == false && (SRel.zfw0 r == false && (SRel.zx0 r == (0 : Int) && (SRel.zr0 r == (0 : Int) && (SRel.zl0 r == (0 : Int) &&
 (SRel.zd0 r == (0 : Int) && true))))) && (SRel.zon1 r == false && (SRel.zfw1 r == false && (SRel.zx1 r == (0 : Int) && (SRel.zr1 r == (0 : Int) && (SRel.zl1 r == (0 : Int) &&
 (SRel.zd1 r == (0 : Int) && true))))) && (SRel.zon2 r == false && (SRel.zfw2 r == false && (SRel.zx2 r == (0 : Int) && (SRel.zr2 r == (0 : Int) && (SRel.zl2 r == (0 : Int) &&
 (SRel.zd2 r == (0 : Int) && true))))) && true)) then (bif SRel.min r == (0 : Int) then (bif SRel.kre r == (0 : Int) then (bif SRel.kim r == (0 : Int) then (bif SRel.scheme r == (0 :
 Int) then (bif SRel.wait r == (0 : Int) then (bif SRel.guard r == (0 : Int) then (bif SRel.shots r == (0 : Int) then (bif SRel.dead r == (0 : Int) then (bif SRel.kind r != (2 : Int)
 then (bif SRel.reclaim r == (0 : Int) then (bif SRel.uon r == false && (SRel.upk r == (0 : Int) && (SRel.udl r == (0 : Int) && true)) then (bif SRel.kind r == (4 : Int) then (bif
 SRel.oon r == false && (SRel.opk r == (0 : Int) && (SRel.odl r == (0 : Int) && true)) then (bif SRel.don r == false && (SRel.dpk r == (0 : Int) && (SRel.ddl r == (0 : Int) && true))
 then (bif SRel.ion r == false && (SRel.ipk r == (0 : Int) && (SRel.idl r == (0 : Int) && true)) then some (T.leaf (AV.c (.d (.v (.bool (SRel.fon r == false && (SRel.fpk r ==
 (0 : Int) && (SRel.fdl r == (0 : Int) && true)))))), [])) else some (T.leaf (AV.c (.d (.v (.bool false))), []))) else some (T.leaf (AV.c (.d (.v (.bool false))), [])))
 else some (T.leaf (AV.c (.d (.v (.bool false))), []))) else (bif SRel.oon r == false && (SRel.opk r == (0 : Int) && (SRel.odl r == (0 : Int) && true)) then (bif SRel.diff r
 == (0 : Int) then (bif SRel.num r == (0 : Int) then (bif SRel.den r == (0 : Int) then some (T.leaf (AV.c (.d (.v (.bool (SRel.harm r == (0 : Int))))), [])) else some (T.leaf
 (AV.c (.d (.v (.bool false))), []))) else some (T.leaf (AV.c (.d (.v (.bool false))), []))) else some (T.leaf (AV.c (.d (.v (.bool false))), []))) else some
 (T.leaf (AV.c (.d (.v (.bool false))), [])))) else (bif SRel.kind r == (4 : Int) then some (T.leaf (AV.c (.d (.v (.bool false))), [])) else some (T.leaf (AV.c (C.d
 (D.v (.bool false))), [])))) else (bif SRel.kind r == (4 : Int) then some (T.leaf (AV.c (.d (.v (.bool false))), [])) else some (T.leaf (AV.c (C.d (D.v (Value.bool
 false))), [])))) else (bif SRel.kind r == (4 : Int) then (bif SRel.reclaim r == (0 : Int) then (bif SRel.don r == false && (SRel.dpk r == (0 : Int) && (SRel.ddl r == (0 : Int) &&
 true)) then (bif SRel.ion r == false && (SRel.ipk r == (0 : Int) && (SRel.idl r == (0 : Int) && true)) then some (T.leaf (AV.c (.d (.v (.bool (SRel.fon r == false &&
 (SRel.fpk r == (0 : Int) && (SRel.fdl r == (0 : Int) && true)))))), [])) else some (T.leaf (AV.c (.d (.v (.bool false))), []))) else some (T.leaf (AV.c (C.d (D.v (Value.bool
 false))), []))) else some (T.leaf (AV.c (.d (.v (.bool false))), []))) else (bif SRel.reclaim r == (0 : Int) then (bif SRel.diff r == (0 : Int) then (bif SRel.num r == (0 :
 Int) then (bif SRel.den r == (0 : Int) then some (T.leaf (AV.c (.d (.v (.bool (SRel.harm r == (0 : Int))))), [])) else some (T.leaf (AV.c (.d (.v (.bool false))),
 []))) else some (T.leaf (AV.c (.d (.v (.bool false))), []))) else some (T.leaf (AV.c (.d (.v (.bool false))), []))) else some (T.leaf (AV.c (C.d (D.v (Value.bool
 false))), []))))) else (bif SRel.kind r != (2 : Int) then (bif SRel.kind r == (4 : Int) then some (T.leaf (AV.c (.d (.v (.bool false))), [])) else some (T.leaf (AV.c (C.d
 (D.v (.bool false))), []))) else (bif SRel.kind r == (4 : Int) then some (T.leaf (AV.c (.d (.v (.bool false))), [])) else some (T.leaf (AV.c (C.d (D.v (Value.bool
 false))), []))))) else (bif SRel.kind r != (2 : Int) then (bif SRel.kind r == (4 : Int) then some (T.leaf (AV.c (.d (.v (.bool false))), [])) else some (T.leaf (AV.c (C.d
 (D.v (.bool false))), []))) else (bif SRel.kind r == (4 : Int) then some (T.leaf (AV.c (.d (.v (.bool false))), [])) else some (T.leaf (AV.c (C.d (D.v (Value.bool
 false))), []))))) else (bif SRel.kind r != (2 : Int) then (bif SRel.kind r == (4 : Int) then some (T.leaf (AV.c (.d (.v (.bool false))), [])) else some (T.leaf (AV.c (C.d
 (D.v (.bool false))), []))) else (bif SRel.kind r == (4 : Int) then some (T.leaf (AV.c (.d (.v (.bool false))), [])) else some (T.leaf (AV.c (C.d (D.v (Value.bool
 false))), []))))) else (bif SRel.kind r != (2 : Int) then (bif SRel.kind r == (4 : Int) then some (T.leaf (AV.c (.d (.v (.bool false))), [])) else some (T.leaf (AV.c (C.d
 (D.v (.bool false))), []))) else (bif SRel.kind r == (4 : Int) then some (T.leaf (AV.c (.d (.v (.bool false))), [])) else some (T.leaf (AV.c (C.d (D.v (Value.bool
 false))), []))))) else (bif SRel.kind r != (2 : Int) then (bif SRel.kind r == (4 : Int) then some (T.leaf (AV.c (.d (.v (.bool false))), [])) else some (T.leaf (AV.c (C.d
 (D.v (.bool false))), []))) else (bif SRel.kind r == (4 : Int) then some (T.leaf (AV.c (.d (.v (.bool false))), [])) else some (T.leaf (AV.c (C.d (D.v (Value.bool
 false))), []))))) else (bif SRel.kind r != (2 : Int) then (bif SRel.kind r == (4 : Int) then some (T.leaf (AV.c (.d (.v (.bool false))), [])) else some (T.leaf (AV.c (C.d
 (D.v (.bool false))), []))) else (bif SRel.kind r == (4 : Int) then some (T.leaf (AV.c (.d (.v (.bool false))), [])) else some (T.leaf (AV.c (C.d (D.v (Value.bool
 false))), []))))) else (bif SRel.kind r != (2 : Int) then (bif SRel.kind r == (4 : Int) then some (T.leaf (AV.c (.d (.v (.bool false))), [])) else some (T.leaf (AV.c (C.d
 (D.v (.bool false))), []))) else (bif SRel.kind r == (4 : Int) then some (T.leaf (AV.c (.d (.v (.bool false))), [])) else some (T.leaf (AV.c (C.d (D.v (Value.bool
 false))), []))))) else (bif SRel.kind r != (2 : Int) then (bif SRel.kind r == (4 : Int) then some (T.leaf (AV.c (.d (.v (.bool false))), [])) else some (T.leaf (AV.c (C.d
 (D.v (.bool false))), []))) else (bif SRel.kind r == (4 : Int) then some (T.leaf (AV.c (.d (.v (.bool false))), [])) else some (T.leaf (AV.c (C.d (D.v (Value.bool
 false))), []))))) else (bif SRel.kind r != (2 : Int) then (bif SRel.kind r == (4 : Int) then some (T.leaf (AV.c (.d (.v (.bool false))), [])) else some (T.leaf (AV.c (C.d
 (D.v (.bool false))), []))) else (bif SRel.kind r == (4 : Int) then some (T.leaf (AV.c (.d (.v (.bool false))), [])) else some (T.leaf (AV.c (C.d (D.v (Value.bool
 false))), []))))) else (bif SRel.kind r != (2 : Int) then (bif SRel.uon r == false && (SRel.upk r == (0 : Int) && (SRel.udl r == (0 : Int) && true)) then (bif SRel.kind r == (4 :
 Int) then (bif SRel.oon r == false && (SRel.opk r == (0 : Int) && (SRel.odl r == (0 : Int) && true)) then (bif SRel.don r == false && (SRel.dpk r == (0 : Int) && (SRel.ddl r == (0 :
 Int) && true)) then (bif SRel.ion r == false && (SRel.ipk r == (0 : Int) && (SRel.idl r == (0 : Int) && true)) then some (T.leaf (AV.c (.d (.v (.bool (SRel.fon r == false &&
 (SRel.fpk r == (0 : Int) && (SRel.fdl r == (0 : Int) && true)))))), [])) else some (T.leaf (AV.c (.d (.v (.bool false))), []))) else some (T.leaf (AV.c (C.d (D.v (Value.bool
 false))), []))) else some (T.leaf (AV.c (.d (.v (.bool false))), []))) else (bif SRel.oon r == false && (SRel.opk r == (0 : Int) && (SRel.odl r == (0 : Int) && true)) then
 (bif SRel.diff r == (0 : Int) then (bif SRel.num r == (0 : Int) then (bif SRel.den r == (0 : Int) then some (T.leaf (AV.c (.d (.v (.bool (SRel.harm r == (0 : Int))))), []))
 else some (T.leaf (AV.c (.d (.v (.bool false))), []))) else some (T.leaf (AV.c (.d (.v (.bool false))), []))) else some (T.leaf (AV.c (.d (.v (.bool false))),
 []))) else some (T.leaf (AV.c (.d (.v (.bool false))), [])))) else (bif SRel.kind r == (4 : Int) then some (T.leaf (AV.c (.d (.v (.bool false))), [])) else some
 (T.leaf (AV.c (.d (.v (.bool false))), [])))) else (bif SRel.kind r == (4 : Int) then (bif SRel.don r == false && (SRel.dpk r == (0 : Int) && (SRel.ddl r == (0 : Int) &&
 true)) then (bif SRel.ion r == false && (SRel.ipk r == (0 : Int) && (SRel.idl r == (0 : Int) && true)) then some (T.leaf (AV.c (.d (.v (.bool (SRel.fon r == false &&
 (SRel.fpk r == (0 : Int) && (SRel.fdl r == (0 : Int) && true)))))), [])) else some (T.leaf (AV.c (.d (.v (.bool false))), []))) else some (T.leaf (AV.c (C.d (D.v (Value.bool
 false))), []))) else (bif SRel.diff r == (0 : Int) then (bif SRel.num r == (0 : Int) then (bif SRel.den r == (0 : Int) then some (T.leaf (AV.c (.d (.v (.bool (SRel.harm r ==
 (0 : Int))))), [])) else some (T.leaf (AV.c (.d (.v (.bool false))), []))) else some (T.leaf (AV.c (.d (.v (.bool false))), []))) else some (T.leaf (AV.c (C.d (D.v
 (Value.bool false))), [])))))) := by kernel_rfl
noncomputable def ev78_v (r : SRel) : Bool :=
 (bif SRel.kind r != (1 : Int) then (bif SRel.zon0 r == false && (SRel.zfw0 r == false && (SRel.zx0 r == (0 : Int) && (SRel.zr0 r == (0 : Int) && (SRel.zl0 r == (0 : Int) &&
 (SRel.zd0 r == (0 : Int) && true))))) && (SRel.zon1 r == false && (SRel.zfw1 r == false && (SRel.zx1 r == (0 : Int) && (SRel.zr1 r == (0 : Int) && (SRel.zl1 r == (0 : Int) &&
 (SRel.zd1 r == (0 : Int) && true))))) && (SRel.zon2 r == false && (SRel.zfw2 r == false && (SRel.zx2 r == (0 : Int) && (SRel.zr2 r == (0 : Int) && (SRel.zl2 r == (0 : Int) &&
 (SRel.zd2 r == (0 : Int) && true))))) && true)) then (bif SRel.min r == (0 : Int) then (bif SRel.kre r == (0 : Int) then (bif SRel.kim r == (0 : Int) then (bif SRel.scheme r == (0 :
 Int) then (bif SRel.wait r == (0 : Int) then (bif SRel.guard r == (0 : Int) then (bif SRel.shots r == (0 : Int) then (bif SRel.dead r == (0 : Int) then (bif SRel.kind r != (2 : Int)
 then (bif SRel.reclaim r == (0 : Int) then (bif SRel.uon r == false && (SRel.upk r == (0 : Int) && (SRel.udl r == (0 : Int) && true)) then (bif SRel.kind r == (4 : Int) then (bif
 SRel.oon r == false && (SRel.opk r == (0 : Int) && (SRel.odl r == (0 : Int) && true)) then (bif SRel.don r == false && (SRel.dpk r == (0 : Int) && (SRel.ddl r == (0 : Int) && true))
 then (bif SRel.ion r == false && (SRel.ipk r == (0 : Int) && (SRel.idl r == (0 : Int) && true)) then ((SRel.fon r == false && (SRel.fpk r == (0 : Int) && (SRel.fdl r == (0 : Int) &&
 true)))) else (false)) else (false)) else (false)) else (bif SRel.oon r == false && (SRel.opk r == (0 : Int) && (SRel.odl r == (0 : Int) && true)) then (bif SRel.diff r == (0 : Int)
 then (bif SRel.num r == (0 : Int) then (bif SRel.den r == (0 : Int) then ((SRel.harm r == (0 : Int))) else (false)) else (false)) else (false)) else (false))) else (bif SRel.kind r
 == (4 : Int) then (false) else (false))) else (bif SRel.kind r == (4 : Int) then (false) else (false))) else (bif SRel.kind r == (4 : Int) then (bif SRel.reclaim r == (0 : Int) then
 (bif SRel.don r == false && (SRel.dpk r == (0 : Int) && (SRel.ddl r == (0 : Int) && true)) then (bif SRel.ion r == false && (SRel.ipk r == (0 : Int) && (SRel.idl r == (0 : Int) &&
 true)) then ((SRel.fon r == false && (SRel.fpk r == (0 : Int) && (SRel.fdl r == (0 : Int) && true)))) else (false)) else (false)) else (false)) else (bif SRel.reclaim r == (0 : Int)
 then (bif SRel.diff r == (0 : Int) then (bif SRel.num r == (0 : Int) then (bif SRel.den r == (0 : Int) then ((SRel.harm r == (0 : Int))) else (false)) else (false)) else (false))
 else (false)))) else (bif SRel.kind r != (2 : Int) then (bif SRel.kind r == (4 : Int) then (false) else (false)) else (bif SRel.kind r == (4 : Int) then (false) else (false)))) else
 (bif SRel.kind r != (2 : Int) then (bif SRel.kind r == (4 : Int) then (false) else (false)) else (bif SRel.kind r == (4 : Int) then (false) else (false)))) else (bif SRel.kind r !=
 (2 : Int) then (bif SRel.kind r == (4 : Int) then (false) else (false)) else (bif SRel.kind r == (4 : Int) then (false) else (false)))) else (bif SRel.kind r != (2 : Int) then (bif
 SRel.kind r == (4 : Int) then (false) else (false)) else (bif SRel.kind r == (4 : Int) then (false) else (false)))) else (bif SRel.kind r != (2 : Int) then (bif SRel.kind r == (4 :
 Int) then (false) else (false)) else (bif SRel.kind r == (4 : Int) then (false) else (false)))) else (bif SRel.kind r != (2 : Int) then (bif SRel.kind r == (4 : Int) then (false)
 else (false)) else (bif SRel.kind r == (4 : Int) then (false) else (false)))) else (bif SRel.kind r != (2 : Int) then (bif SRel.kind r == (4 : Int) then (false) else (false)) else
 (bif SRel.kind r == (4 : Int) then (false) else (false)))) else (bif SRel.kind r != (2 : Int) then (bif SRel.kind r == (4 : Int) then (false) else (false)) else (bif SRel.kind r ==
 (4 : Int) then (false) else (false)))) else (bif SRel.kind r != (2 : Int) then (bif SRel.kind r == (4 : Int) then (false) else (false)) else (bif SRel.kind r == (4 : Int) then
 (false) else (false)))) else (bif SRel.kind r != (2 : Int) then (bif SRel.uon r == false && (SRel.upk r == (0 : Int) && (SRel.udl r == (0 : Int) && true)) then (bif SRel.kind r ==
 (4 : Int) then (bif SRel.oon r == false && (SRel.opk r == (0 : Int) && (SRel.odl r == (0 : Int) && true)) then (bif SRel.don r == false && (SRel.dpk r == (0 : Int) && (SRel.ddl r ==
 (0 : Int) && true)) then (bif SRel.ion r == false && (SRel.ipk r == (0 : Int) && (SRel.idl r == (0 : Int) && true)) then ((SRel.fon r == false && (SRel.fpk r == (0 : Int) &&
 (SRel.fdl r == (0 : Int) && true)))) else (false)) else (false)) else (false)) else (bif SRel.oon r == false && (SRel.opk r == (0 : Int) && (SRel.odl r == (0 : Int) && true)) then
 (bif SRel.diff r == (0 : Int) then (bif SRel.num r == (0 : Int) then (bif SRel.den r == (0 : Int) then ((SRel.harm r == (0 : Int))) else (false)) else (false)) else (false)) else
 (false))) else (bif SRel.kind r == (4 : Int) then (false) else (false))) else (bif SRel.kind r == (4 : Int) then (bif SRel.don r == false && (SRel.dpk r == (0 : Int) && (SRel.ddl r
 == (0 : Int) && true)) then (bif SRel.ion r == false && (SRel.ipk r == (0 : Int) && (SRel.idl r == (0 : Int) && true)) then ((SRel.fon r == false && (SRel.fpk r == (0 : Int) &&
 (SRel.fdl r == (0 : Int) && true)))) else (false)) else (false)) else (bif SRel.diff r == (0 : Int) then (bif SRel.num r == (0 : Int) then (bif SRel.den r == (0 : Int) then
 ((SRel.harm r == (0 : Int))) else (false)) else (false)) else (false)))))
theorem ev78 (r : SRel) : Aal Tryz.prog oW3 na 5 Tryz.f77 (Aad Tryz.f77) [aRel r] [] = some (.leaf (vB (ev78_v r), [])) := by
  rw [ev78_t]
  unfold ev78_v
  simp only [bLeaf]
theorem ev79_t (r : SRel) : Aal Tryz.prog oW3 na 5 Tryz.f78 (Aad Tryz.f78) [aRel r] [] =
 (bif !SRel.zon0 r then (bif !(SRel.zon0 r == false && (SRel.zfw0 r == false && (SRel.zx0 r == (0 : Int) && (SRel.zr0 r == (0 : Int) && (SRel.zl0 r == (0 : Int) && (SRel.zd0 r == (0
 : Int) && true)))))) then some (T.leaf (AV.c (.d (.v (.bool false))), [])) else (bif !SRel.zon1 r then (bif !(SRel.zon1 r == false && (SRel.zfw1 r == false && (SRel.zx1 r ==
 (0 : Int) && (SRel.zr1 r == (0 : Int) && (SRel.zl1 r == (0 : Int) && (SRel.zd1 r == (0 : Int) && true)))))) then some (T.leaf (AV.c (.d (.v (.bool false))), [])) else (bif
 !SRel.zon2 r then (bif !(SRel.zon2 r == false && (SRel.zfw2 r == false && (SRel.zx2 r == (0 : Int) && (SRel.zr2 r == (0 : Int) && (SRel.zl2 r == (0 : Int) && (SRel.zd2 r == (0 :
 Int) && true)))))) then some (T.leaf (AV.c (.d (.v (.bool false))), [])) else (bif SRel.min r == (0 : Int) then (bif SRel.kre r == (0 : Int) then some (T.leaf (AV.c (C.d (D.v
 (Value.bool (SRel.kim r == (0 : Int))))), [])) else some (T.leaf (AV.c (.d (.v (.bool false))), []))) else some (T.leaf (AV.c (.d (.v (.bool false))), [])))) else (bif
 !Aaa (SRel.zx2 r) (1 : Int) (4000 : Int) then some (T.leaf (AV.c (.d (.v (.bool false))), [])) else (bif !Aaa (SRel.zr2 r) (0 : Int) (4000 : Int) then some (T.leaf
 (AV.c (.d (.v (.bool false))), [])) else (bif !Aaa (SRel.zl2 r) (0 : Int) (4000 : Int) then some (T.leaf (AV.c (.d (.v (.bool false))), [])) else (bif !Aaa
 (SRel.zd2 r) (0 : Int) (500 : Int) then some (T.leaf (AV.c (.d (.v (.bool false))), [])) else (bif Aaa (SRel.min r) (1 : Int) (16383 : Int) then (bif Aaa (SRel.kre r)
 (-200 : Int) (200 : Int) then some (T.leaf (AV.c (.d (.v (.bool (Aaa (SRel.kim r) (-200 : Int) (200 : Int))))), [])) else some (T.leaf (AV.c (C.d (D.v (Value.bool
 false))), []))) else some (T.leaf (AV.c (.d (.v (.bool false))), []))))))))) else (bif !Aaa (SRel.zx1 r) (1 : Int) (4000 : Int) then some (T.leaf (AV.c (C.d (D.v
 (Value.bool false))), [])) else (bif !Aaa (SRel.zr1 r) (0 : Int) (4000 : Int) then some (T.leaf (AV.c (.d (.v (.bool false))), [])) else (bif !Aaa (SRel.zl1 r) (0 :
 Int) (4000 : Int) then some (T.leaf (AV.c (.d (.v (.bool false))), [])) else (bif !Aaa (SRel.zd1 r) (0 : Int) (500 : Int) then some (T.leaf (AV.c (C.d (D.v (Value.bool
 false))), [])) else (bif !SRel.zon2 r then (bif !(SRel.zon2 r == false && (SRel.zfw2 r == false && (SRel.zx2 r == (0 : Int) && (SRel.zr2 r == (0 : Int) && (SRel.zl2 r == (0 : Int)
 && (SRel.zd2 r == (0 : Int) && true)))))) then some (T.leaf (AV.c (.d (.v (.bool false))), [])) else (bif Aaa (SRel.min r) (1 : Int) (16383 : Int) then (bif Aaa
 (SRel.kre r) (-200 : Int) (200 : Int) then some (T.leaf (AV.c (.d (.v (.bool (Aaa (SRel.kim r) (-200 : Int) (200 : Int))))), [])) else some (T.leaf (AV.c (C.d (D.v
 (Value.bool false))), []))) else some (T.leaf (AV.c (.d (.v (.bool false))), [])))) else (bif !Aaa (SRel.zx2 r) (1 : Int) (4000 : Int) then some (T.leaf (AV.c (C.d (D.v
 (Value.bool false))), [])) else (bif !Aaa (SRel.zr2 r) (0 : Int) (4000 : Int) then some (T.leaf (AV.c (.d (.v (.bool false))), [])) else (bif !Aaa (SRel.zl2 r) (0 :
 Int) (4000 : Int) then some (T.leaf (AV.c (.d (.v (.bool false))), [])) else (bif !Aaa (SRel.zd2 r) (0 : Int) (500 : Int) then some (T.leaf (AV.c (C.d (D.v (Value.bool
 false))), [])) else (bif Aaa (SRel.min r) (1 : Int) (16383 : Int) then (bif Aaa (SRel.kre r) (-200 : Int) (200 : Int) then some (T.leaf (AV.c (.d (.v (.bool (Aaa
 (SRel.kim r) (-200 : Int) (200 : Int))))), [])) else some (T.leaf (AV.c (.d (.v (.bool false))), []))) else some (T.leaf (AV.c (.d (.v (.bool false))),
 [])))))))))))))) else (bif !Aaa (SRel.zx0 r) (1 : Int) (4000 : Int) then some (T.leaf (AV.c (.d (.v (.bool false))), [])) else (bif !Aaa (SRel.zr0 r) (0 : Int) (4000 :
 Int) then some (T.leaf (AV.c (.d (.v (.bool false))), [])) else (bif !Aaa (SRel.zl0 r) (0 : Int) (4000 : Int) then some (T.leaf (AV.c (.d (.v (.bool false))), []))
 else (bif !Aaa (SRel.zd0 r) (0 : Int) (500 : Int) then some (T.leaf (AV.c (.d (.v (.bool false))), [])) else (bif !SRel.zon1 r then (bif !(SRel.zon1 r == false &&
 (SRel.zfw1 r == false && (SRel.zx1 r == (0 : Int) && (SRel.zr1 r == (0 : Int) && (SRel.zl1 r == (0 : Int) && (SRel.zd1 r == (0 : Int) && true)))))) then some (T.leaf (AV.c (C.d (D.v
 (Value.bool false))), [])) else (bif !SRel.zon2 r then (bif !(SRel.zon2 r == false && (SRel.zfw2 r == false && (SRel.zx2 r == (0 : Int) && (SRel.zr2 r == (0 : Int) && (SRel.zl2 r ==
 (0 : Int) && (SRel.zd2 r == (0 : Int) && true)))))) then some (T.leaf (AV.c (.d (.v (.bool false))), [])) else (bif Aaa (SRel.min r) (1 : Int) (16383 : Int) then (bif
 Aaa (SRel.kre r) (-200 : Int) (200 : Int) then some (T.leaf (AV.c (.d (.v (.bool (Aaa (SRel.kim r) (-200 : Int) (200 : Int))))), [])) else some (T.leaf (AV.c (C.d (D.v
 (Value.bool false))), []))) else some (T.leaf (AV.c (.d (.v (.bool false))), [])))) else (bif !Aaa (SRel.zx2 r) (1 : Int) (4000 : Int) then some (T.leaf (AV.c (C.d (D.v
 (Value.bool false))), [])) else (bif !Aaa (SRel.zr2 r) (0 : Int) (4000 : Int) then some (T.leaf (AV.c (.d (.v (.bool false))), [])) else (bif !Aaa (SRel.zl2 r) (0 :
 Int) (4000 : Int) then some (T.leaf (AV.c (.d (.v (.bool false))), [])) else (bif !Aaa (SRel.zd2 r) (0 : Int) (500 : Int) then some (T.leaf (AV.c (C.d (D.v (Value.bool
 false))), [])) else (bif Aaa (SRel.min r) (1 : Int) (16383 : Int) then (bif Aaa (SRel.kre r) (-200 : Int) (200 : Int) then some (T.leaf (AV.c (.d (.v (.bool (Aaa
 (SRel.kim r) (-200 : Int) (200 : Int))))), [])) else some (T.leaf (AV.c (.d (.v (.bool false))), []))) else some (T.leaf (AV.c (.d (.v (.bool false))), [])))))))))
 else (bif !Aaa (SRel.zx1 r) (1 : Int) (4000 : Int) then some (T.leaf (AV.c (.d (.v (.bool false))), [])) else (bif !Aaa (SRel.zr1 r) (0 : Int) (4000 : Int) then some
 (T.leaf (AV.c (.d (.v (.bool false))), [])) else (bif !Aaa (SRel.zl1 r) (0 : Int) (4000 : Int) then some (T.leaf (AV.c (.d (.v (.bool false))), [])) else (bif
 !Aaa (SRel.zd1 r) (0 : Int) (500 : Int) then some (T.leaf (AV.c (.d (.v (.bool false))), [])) else (bif !SRel.zon2 r then (bif !(SRel.zon2 r == false && (SRel.zfw2 r ==
 false && (SRel.zx2 r == (0 : Int) && (SRel.zr2 r == (0 : Int) && (SRel.zl2 r == (0 : Int) && (SRel.zd2 r == (0 : Int) && true)))))) then some (T.leaf (AV.c (C.d (D.v (Value.bool
 false))), [])) else (bif Aaa (SRel.min r) (1 : Int) (16383 : Int) then (bif Aaa (SRel.kre r) (-200 : Int) (200 : Int) then some (T.leaf (AV.c (.d (.v (.bool (Aaa
 (SRel.kim r) (-200 : Int) (200 : Int))))), [])) else some (T.leaf (AV.c (.d (.v (.bool false))), []))) else some (T.leaf (AV.c (.d (.v (.bool false))), [])))) else
 (bif !Aaa (SRel.zx2 r) (1 : Int) (4000 : Int) then some (T.leaf (AV.c (.d (.v (.bool false))), [])) else (bif !Aaa (SRel.zr2 r) (0 : Int) (4000 : Int) then some (T.leaf
 (AV.c (.d (.v (.bool false))), [])) else (bif !Aaa (SRel.zl2 r) (0 : Int) (4000 : Int) then some (T.leaf (AV.c (.d (.v (.bool false))), [])) else (bif !Aaa
 (SRel.zd2 r) (0 : Int) (500 : Int) then some (T.leaf (AV.c (.d (.v (.bool false))), [])) else (bif Aaa (SRel.min r) (1 : Int) (16383 : Int) then (bif Aaa (SRel.kre r)
 (-200 : Int) (200 : Int) then some (T.leaf (AV.c (.d (.v (.bool (Aaa (SRel.kim r) (-200 : Int) (200 : Int))))), [])) else some (T.leaf (AV.c (C.d (D.v (Value.bool
 false))), []))) else some (T.leaf (AV.c (.d (.v (.bool false))), [])))))))))))))))))) := by kernel_rfl
noncomputable def ev79_v (r : SRel) : Bool :=
 (bif !SRel.zon0 r then (bif !(SRel.zon0 r == false && (SRel.zfw0 r == false && (SRel.zx0 r == (0 : Int) && (SRel.zr0 r == (0 : Int) && (SRel.zl0 r == (0 : Int) && (SRel.zd0 r == (0
 : Int) && true)))))) then (false) else (bif !SRel.zon1 r then (bif !(SRel.zon1 r == false && (SRel.zfw1 r == false && (SRel.zx1 r == (0 : Int) && (SRel.zr1 r == (0 : Int) &&
 (SRel.zl1 r == (0 : Int) && (SRel.zd1 r == (0 : Int) && true)))))) then (false) else (bif !SRel.zon2 r then (bif !(SRel.zon2 r == false && (SRel.zfw2 r == false && (SRel.zx2 r == (0
 : Int) && (SRel.zr2 r == (0 : Int) && (SRel.zl2 r == (0 : Int) && (SRel.zd2 r == (0 : Int) && true)))))) then (false) else (bif SRel.min r == (0 : Int) then (bif SRel.kre r == (0 :
 Int) then ((SRel.kim r == (0 : Int))) else (false)) else (false))) else (bif !Aaa (SRel.zx2 r) (1 : Int) (4000 : Int) then (false) else (bif !Aaa (SRel.zr2 r) (0 : Int) (4000
 : Int) then (false) else (bif !Aaa (SRel.zl2 r) (0 : Int) (4000 : Int) then (false) else (bif !Aaa (SRel.zd2 r) (0 : Int) (500 : Int) then (false) else (bif Aaa (SRel.min
 r) (1 : Int) (16383 : Int) then (bif Aaa (SRel.kre r) (-200 : Int) (200 : Int) then ((Aaa (SRel.kim r) (-200 : Int) (200 : Int))) else (false)) else (false)))))))) else (bif
 !Aaa (SRel.zx1 r) (1 : Int) (4000 : Int) then (false) else (bif !Aaa (SRel.zr1 r) (0 : Int) (4000 : Int) then (false) else (bif !Aaa (SRel.zl1 r) (0 : Int) (4000 : Int)
 then (false) else (bif !Aaa (SRel.zd1 r) (0 : Int) (500 : Int) then (false) else (bif !SRel.zon2 r then (bif !(SRel.zon2 r == false && (SRel.zfw2 r == false && (SRel.zx2 r == (0
 : Int) && (SRel.zr2 r == (0 : Int) && (SRel.zl2 r == (0 : Int) && (SRel.zd2 r == (0 : Int) && true)))))) then (false) else (bif Aaa (SRel.min r) (1 : Int) (16383 : Int) then (bif
 Aaa (SRel.kre r) (-200 : Int) (200 : Int) then ((Aaa (SRel.kim r) (-200 : Int) (200 : Int))) else (false)) else (false))) else (bif !Aaa (SRel.zx2 r) (1 : Int) (4000 : Int)
 then (false) else (bif !Aaa (SRel.zr2 r) (0 : Int) (4000 : Int) then (false) else (bif !Aaa (SRel.zl2 r) (0 : Int) (4000 : Int) then (false) else (bif !Aaa (SRel.zd2 r) (0
 : Int) (500 : Int) then (false) else (bif Aaa (SRel.min r) (1 : Int) (16383 : Int) then (bif Aaa (SRel.kre r) (-200 : Int) (200 : Int) then ((Aaa (SRel.kim r) (-200 : Int)
 (200 : Int))) else (false)) else (false))))))))))))) else (bif !Aaa (SRel.zx0 r) (1 : Int) (4000 : Int) then (false) else (bif !Aaa (SRel.zr0 r) (0 : Int) (4000 : Int) then
 (false) else (bif !Aaa (SRel.zl0 r) (0 : Int) (4000 : Int) then (false) else (bif !Aaa (SRel.zd0 r) (0 : Int) (500 : Int) then (false) else (bif !SRel.zon1 r then (bif
 !(SRel.zon1 r == false && (SRel.zfw1 r == false && (SRel.zx1 r == (0 : Int) && (SRel.zr1 r == (0 : Int) && (SRel.zl1 r == (0 : Int) && (SRel.zd1 r == (0 : Int) && true)))))) then
 (false) else (bif !SRel.zon2 r then (bif !(SRel.zon2 r == false && (SRel.zfw2 r == false && (SRel.zx2 r == (0 : Int) && (SRel.zr2 r == (0 : Int) && (SRel.zl2 r == (0 : Int) &&
 (SRel.zd2 r == (0 : Int) && true)))))) then (false) else (bif Aaa (SRel.min r) (1 : Int) (16383 : Int) then (bif Aaa (SRel.kre r) (-200 : Int) (200 : Int) then ((Aaa
 (SRel.kim r) (-200 : Int) (200 : Int))) else (false)) else (false))) else (bif !Aaa (SRel.zx2 r) (1 : Int) (4000 : Int) then (false) else (bif !Aaa (SRel.zr2 r) (0 : Int)
 (4000 : Int) then (false) else (bif !Aaa (SRel.zl2 r) (0 : Int) (4000 : Int) then (false) else (bif !Aaa (SRel.zd2 r) (0 : Int) (500 : Int) then (false) else (bif Aaa
 (SRel.min r) (1 : Int) (16383 : Int) then (bif Aaa (SRel.kre r) (-200 : Int) (200 : Int) then ((Aaa (SRel.kim r) (-200 : Int) (200 : Int))) else (false)) else (false))))))))
 else (bif !Aaa (SRel.zx1 r) (1 : Int) (4000 : Int) then (false) else (bif !Aaa (SRel.zr1 r) (0 : Int) (4000 : Int) then (false) else (bif !Aaa (SRel.zl1 r) (0 : Int) (4000
 : Int) then (false) else (bif !Aaa (SRel.zd1 r) (0 : Int) (500 : Int) then (false) else (bif !SRel.zon2 r then (bif !(SRel.zon2 r == false && (SRel.zfw2 r == false && (SRel.zx2 r
 == (0 : Int) && (SRel.zr2 r == (0 : Int) && (SRel.zl2 r == (0 : Int) && (SRel.zd2 r == (0 : Int) && true)))))) then (false) else (bif Aaa (SRel.min r) (1 : Int) (16383 : Int)
 then (bif Aaa (SRel.kre r) (-200 : Int) (200 : Int) then ((Aaa (SRel.kim r) (-200 : Int) (200 : Int))) else (false)) else (false))) else (bif !Aaa (SRel.zx2 r) (1 : Int)
 (4000 : Int) then (false) else (bif !Aaa (SRel.zr2 r) (0 : Int) (4000 : Int) then (false) else (bif !Aaa (SRel.zl2 r) (0 : Int) (4000 : Int) then (false) else (bif !Aaa
 (SRel.zd2 r) (0 : Int) (500 : Int) then (false) else (bif Aaa (SRel.min r) (1 : Int) (16383 : Int) then (bif Aaa (SRel.kre r) (-200 : Int) (200 : Int) then ((Aaa (SRel.kim
 r) (-200 : Int) (200 : Int))) else (false)) else (false)))))))))))))))))
theorem ev79 (r : SRel) : Aal Tryz.prog oW3 na 5 Tryz.f78 (Aad Tryz.f78) [aRel r] [] = some (.leaf (vB (ev79_v r), [])) := by
  rw [ev79_t]
  unfold ev79_v
  simp only [bLeaf]
theorem ev80_t (r : SRel) : Aal Tryz.prog oW3 na 5 Tryz.f79 (Aad Tryz.f79) [aRel r] [] =
 (bif !Aaa (SRel.scheme r) (0 : Int) (3 : Int) then some (T.leaf (AV.c (.d (.v (.bool false))), [])) else (bif SRel.scheme r == (3 : Int) then (bif !Aaa (SRel.wait r) (1
 : Int) (50 : Int) then some (T.leaf (AV.c (.d (.v (.bool false))), [])) else (bif SRel.scheme r == (0 : Int) then some (T.leaf (AV.c (.d (.v (.bool (SRel.guard r == (0
 : Int))))), [])) else some (T.leaf (AV.c (.d (.v (.bool (Aaa (SRel.guard r) (0 : Int) (50 : Int))))), [])))) else (bif SRel.wait r != (0 : Int) then some (T.leaf (AV.c
 (C.d (.v (.bool false))), [])) else (bif SRel.scheme r == (0 : Int) then some (T.leaf (AV.c (.d (.v (.bool (SRel.guard r == (0 : Int))))), [])) else some (T.leaf (AV.c
 (C.d (.v (.bool (Aaa (SRel.guard r) (0 : Int) (50 : Int))))), [])))))) := by kernel_rfl
noncomputable def ev80_v (r : SRel) : Bool :=
 (bif !Aaa (SRel.scheme r) (0 : Int) (3 : Int) then (false) else (bif SRel.scheme r == (3 : Int) then (bif !Aaa (SRel.wait r) (1 : Int) (50 : Int) then (false) else (bif
 SRel.scheme r == (0 : Int) then ((SRel.guard r == (0 : Int))) else ((Aaa (SRel.guard r) (0 : Int) (50 : Int))))) else (bif SRel.wait r != (0 : Int) then (false) else (bif
 SRel.scheme r == (0 : Int) then ((SRel.guard r == (0 : Int))) else ((Aaa (SRel.guard r) (0 : Int) (50 : Int)))))))
theorem ev80 (r : SRel) : Aal Tryz.prog oW3 na 5 Tryz.f79 (Aad Tryz.f79) [aRel r] [] = some (.leaf (vB (ev80_v r), [])) := by
  rw [ev80_t]
  unfold ev80_v
  simp only [bLeaf]
theorem ev81_t (r : SRel) : Aal Tryz.prog oE3 na 5 Tryz.f80 (Aad Tryz.f80) [aRel r] [] =
 (bif SRel.ion r then (bif !Aaa (SRel.ipk r) (1 : Int) (16383 : Int) then some (T.leaf (AV.c (.d (.v (.bool false))), [])) else (bif !Aaa (SRel.idl r) (1 : Int) (1000 :
 Int) then some (T.leaf (AV.c (.d (.v (.bool false))), [])) else (bif elOk (SRel.don r) (SRel.dpk r) (SRel.ddl r) (0 : Int) then (bif elOk (SRel.uon r) (SRel.upk r) (SRel.udl
 r) (0 : Int) then (bif elOk (SRel.oon r) (SRel.opk r) (SRel.odl r) (0 : Int) then some (T.leaf (AV.c (.d (.v (.bool (elOk (SRel.fon r) (SRel.fpk r) (SRel.fdl r) (1 :
 Int))))), [])) else some (T.leaf (AV.c (.d (.v (.bool false))), []))) else some (T.leaf (AV.c (.d (.v (.bool false))), []))) else some (T.leaf (AV.c (C.d (D.v
 (Value.bool false))), []))))) else (bif !(SRel.ion r == false && (SRel.ipk r == (0 : Int) && (SRel.idl r == (0 : Int) && true))) then some (T.leaf (AV.c (C.d (D.v (Value.bool
 false))), [])) else (bif elOk (SRel.don r) (SRel.dpk r) (SRel.ddl r) (0 : Int) then (bif elOk (SRel.uon r) (SRel.upk r) (SRel.udl r) (0 : Int) then (bif elOk (SRel.oon r) (SRel.opk
 r) (SRel.odl r) (0 : Int) then some (T.leaf (AV.c (.d (.v (.bool (elOk (SRel.fon r) (SRel.fpk r) (SRel.fdl r) (1 : Int))))), [])) else some (T.leaf (AV.c (C.d (D.v
 (Value.bool false))), []))) else some (T.leaf (AV.c (.d (.v (.bool false))), []))) else some (T.leaf (AV.c (.d (.v (.bool false))), []))))) := by kernel_rfl
noncomputable def ev81_v (r : SRel) : Bool :=
 (bif SRel.ion r then (bif !Aaa (SRel.ipk r) (1 : Int) (16383 : Int) then (false) else (bif !Aaa (SRel.idl r) (1 : Int) (1000 : Int) then (false) else (bif elOk (SRel.don r)
 (SRel.dpk r) (SRel.ddl r) (0 : Int) then (bif elOk (SRel.uon r) (SRel.upk r) (SRel.udl r) (0 : Int) then (bif elOk (SRel.oon r) (SRel.opk r) (SRel.odl r) (0 : Int) then ((elOk
 (SRel.fon r) (SRel.fpk r) (SRel.fdl r) (1 : Int))) else (false)) else (false)) else (false)))) else (bif !(SRel.ion r == false && (SRel.ipk r == (0 : Int) && (SRel.idl r == (0 :
 Int) && true))) then (false) else (bif elOk (SRel.don r) (SRel.dpk r) (SRel.ddl r) (0 : Int) then (bif elOk (SRel.uon r) (SRel.upk r) (SRel.udl r) (0 : Int) then (bif elOk (SRel.oon
 r) (SRel.opk r) (SRel.odl r) (0 : Int) then ((elOk (SRel.fon r) (SRel.fpk r) (SRel.fdl r) (1 : Int))) else (false)) else (false)) else (false))))
theorem ev81 (r : SRel) : Aal Tryz.prog oE3 na 5 Tryz.f80 (Aad Tryz.f80) [aRel r] [] = some (.leaf (vB (ev81_v r), [])) := by
  rw [ev81_t]
  unfold ev81_v
  simp only [bLeaf]
theorem ev82_t (r : SRel) : Aal Tryz.prog oW3 na 5 Tryz.f81 (Aad Tryz.f81) [aRel r] [] =
 (bif SRel.shots r == (0 : Int) then (bif SRel.dead r != (0 : Int) then some (T.leaf (AV.c (.d (.v (.bool false))), [])) else (bif SRel.reclaim r != (0 : Int) then some
 (T.leaf (AV.c (.d (.v (.bool false))), [])) else (bif SRel.diff r == (0 : Int) then (bif SRel.num r == (0 : Int) then (bif SRel.den r == (0 : Int) then some (T.leaf (AV.c
 (C.d (.v (.bool (SRel.harm r == (0 : Int))))), [])) else some (T.leaf (AV.c (.d (.v (.bool false))), []))) else some (T.leaf (AV.c (.d (.v (.bool false))), [])))
 else (bif Aaa (SRel.diff r) (1 : Int) (16383 : Int) then (bif Aaa (SRel.den r) (1 : Int) (100 : Int) then (bif Aaa (SRel.num r) (0 : Int) (SRel.den r) then some (T.leaf
 (AV.c (.d (.v (.bool (Aaa (SRel.harm r) (0 : Int) (100 : Int))))), [])) else some (T.leaf (AV.c (.d (.v (.bool false))), []))) else some (T.leaf (AV.c (C.d (D.v
 (Value.bool false))), []))) else some (T.leaf (AV.c (.d (.v (.bool false))), [])))))) else (bif !Aaa (SRel.shots r) (1 : Int) (3 : Int) then some (T.leaf (AV.c (C.d (D.v
 (Value.bool false))), [])) else (bif !Aaa (SRel.dead r) (1 : Int) (100 : Int) then some (T.leaf (AV.c (.d (.v (.bool false))), [])) else (bif !Aaa (SRel.reclaim r) (1 :
 Int) (1000 : Int) then some (T.leaf (AV.c (.d (.v (.bool false))), [])) else (bif SRel.diff r == (0 : Int) then (bif SRel.num r == (0 : Int) then (bif SRel.den r == (0 : Int)
 then some (T.leaf (AV.c (.d (.v (.bool (SRel.harm r == (0 : Int))))), [])) else some (T.leaf (AV.c (.d (.v (.bool false))), []))) else some (T.leaf (AV.c (C.d (D.v
 (Value.bool false))), []))) else (bif Aaa (SRel.diff r) (1 : Int) (16383 : Int) then (bif Aaa (SRel.den r) (1 : Int) (100 : Int) then (bif Aaa (SRel.num r) (0 : Int)
 (SRel.den r) then some (T.leaf (AV.c (.d (.v (.bool (Aaa (SRel.harm r) (0 : Int) (100 : Int))))), [])) else some (T.leaf (AV.c (.d (.v (.bool false))), []))) else
 some (T.leaf (AV.c (.d (.v (.bool false))), []))) else some (T.leaf (AV.c (.d (.v (.bool false))), [])))))))) := by kernel_rfl
noncomputable def ev82_v (r : SRel) : Bool :=
 (bif SRel.shots r == (0 : Int) then (bif SRel.dead r != (0 : Int) then (false) else (bif SRel.reclaim r != (0 : Int) then (false) else (bif SRel.diff r == (0 : Int) then (bif
 SRel.num r == (0 : Int) then (bif SRel.den r == (0 : Int) then ((SRel.harm r == (0 : Int))) else (false)) else (false)) else (bif Aaa (SRel.diff r) (1 : Int) (16383 : Int) then
 (bif Aaa (SRel.den r) (1 : Int) (100 : Int) then (bif Aaa (SRel.num r) (0 : Int) (SRel.den r) then ((Aaa (SRel.harm r) (0 : Int) (100 : Int))) else (false)) else (false))
 else (false))))) else (bif !Aaa (SRel.shots r) (1 : Int) (3 : Int) then (false) else (bif !Aaa (SRel.dead r) (1 : Int) (100 : Int) then (false) else (bif !Aaa (SRel.reclaim
 r) (1 : Int) (1000 : Int) then (false) else (bif SRel.diff r == (0 : Int) then (bif SRel.num r == (0 : Int) then (bif SRel.den r == (0 : Int) then ((SRel.harm r == (0 : Int))) else
 (false)) else (false)) else (bif Aaa (SRel.diff r) (1 : Int) (16383 : Int) then (bif Aaa (SRel.den r) (1 : Int) (100 : Int) then (bif Aaa (SRel.num r) (0 : Int) (SRel.den
 r) then ((Aaa (SRel.harm r) (0 : Int) (100 : Int))) else (false)) else (false)) else (false)))))))
theorem ev82 (r : SRel) : Aal Tryz.prog oW3 na 5 Tryz.f81 (Aad Tryz.f81) [aRel r] [] = some (.leaf (vB (ev82_v r), [])) := by
  rw [ev82_t]
  unfold ev82_v
  simp only [bLeaf]
theorem ev83_t (r : SRel) : Aal Tryz.prog oZo na 5 Tryz.f82 (Aad Tryz.f82) [aRel r] [] =
 (bif SRel.scheme r == (1 : Int) then (bif SRel.zon0 r then (bif SRel.zfw0 r then (bif SRel.zon1 r then some (T.leaf (AV.c (.d (.v (.bool (SRel.zfw1 r)))), [])) else some
 (T.leaf (AV.c (.d (.v (.bool false))), []))) else some (T.leaf (AV.c (.d (.v (.bool false))), []))) else some (T.leaf (AV.c (.d (.v (.bool false))), []))) else
 (bif SRel.scheme r == (2 : Int) then (bif SRel.zon1 r then some (T.leaf (AV.c (.d (.v (.bool (SRel.zfw1 r)))), [])) else some (T.leaf (AV.c (.d (.v (.bool false))),
 []))) else (bif SRel.scheme r == (3 : Int) then (bif SRel.zon1 r then (bif SRel.zfw1 r then (bif SRel.zon2 r then some (T.leaf (AV.c (.d (.v (.bool !SRel.zfw2 r))), [])) else
 some (T.leaf (AV.c (.d (.v (.bool false))), []))) else some (T.leaf (AV.c (.d (.v (.bool false))), []))) else some (T.leaf (AV.c (.d (.v (.bool false))), [])))
 else some (T.leaf (AV.c (.d (.v (.bool true))), []))))) := by kernel_rfl
noncomputable def ev83_v (r : SRel) : Bool :=
 (bif SRel.scheme r == (1 : Int) then (bif SRel.zon0 r then (bif SRel.zfw0 r then (bif SRel.zon1 r then ((SRel.zfw1 r)) else (false)) else (false)) else (false)) else (bif
 SRel.scheme r == (2 : Int) then (bif SRel.zon1 r then ((SRel.zfw1 r)) else (false)) else (bif SRel.scheme r == (3 : Int) then (bif SRel.zon1 r then (bif SRel.zfw1 r then (bif
 SRel.zon2 r then (!SRel.zfw2 r) else (false)) else (false)) else (false)) else (true))))
theorem ev83 (r : SRel) : Aal Tryz.prog oZo na 5 Tryz.f82 (Aad Tryz.f82) [aRel r] [] = some (.leaf (vB (ev83_v r), [])) := by
  rw [ev83_t]
  unfold ev83_v
  simp only [bLeaf]
end Go.Proofs.YtmnfibmlhmeheaaGreatDoor.se
namespace Go.Proofs.YtmnfibmlhmeheaaGreatDoor.se
open Go.RowKit Go.Eb Go.Proofs.YtmnfibmlhmeheaaGreatDoor.st
theorem sWi : OrcS Tryz.prog oWi := .cons (.inl .nil Tryz.func110 (by kernel_rfl)) .nil
theorem cWi (a : Int × Int × Int) : CX Tryz.prog 110 [vI a.1, vI a.2.1, vI a.2.2] [] (vB (Aaa a.1 a.2.1 a.2.2)) [] := by
  refine cx_of (Orc.nil_ok _) Tryz.func110 (by kernel_rfl) rfl ((evWi a.1 a.2.1 a.2.2).trans ?_)
  unfold evWi_v Aaa
  cases decide (a.1 ≥ a.2.1) <;> rfl
theorem sW3 : OrcS Tryz.prog oW3 := .cons (.p dec3_ok cWi) .nil
theorem cEl (a : Bool × Int × Int × Int) : CX Tryz.prog 112 [.agg [.d (dB a.1), .d (dI a.2.1), .d (dI a.2.2.1)], vI a.2.2.2] [] (vB (elOk a.1 a.2.1 a.2.2.1 a.2.2.2)) [] := by
  refine cx_of sW3.ok Tryz.func112 (by kernel_rfl) rfl ((evEl a.1 a.2.1 a.2.2.1 a.2.2.2).trans ?_)
  unfold evEl_v elOk
  cases a.1 <;> cases (a.2.1 == 0) <;> cases (a.2.2.1 == 0) <;> cases Aaa a.2.1 1 16383 <;> rfl
theorem sE3 : OrcS Tryz.prog oE3 := .cons (.p decE_ok cEl) sW3
theorem sZo : OrcS Tryz.prog oZo := .cons (.inl sW3 Tryz.func113 (by kernel_rfl)) sW3
theorem c78 (r : SRel) : CX Tryz.prog 77 [aRel r] [] (vB (ev78_v r)) [] := cx_of sW3.ok Tryz.func77 (by kernel_rfl) rfl (ev78 r)
theorem c79 (r : SRel) : CX Tryz.prog 78 [aRel r] [] (vB (ev79_v r)) [] := cx_of sW3.ok Tryz.func78 (by kernel_rfl) rfl (ev79 r)
theorem c80 (r : SRel) : CX Tryz.prog 79 [aRel r] [] (vB (ev80_v r)) [] := cx_of sW3.ok Tryz.func79 (by kernel_rfl) rfl (ev80 r)
theorem c81 (r : SRel) : CX Tryz.prog 80 [aRel r] [] (vB (ev81_v r)) [] := cx_of sE3.ok Tryz.func80 (by kernel_rfl) rfl (ev81 r)
theorem c82 (r : SRel) : CX Tryz.prog 81 [aRel r] [] (vB (ev82_v r)) [] := cx_of sW3.ok Tryz.func81 (by kernel_rfl) rfl (ev82 r)
theorem c83 (r : SRel) : CX Tryz.prog 82 [aRel r] [] (vB (ev83_v r)) [] := cx_of sZo.ok Tryz.func82 (by kernel_rfl) rfl (ev83 r)
def enRu (l : List SRule) : List AV := [.agg [.d (dF 116), .d (dF 118), .d (dF 119)], .c (.d (rulesD l))]
def enSe (l : List SSet) : List AV := [.agg [.d (dF 120), .d (dF 122), .d dNF], .c (.d (setsD l))]
def enPu (l : List SPub) : List AV := [.agg [.d (dF 123), .d (dF 124), .d (dF 125)], .c (.d (pubsD l))]
def enSu (l : List SSub) : List AV := [.agg [.d (dF 126), .d (dF 127), .d dNF], .c (.d (subsD l))]
theorem enRu_inj : InjT enRu := fun a b h => listD_inj ruleC_inj _ _ (ale_c (asle_cons (asle_cons h).2).1)
theorem enSe_inj : InjT enSe := fun a b h => listD_inj setC_inj _ _ (ale_c (asle_cons (asle_cons h).2).1)
theorem enPu_inj : InjT enPu := fun a b h => listD_inj pubC_inj _ _ (ale_c (asle_cons (asle_cons h).2).1)
theorem enSu_inj : InjT enSu := fun a b h => listD_inj subC_inj _ _ (ale_c (asle_cons (asle_cons h).2).1)
noncomputable def eRules (l : List SRule) : Int := listErr ruleOk SRule.name (fun x => textErr x.text) [] l
def eSets (l : List SSet) : Int := listErr setOk SSet.name rest0 [] l
noncomputable def ePubs (l : List SPub) : Int := listErr pubOk SPub.set ev123_v [] l
def eSubs (l : List SSub) : Int := listErr subOk SSub.loc rest0 [] l
def cSe (l : List SSet) : Bool := lenOk l && l.all okSet
noncomputable def eLists (r : SRel) : Int := bif eRules r.rules != 0 then eRules r.rules else bif eSets r.sets != 0 then eSets r.sets else bif ePubs r.pubs != 0 then ePubs r.pubs else eSubs r.subs
theorem s85 : OrcS Tryz.prog (o85 (okG enRu lenOk) (okG enSe cSe) (okG enPu lenOk) (okG enSu lenOk) (fun x => eRules (theT enRu x)) (fun x => eSets (theT enSe x)) (fun x => ePubs (theT enPu x)) fun x => eSubs (theT enSu x)) := by
  refine .cons (.t' (r := fun a => vI (eRules a)) fun a h => c126 a h) (.cons (.t' (r := fun a => vI (eSets a)) fun a h => ?_) (.cons (.t' (r := fun a => vI (ePubs a)) fun a h => c128 a h) (.cons (.t' (r := fun a => vI (eSubs a)) fun a h => c129 a h) .nil)))
  unfold cSe at h
  simp only [Bool.and_eq_true] at h
  exact c127 a h.1 h.2
theorem c85 (r : SRel) (hr : okRel r = true) : CX Tryz.prog 84 [aRel r] [] (vI (eLists r)) [] := by
  refine cx_of s85.ok Tryz.func84 b85 rfl ((ev85 _ _ _ _ _ _ _ _ r 1).trans ?_)
  unfold okRel at hr
  simp only [Bool.and_eq_true] at hr
  obtain ⟨h1, h2, h3, h4, h5⟩ := hr
  have k1 := okG_enc enRu_inj (c := lenOk) r.rules h1
  have k2 := okG_enc enSe_inj (c := cSe) r.sets (by unfold cSe; rw [h2, h5]; rfl)
  have k3 := okG_enc enPu_inj (c := lenOk) r.pubs h3
  have k4 := okG_enc enSu_inj (c := lenOk) r.subs h4
  have t1 := theT_enc enRu_inj r.rules
  have t2 := theT_enc enSe_inj r.sets
  have t3 := theT_enc enPu_inj r.pubs
  have t4 := theT_enc enSu_inj r.subs
  unfold enRu at k1 t1
  unfold enSe at k2 t2
  unfold enPu at k3 t3
  unfold enSu at k4 t4
  unfold enRu enSe enPu enSu
  rw [k1, t1, k2, t2, k3, t3, k4, t4]
  unfold eLists
  simp only [cond_true]
  cases (eRules r.rules != 0) <;> cases (eSets r.sets != 0) <;> cases (ePubs r.pubs != 0) <;> rfl
def setBad (x : SSet) : Bool := !(decide (1 ≤ x.sigs.length) && decide (x.sigs.length ≤ 24))
theorem s113 : OrcS Tryz.prog o113 := .cons (.inl sWi Tryz.func114 (by kernel_rfl)) .nil
theorem c141 (l : List SSet) (hl : lenOk l = true) : CX Tryz.prog 141 [.c (.d (setsD l)), .c (.d (dF 114))] [] (vI (idxP setBad 0 l)) [] := by
  obtain ⟨g, hg⟩ : ∃ g, l.length < g := ⟨l.length + 1, by omega⟩
  refine cx_of s113.ok Tryz.func141 b141 rfl ((ev141 l g).trans ?_)
  have := idx_loop (p := setBad) (l := l) (d0 := set0) (L := fun m i => L141_2 l g m i) (fun m k hk => by
    have e1 : ∀ n : Nat, decide ((n : Int) ≥ 1) = decide (1 ≤ n) := fun n => by rw [Bool.eq_iff_iff, decide_eq_true_eq, decide_eq_true_eq]; omega
    have e2 : ∀ n : Nat, decide ((n : Int) ≤ 24) = decide (n ≤ 24) := fun n => by rw [Bool.eq_iff_iff, decide_eq_true_eq, decide_eq_true_eq]; omega
    rw [st141_2, lt1 hk, ge0, tn, nx hk (lenOk_le hl), e1, e2]
    unfold setBad
    simp only [tt, cond_true]
    cases decide (1 ≤ (l.getD k set0).sigs.length) <;> cases decide ((l.getD k set0).sigs.length ≤ 24) <;> rfl) (fun m => by rw [st141_2, lt0 (Nat.lt_irrefl _)]; rfl) g 0 (by omega) (by omega)
  exact this
abbrev eCt := en2 (aD setsD) (eFn 114)
theorem eCt_inj : InjT eCt := en2_inj (aD_inj (listD_inj (sz := 2) (d0 := set0) setC_inj)) (eFn_inj _)
def countsOk (r : SRel) : Bool := decide (r.rules.length ≤ 16) && (decide (r.sets.length ≤ 4) && (decide (r.pubs.length ≤ 4) && (decide (r.subs.length ≤ 24) && !r.sets.any setBad)))
theorem c84 (r : SRel) (hr : okRel r = true) : CX Tryz.prog 83 [aRel r] [] (vB (countsOk r)) [] := by
  have hs : OrcS Tryz.prog (o84 (okG eCt cLen) fun x => idxP setBad 0 (theT eCt x).1) := .cons (.inl (.cons (.t' (r := fun (a : List SSet × Unit) => vI (idxP setBad 0 a.1)) fun a h => c141 a.1 h) .nil) Tryz.func115 (by kernel_rfl)) .nil
  refine cx_of hs.ok Tryz.func83 b84 rfl ((ev84 _ _ r 1).trans ?_)
  unfold okRel at hr
  simp only [Bool.and_eq_true] at hr
  have k := okG_enc eCt_inj (c := cLen) (r.sets, ()) hr.2.1
  have t := theT_enc eCt_inj (r.sets, ())
  simp only [en2, aD, eFn] at k t
  rw [k, t, idxP_ge]
  have e1 : ∀ n : Nat, decide ((n : Int) ≤ 16) = decide (n ≤ 16) := fun n => by rw [Bool.eq_iff_iff, decide_eq_true_eq, decide_eq_true_eq]; omega
  have e2 : ∀ n : Nat, decide ((n : Int) ≤ 4) = decide (n ≤ 4) := fun n => by rw [Bool.eq_iff_iff, decide_eq_true_eq, decide_eq_true_eq]; omega
  have e3 : ∀ n : Nat, decide ((n : Int) ≤ 24) = decide (n ≤ 24) := fun n => by rw [Bool.eq_iff_iff, decide_eq_true_eq, decide_eq_true_eq]; omega
  unfold countsOk
  simp only [e1, e2, e3]
  cases decide (r.rules.length ≤ 16) <;> cases decide (r.sets.length ≤ 4) <;> cases decide (r.pubs.length ≤ 4) <;> cases decide (r.subs.length ≤ 24) <;> rfl
end Go.Proofs.YtmnfibmlhmeheaaGreatDoor.se
namespace Go.Proofs.YtmnfibmlhmeheaaGreatDoor.st
open Go.RowKit Go.Eb
abbrev nilC : C := .d (.v (.slice none 0 0))
noncomputable def oNm (nk : ByteArray → Bool) : Orc := Orc.cons 49 (ansP decS fun s => vB (nk s)) Orc.nil
noncomputable def oNam (nk : ByteArray → Bool) : Orc := Orc.cons 102 (inl Tryz.prog (oNm nk) na 1 Tryz.f102) Orc.nil
noncomputable def o26 (nk : ByteArray → Bool) : Orc := Orc.cons 52 (inl Tryz.prog (oNam nk) na 1 Tryz.f52) Orc.nil
noncomputable def oWi : Orc := Orc.cons 104 (inl Tryz.prog Orc.nil na 1 Tryz.f104) Orc.nil
noncomputable def oIm (nk : ByteArray → Bool) : Orc := Orc.cons 103 (inl Tryz.prog oWi na 1 Tryz.f103) (Orc.cons 104 (inl Tryz.prog Orc.nil na 1 Tryz.f104) (oNam nk))
noncomputable def o28 (nk : ByteArray → Bool) : Orc := Orc.cons 54 (inl Tryz.prog (oIm nk) na 1 Tryz.f54) Orc.nil
noncomputable def o30 (nk : ByteArray → Bool) : Orc := Orc.cons 56 (inl Tryz.prog (oIm nk) na 1 Tryz.f56) Orc.nil
abbrev fnOf (f : FuncId) : AV := .c (.fn f [.ptr 0 0] [])
abbrev H1 (s0 : ByteArray) (mpa : List (Value × Value)) : Hp := [(0, .cells [.d (dS s0), nilC, nilC, nilC, nilC, .mp 1] 150), (1, .map 0 mpa)]
abbrev H1' (s0 : ByteArray) (mpa : List (Value × Value)) (ka : Nat) (ga : Nat → List D) : Hp := [(0, .cells [.d (dS s0), .row 2 1 ka, nilC, nilC, nilC, .mp 1] 150), (1, .map 0 mpa), (2, .row ka ga 1 9)]
abbrev H2 (s0 : ByteArray) (ka : Nat) (ga : Nat → List D) (mpa : List (Value × Value)) : Hp := [(0, .cells [.d (dS s0), .row 1 1 ka, nilC, nilC, nilC, .mp 2] 150), (1, .row ka ga 1 9), (2, .map 0 mpa)]
abbrev H2' (s0 : ByteArray) (ka : Nat) (ga : Nat → List D) (mpa : List (Value × Value)) (kb : Nat) (gb : Nat → List D) : Hp := [(0, .cells [.d (dS s0), .row 1 1 ka, .row 3 5 kb, nilC, nilC, .mp 2] 150), (1, .row ka ga 1 9), (2, .map 0 mpa), (3, .row kb gb 5 98)]
abbrev H3 (s0 : ByteArray) (ka : Nat) (ga : Nat → List D) (kb : Nat) (gb : Nat → List D) (mpa : List (Value × Value)) : Hp := [(0, .cells [.d (dS s0), .row 1 1 ka, .row 2 5 kb, nilC, nilC, .mp 3] 150), (1, .row ka ga 1 9), (2, .row kb gb 5 98), (3, .map 0 mpa)]
abbrev H3' (s0 : ByteArray) (ka : Nat) (ga : Nat → List D) (kb : Nat) (gb : Nat → List D) (mpa : List (Value × Value)) (kc : Nat) (gc : Nat → List D) : Hp := [(0, .cells [.d (dS s0), .row 1 1 ka, .row 2 5 kb, .row 4 6 kc, nilC, .mp 3] 150), (1, .row ka ga 1 9), (2, .row kb gb 5 98), (3, .map 0 mpa), (4, .row kc gc 6 101)]
abbrev H4 (s0 : ByteArray) (ka : Nat) (ga : Nat → List D) (kb : Nat) (gb : Nat → List D) (kc : Nat) (gc : Nat → List D) (mpa : List (Value × Value)) : Hp := [(0, .cells [.d (dS s0), .row 1 1 ka, .row 2 5 kb, .row 3 6 kc, nilC, .mp 4] 150), (1, .row ka ga 1 9), (2, .row kb gb 5 98), (3, .row kc gc 6 101), (4, .map 0 mpa)]
abbrev H4' (s0 : ByteArray) (ka : Nat) (ga : Nat → List D) (kb : Nat) (gb : Nat → List D) (kc : Nat) (gc : Nat → List D) (mpa : List (Value × Value)) (kd : Nat) (gd : Nat → List D) : Hp := [(0, .cells [.d (dS s0), .row 1 1 ka, .row 2 5 kb, .row 3 6 kc, .row 5 12 kd, .mp 4] 150), (1, .row ka ga 1 9), (2, .row kb gb 5 98), (3, .row kc gc 6 101), (4, .map 0 mpa), (5, .row kd gd 12 69)]
abbrev H5 (s0 : ByteArray) (ka : Nat) (ga : Nat → List D) (kb : Nat) (gb : Nat → List D) (kc : Nat) (gc : Nat → List D) (kd : Nat) (gd : Nat → List D) (mpa : List (Value × Value)) : Hp := [(0, .cells [.d (dS s0), .row 1 1 ka, .row 2 5 kb, .row 3 6 kc, .row 4 12 kd, .mp 5] 150), (1, .row ka ga 1 9), (2, .row kb gb 5 98), (3, .row kc gc 6 101), (4, .row kd gd 12 69), (5, .map 0 mpa)]
noncomputable def ann26 : Ann := annOf [(2, ⟨[1, 8, 9, 10], [(1, 1, 1, 9)]⟩)]
noncomputable def L26_2 (nk : ByteArray → Bool) (l : List ByteArray) (s0 : ByteArray) (mpa : List (Value × Value)) (g m : Nat) (l1 : List (Value × Value)) (n2 : Nat) (f2 : Nat → List D) (i10 : Int) := LK Tryz.prog (o26 nk) ann26 (List.length (α := Nat × Blk) [(0, .cells [.d (dS s0), nilC, nilC, nilC, nilC, .mp 1] 150), (1, .map 0 mpa)]) g Tryz.f51 2 m ⟨frm [(1, .c (.fn 52 [Rf.ptr 0 0] [])), (8, .c (.d (D.sl 1 (List.length l) fun i => busC (List.getD l i e0)))), (9, .c (.d (.v (.int .i64 (↑(List.length l) : Int))))), (10, .c (.d (.v (.int .i64 i10))))] 0 Tryz.f51.ntmps, [(0, Blk.cells [.d (.v (.string s0)), C.row 2 1 n2, .d (.v (.slice none 0 0)), .d (.v (.slice none 0 0)), .d (.v (.slice none 0 0)), C.mp 1] 150), (1, Blk.map 0 l1), (2, Blk.row n2 f2 1 9)], 3⟩
theorem b26 : Tryz.f51.body = some (Aad Tryz.f51) := by kernel_rfl
theorem ev26 (nk : ByteArray → Bool) (l : List ByteArray) (s0 : ByteArray) (mpa : List (Value × Value)) (g : Nat) : Aal Tryz.prog (o26 nk) ann26 g Tryz.f51 (Aad Tryz.f51) [.c (.d (Aab l)), fnOf 52] [(0, .cells [.d (dS s0), nilC, nilC, nilC, nilC, .mp 1] 150), (1, .map 0 mpa)] =
 L26_2 nk l s0 mpa g g mpa 0 (fun x => []) ((0 : Int)) := by kernel_rfl
theorem st26_2 (nk : ByteArray → Bool) (l : List ByteArray) (s0 : ByteArray) (mpa : List (Value × Value)) (g m : Nat) (l1 : List (Value × Value)) (n2 : Nat) (f2 : Nat → List D) (i10 : Int) : L26_2 nk l s0 mpa g (m + 1) l1 n2 f2 i10 =
 (bif decide (i10 < (↑(List.length l) : Int)) then (bif decide ((0 : Int) ≤ i10) && decide (i10 < (↑(List.length l) : Int)) then (bif !nk (List.getD l (Int.toNat i10) e0) then some
 (T.leaf (AV.c (.d (.v (.int .i64 (7 : Int)))), [(0, Blk.cells [C.d (.v (.string s0)), C.row (2) (1) n2, C.d (D.v (Value.slice none (0 :
 Nat) 0)), C.d (.v (.slice none 0 0)), C.d (.v (.slice none 0 0)), C.mp (1)] (150)), (1, Blk.map ((0 :
 Nat)) l1), (2, Blk.row n2 f2 (1) (9))])) else (bif boolOf (assoc l1 (Value.string (List.getD l (Int.toNat i10) e0))) then some (T.leaf (AV.c (C.d (D.v
 (Value.int IntKind.i64 (8 : Int)))), [(0, Blk.cells [C.d (.v (.string s0)), C.row (2) (1) n2, C.d (.v (.slice none 0 0)), C.d
 (D.v (.slice none 0 0)), C.d (.v (.slice none 0 0)), C.mp (1)] (150)), (1, Blk.map (0) l1), (2,
 Blk.row n2 f2 (1) (9))])) else (bif decide ((n2 + 1) * 16 ≤ 140737488355328) && decide (n2 + 1 ≤ 9223372036854775807) then
 L26_2 nk l s0 mpa g m ((Value.string (List.getD l (Int.toNat i10) e0), Value.bool true) :: l1) (n2 + 1) (appF n2 f2 (Aaf [dS (List.getD l (Int.toNat i10) e0)] (0 +
 1))) (IntKind.wrap .i64 (i10 + (1 : Int))) else none))) else none) else some (T.leaf (AV.c (.d (.v (.int .i64 (0 : Int)))), [(0, Blk.cells [C.d
 (D.v (.string s0)), C.row (2) (1) n2, C.d (.v (.slice none 0 0)), C.d (.v (.slice none 0 0)), C.d (D.v (Value.slice
 none 0 0)), C.mp (1)] (150)), (1, Blk.map (0) l1), (2, Blk.row n2 f2 (1) (9))]))) := by kernel_rfl
noncomputable def ann28 : Ann := annOf [(2, ⟨[1, 8, 9, 10], [(1, 2, 5, 98)]⟩)]
noncomputable def L28_2 (nk : ByteArray → Bool) (l : List SLine) (s0 : ByteArray) (ka : Nat) (ga : Nat → List D) (mpa : List (Value × Value)) (g m : Nat) (l2 : List (Value × Value)) (n3 : Nat) (f3 : Nat → List D) (i10 : Int) := LK Tryz.prog (o28 nk) ann28 (List.length (α := Nat × Blk) [(0, .cells [.d (dS s0), .row 1 1 ka, nilC, nilC, nilC, .mp 2] 150), (1, .row ka ga 1 9), (2, .map 0 mpa)]) g Tryz.f53 2 m ⟨frm [(1, .c (.fn 54 [Rf.ptr 0 0] [])), (8, .c (.d (D.sl 5 (List.length l) fun i => Aao (List.getD l i Aah)))), (9, .c (.d (.v (.int .i64 (↑(List.length l) : Int))))), (10, .c (.d (.v (.int .i64 i10))))] 0 Tryz.f53.ntmps, [(0, Blk.cells [.d (.v (.string s0)), C.row 1 1 ka, C.row 3 5 n3, .d (.v (.slice none 0 0)), .d (.v (.slice none 0 0)), C.mp 2] 150), (1, Blk.row ka ga 1 9), (2, Blk.map 0 l2), (3, Blk.row n3 f3 5 98)], 4⟩
theorem b28 : Tryz.f53.body = some (Aad Tryz.f53) := by kernel_rfl
theorem ev28 (nk : ByteArray → Bool) (l : List SLine) (s0 : ByteArray) (ka : Nat) (ga : Nat → List D) (mpa : List (Value × Value)) (g : Nat) : Aal Tryz.prog (o28 nk) ann28 g Tryz.f53 (Aad Tryz.f53) [.c (.d (Aai l)), fnOf 54] [(0, .cells [.d (dS s0), .row 1 1 ka, nilC, nilC, nilC, .mp 2] 150), (1, .row ka ga 1 9), (2, .map 0 mpa)] =
 L28_2 nk l s0 ka ga mpa g g mpa 0 (fun x => []) ((0 : Int)) := by kernel_rfl
theorem st28_2 (nk : ByteArray → Bool) (l : List SLine) (s0 : ByteArray) (ka : Nat) (ga : Nat → List D) (mpa : List (Value × Value)) (g m : Nat) (l2 : List (Value × Value)) (n3 : Nat) (f3 : Nat → List D) (i10 : Int) : L28_2 nk l s0 ka ga mpa g (m + 1) l2 n3 f3 i10 =
 (bif decide (i10 < (↑(List.length l) : Int)) then (bif decide ((0 : Int) ≤ i10) && decide (i10 < (↑(List.length l) : Int)) then (bif !nk (SLine.name (List.getD l (Int.toNat i10)
 Aah)) then some (T.leaf (AV.c (.d (.v (.int .i64 (7 : Int)))), [(0, Blk.cells [C.d (.v (.string s0)), C.row (1) (1) ka, C.row ((3 :
 Nat)) (5) n3, C.d (.v (.slice none 0 0)), C.d (.v (.slice none 0 0)), C.mp (2)] (150)), (1, Blk.row ka ga
 (1) (9)), (2, Blk.map (0) l2), (3, Blk.row n3 f3 (5) (98))])) else (bif boolOf (assoc l2 (Value.string (SLine.name (List.getD
 l (Int.toNat i10) Aah)))) then some (T.leaf (AV.c (.d (.v (.int .i64 (8 : Int)))), [(0, Blk.cells [C.d (.v (.string s0)), C.row (1) (1)
 ka, C.row (3) (5) n3, C.d (.v (.slice none 0 0)), C.d (.v (.slice none 0 0)), C.mp (2)] (150)), ((1 :
 Nat), Blk.row ka ga (1) (9)), (2, Blk.map (0) l2), (3, Blk.row n3 f3 (5) (98))])) else (bif decide (SLine.r1 (List.getD l
 (Int.toNat i10) Aah) ≥ (0 : Int)) then (bif decide (SLine.r1 (List.getD l (Int.toNat i10) Aah) ≤ (1000 : Int)) then (bif decide (SLine.x1 (List.getD l (Int.toNat i10) Aah) ≥
 (1 : Int)) then (bif !decide (SLine.x1 (List.getD l (Int.toNat i10) Aah) ≤ (1000 : Int)) then some (T.leaf (AV.c (.d (.v (.int .i64 (2 : Int)))), [(0,
 Blk.cells [C.d (.v (.string s0)), C.row (1) (1) ka, C.row (3) (5) n3, C.d (.v (.slice none 0 0)), C.d (D.v (Value.slice
 none 0 0)), C.mp (2)] (150)), (1, Blk.row ka ga (1) (9)), (2, Blk.map (0) l2), (3, Blk.row n3 f3 ((5
 : Nat)) (98))])) else (bif decide (SLine.r0 (List.getD l (Int.toNat i10) Aah) ≥ (0 : Int)) then (bif decide (SLine.r0 (List.getD l (Int.toNat i10) Aah) ≤ (1000 : Int))
 then (bif decide (SLine.x0 (List.getD l (Int.toNat i10) Aah) ≥ (1 : Int)) then (bif !decide (SLine.x0 (List.getD l (Int.toNat i10) Aah) ≤ (1000 : Int)) then some (T.leaf (AV.c
 (C.d (.v (.int .i64 (2 : Int)))), [(0, Blk.cells [C.d (.v (.string s0)), C.row (1) (1) ka, C.row (3) (5) n3, C.d (D.v
 (Value.slice none 0 0)), C.d (.v (.slice none 0 0)), C.mp (2)] (150)), (1, Blk.row ka ga (1) (9)), ((2
 : Nat), Blk.map (0) l2), (3, Blk.row n3 f3 (5) (98))])) else (bif decide ((n3 + 1) * 48 ≤ 140737488355328) && decide (n3 + (1
 : Nat) ≤ 9223372036854775807) then L28_2 nk l s0 ka ga mpa g m ((Value.string (SLine.name (List.getD l (Int.toNat i10) Aah)), Value.bool true) :: l2) (n3 + 1)
 (appF n3 f3 (Aaf [dS (SLine.name (List.getD l (Int.toNat i10) Aah)), dI (SLine.r1 (List.getD l (Int.toNat i10) Aah)), dI (SLine.x1 (List.getD l (Int.toNat i10) Aah)), dI
 (SLine.r0 (List.getD l (Int.toNat i10) Aah)), dI (SLine.x0 (List.getD l (Int.toNat i10) Aah))] (4 + 1))) (IntKind.wrap .i64 (i10 + (1 : Int))) else none))
 else some (T.leaf (AV.c (.d (.v (.int .i64 (2 : Int)))), [(0, Blk.cells [C.d (.v (.string s0)), C.row (1) (1) ka, C.row (3) ((5 :
 Nat)) n3, C.d (.v (.slice none 0 0)), C.d (.v (.slice none 0 0)), C.mp (2)] (150)), (1, Blk.row ka ga (1)
 (9)), (2, Blk.map (0) l2), (3, Blk.row n3 f3 (5) (98))]))) else some (T.leaf (AV.c (.d (.v (.int .i64 (2 : Int)))),
 [(0, Blk.cells [C.d (.v (.string s0)), C.row (1) (1) ka, C.row (3) (5) n3, C.d (.v (.slice none 0 0)), C.d (D.v
 (Value.slice none 0 0)), C.mp (2)] (150)), (1, Blk.row ka ga (1) (9)), (2, Blk.map (0) l2), (3,
 Blk.row n3 f3 (5) (98))]))) else some (T.leaf (AV.c (.d (.v (.int .i64 (2 : Int)))), [(0, Blk.cells [C.d (.v (.string s0)), C.row ((1 :
 Nat)) (1) ka, C.row (3) (5) n3, C.d (.v (.slice none 0 0)), C.d (.v (.slice none 0 0)), C.mp (2)] ((150 :
 Nat))), (1, Blk.row ka ga (1) (9)), (2, Blk.map (0) l2), (3, Blk.row n3 f3 (5) (98))])))) else some (T.leaf (AV.c
 (C.d (.v (.int .i64 (2 : Int)))), [(0, Blk.cells [C.d (.v (.string s0)), C.row (1) (1) ka, C.row (3) (5) n3, C.d (D.v
 (Value.slice none 0 0)), C.d (.v (.slice none 0 0)), C.mp (2)] (150)), (1, Blk.row ka ga (1) (9)), ((2
 : Nat), Blk.map (0) l2), (3, Blk.row n3 f3 (5) (98))]))) else some (T.leaf (AV.c (.d (.v (.int .i64 (2 : Int)))), [(0,
 Blk.cells [C.d (.v (.string s0)), C.row (1) (1) ka, C.row (3) (5) n3, C.d (.v (.slice none 0 0)), C.d (D.v (Value.slice
 none 0 0)), C.mp (2)] (150)), (1, Blk.row ka ga (1) (9)), (2, Blk.map (0) l2), (3, Blk.row n3 f3 ((5
 : Nat)) (98))]))) else some (T.leaf (AV.c (.d (.v (.int .i64 (2 : Int)))), [(0, Blk.cells [C.d (.v (.string s0)), C.row (1) (1)
 ka, C.row (3) (5) n3, C.d (.v (.slice none 0 0)), C.d (.v (.slice none 0 0)), C.mp (2)] (150)), ((1 :
 Nat), Blk.row ka ga (1) (9)), (2, Blk.map (0) l2), (3, Blk.row n3 f3 (5) (98))]))))) else none) else some (T.leaf (AV.c (C.d
 (D.v (.int .i64 (0 : Int)))), [(0, Blk.cells [C.d (.v (.string s0)), C.row (1) (1) ka, C.row (3) (5) n3, C.d (D.v
 (Value.slice none 0 0)), C.d (.v (.slice none 0 0)), C.mp (2)] (150)), (1, Blk.row ka ga (1) (9)), ((2
 : Nat), Blk.map (0) l2), (3, Blk.row n3 f3 (5) (98))]))) := by kernel_rfl
noncomputable def ann30 : Ann := annOf [(2, ⟨[1, 8, 9, 10], [(1, 3, 6, 101)]⟩)]
noncomputable def L30_2 (nk : ByteArray → Bool) (l : List SSrc) (s0 : ByteArray) (ka : Nat) (ga : Nat → List D) (kb : Nat) (gb : Nat → List D) (mpa : List (Value × Value)) (g m : Nat) (l3 : List (Value × Value)) (n4 : Nat) (f4 : Nat → List D) (i10 : Int) := LK Tryz.prog (o30 nk) ann30 (List.length (α := Nat × Blk) [(0, .cells [.d (dS s0), .row 1 1 ka, .row 2 5 kb, nilC, nilC, .mp 3] 150), (1, .row ka ga 1 9), (2, .row kb gb 5 98), (3, .map 0 mpa)]) g Tryz.f55 2 m ⟨frm [(1, .c (.fn 56 [Rf.ptr 0 0] [])), (8, .c (.d (D.sl 6 (List.length l) fun i => Aan (List.getD l i src0)))), (9, .c (.d (.v (.int .i64 (↑(List.length l) : Int))))), (10, .c (.d (.v (.int .i64 i10))))] 0 Tryz.f55.ntmps, [(0, Blk.cells [.d (.v (.string s0)), C.row 1 1 ka, C.row 2 5 kb, C.row 4 6 n4, .d (.v (.slice none 0 0)), C.mp 3] 150), (1, Blk.row ka ga 1 9), (2, Blk.row kb gb 5 98), (3, Blk.map 0 l3), (4, Blk.row n4 f4 6 101)], 5⟩
theorem b30 : Tryz.f55.body = some (Aad Tryz.f55) := by kernel_rfl
theorem ev30 (nk : ByteArray → Bool) (l : List SSrc) (s0 : ByteArray) (ka : Nat) (ga : Nat → List D) (kb : Nat) (gb : Nat → List D) (mpa : List (Value × Value)) (g : Nat) : Aal Tryz.prog (o30 nk) ann30 g Tryz.f55 (Aad Tryz.f55) [.c (.d (srcsD l)), fnOf 56] [(0, .cells [.d (dS s0), .row 1 1 ka, .row 2 5 kb, nilC, nilC, .mp 3] 150), (1, .row ka ga 1 9), (2, .row kb gb 5 98), (3, .map 0 mpa)] =
 L30_2 nk l s0 ka ga kb gb mpa g g mpa 0 (fun x => []) ((0 : Int)) := by kernel_rfl
theorem st30_2 (nk : ByteArray → Bool) (l : List SSrc) (s0 : ByteArray) (ka : Nat) (ga : Nat → List D) (kb : Nat) (gb : Nat → List D) (mpa : List (Value × Value)) (g m : Nat) (l3 : List (Value × Value)) (n4 : Nat) (f4 : Nat → List D) (i10 : Int) : L30_2 nk l s0 ka ga kb gb mpa g (m + 1) l3 n4 f4 i10 =
 (bif decide (i10 < (↑(List.length l) : Int)) then (bif decide ((0 : Int) ≤ i10) && decide (i10 < (↑(List.length l) : Int)) then (bif !nk (SSrc.name (List.getD l (Int.toNat i10)
 src0)) then some (T.leaf (AV.c (.d (.v (.int .i64 (7 : Int)))), [(0, Blk.cells [C.d (.v (.string s0)), C.row (1) (1) ka, C.row ((2 :
 Nat)) (5) kb, C.row (4) (6) n4, C.d (.v (.slice none 0 0)), C.mp (3)] (150)), (1, Blk.row ka ga (1) ((9
 : Nat))), (2, Blk.row kb gb (5) (98)), (3, Blk.map (0) l3), (4, Blk.row n4 f4 (6) (101))])) else (bif boolOf (assoc
 l3 (Value.string (SSrc.name (List.getD l (Int.toNat i10) src0)))) then some (T.leaf (AV.c (.d (.v (.int .i64 (8 : Int)))), [(0, Blk.cells [C.d (D.v
 (Value.string s0)), C.row (1) (1) ka, C.row (2) (5) kb, C.row (4) (6) n4, C.d (.v (.slice none 0 0)), C.mp ((3
 : Nat))] (150)), (1, Blk.row ka ga (1) (9)), (2, Blk.row kb gb (5) (98)), (3, Blk.map (0) l3), (4,
 Blk.row n4 f4 (6) (101))])) else (bif decide (SSrc.emf (List.getD l (Int.toNat i10) src0) ≥ (1 : Int)) then (bif !decide (SSrc.emf (List.getD l (Int.toNat i10) src0)
 ≤ (1000000 : Int)) then some (T.leaf (AV.c (.d (.v (.int .i64 (2 : Int)))), [(0, Blk.cells [C.d (.v (.string s0)), C.row (1) (1) ka,
 C.row (2) (5) kb, C.row (4) (6) n4, C.d (.v (.slice none 0 0)), C.mp (3)] (150)), (1, Blk.row ka ga ((1
 : Nat)) (9)), (2, Blk.row kb gb (5) (98)), (3, Blk.map (0) l3), (4, Blk.row n4 f4 (6) (101))])) else (bif
 decide (SSrc.r1 (List.getD l (Int.toNat i10) src0) ≥ (0 : Int)) then (bif decide (SSrc.r1 (List.getD l (Int.toNat i10) src0) ≤ (1000 : Int)) then (bif decide (SSrc.x1 (List.getD l
 (Int.toNat i10) src0) ≥ (1 : Int)) then (bif !decide (SSrc.x1 (List.getD l (Int.toNat i10) src0) ≤ (1000 : Int)) then some (T.leaf (AV.c (.d (.v (.int .i64 (2 :
 Int)))), [(0, Blk.cells [C.d (.v (.string s0)), C.row (1) (1) ka, C.row (2) (5) kb, C.row (4) (6) n4, C.d (D.v
 (Value.slice none 0 0)), C.mp (3)] (150)), (1, Blk.row ka ga (1) (9)), (2, Blk.row kb gb (5) (98)),
 (3, Blk.map (0) l3), (4, Blk.row n4 f4 (6) (101))])) else (bif decide (SSrc.r0 (List.getD l (Int.toNat i10) src0) ≥ (0 : Int)) then (bif
 decide (SSrc.r0 (List.getD l (Int.toNat i10) src0) ≤ (1000 : Int)) then (bif decide (SSrc.x0 (List.getD l (Int.toNat i10) src0) ≥ (1 : Int)) then (bif !decide (SSrc.x0 (List.getD l
 (Int.toNat i10) src0) ≤ (1000 : Int)) then some (T.leaf (AV.c (.d (.v (.int .i64 (2 : Int)))), [(0, Blk.cells [C.d (.v (.string s0)), C.row (1)
 (1) ka, C.row (2) (5) kb, C.row (4) (6) n4, C.d (.v (.slice none 0 0)), C.mp (3)] (150)), (1,
 Blk.row ka ga (1) (9)), (2, Blk.row kb gb (5) (98)), (3, Blk.map (0) l3), (4, Blk.row n4 f4 (6) ((101 :
 Nat)))])) else (bif decide ((n4 + 1) * 56 ≤ 140737488355328) && decide (n4 + 1 ≤ 9223372036854775807) then L30_2 nk l s0 ka ga kb gb mpa g m
 ((Value.string (SSrc.name (List.getD l (Int.toNat i10) src0)), Value.bool true) :: l3) (n4 + 1) (appF n4 f4 (Aaf [dS (SSrc.name (List.getD l (Int.toNat i10) src0)), dI
 (SSrc.emf (List.getD l (Int.toNat i10) src0)), dI (SSrc.r1 (List.getD l (Int.toNat i10) src0)), dI (SSrc.x1 (List.getD l (Int.toNat i10) src0)), dI (SSrc.r0 (List.getD l (Int.toNat
 i10) src0)), dI (SSrc.x0 (List.getD l (Int.toNat i10) src0))] (5 + 1))) (IntKind.wrap .i64 (i10 + (1 : Int))) else none)) else some (T.leaf (AV.c (C.d (D.v
 (Value.int IntKind.i64 (2 : Int)))), [(0, Blk.cells [C.d (.v (.string s0)), C.row (1) (1) ka, C.row (2) (5) kb, C.row (4) ((6 :
 Nat)) n4, C.d (.v (.slice none 0 0)), C.mp (3)] (150)), (1, Blk.row ka ga (1) (9)), (2, Blk.row kb gb ((5 :
 Nat)) (98)), (3, Blk.map (0) l3), (4, Blk.row n4 f4 (6) (101))]))) else some (T.leaf (AV.c (.d (.v (.int .i64 (2 :
 Int)))), [(0, Blk.cells [C.d (.v (.string s0)), C.row (1) (1) ka, C.row (2) (5) kb, C.row (4) (6) n4, C.d (D.v
 (Value.slice none 0 0)), C.mp (3)] (150)), (1, Blk.row ka ga (1) (9)), (2, Blk.row kb gb (5) (98)),
 (3, Blk.map (0) l3), (4, Blk.row n4 f4 (6) (101))]))) else some (T.leaf (AV.c (.d (.v (.int .i64 (2 : Int)))), [(0,
 Blk.cells [C.d (.v (.string s0)), C.row (1) (1) ka, C.row (2) (5) kb, C.row (4) (6) n4, C.d (D.v (Value.slice none 0 (0
 : Nat))), C.mp (3)] (150)), (1, Blk.row ka ga (1) (9)), (2, Blk.row kb gb (5) (98)), (3, Blk.map (0)
 l3), (4, Blk.row n4 f4 (6) (101))])))) else some (T.leaf (AV.c (.d (.v (.int .i64 (2 : Int)))), [(0, Blk.cells [C.d (D.v (Value.string
 s0)), C.row (1) (1) ka, C.row (2) (5) kb, C.row (4) (6) n4, C.d (.v (.slice none 0 0)), C.mp (3)] ((150
 : Nat))), (1, Blk.row ka ga (1) (9)), (2, Blk.row kb gb (5) (98)), (3, Blk.map (0) l3), (4, Blk.row n4 f4 ((6
 : Nat)) (101))]))) else some (T.leaf (AV.c (.d (.v (.int .i64 (2 : Int)))), [(0, Blk.cells [C.d (.v (.string s0)), C.row (1) (1)
 ka, C.row (2) (5) kb, C.row (4) (6) n4, C.d (.v (.slice none 0 0)), C.mp (3)] (150)), (1, Blk.row ka ga
 (1) (9)), (2, Blk.row kb gb (5) (98)), (3, Blk.map (0) l3), (4, Blk.row n4 f4 (6) (101))]))) else
 some (T.leaf (AV.c (.d (.v (.int .i64 (2 : Int)))), [(0, Blk.cells [C.d (.v (.string s0)), C.row (1) (1) ka, C.row (2) ((5 :
 Nat)) kb, C.row (4) (6) n4, C.d (.v (.slice none 0 0)), C.mp (3)] (150)), (1, Blk.row ka ga (1) (9)),
 (2, Blk.row kb gb (5) (98)), (3, Blk.map (0) l3), (4, Blk.row n4 f4 (6) (101))])))) else some (T.leaf (AV.c (C.d (D.v
 (Value.int IntKind.i64 (2 : Int)))), [(0, Blk.cells [C.d (.v (.string s0)), C.row (1) (1) ka, C.row (2) (5) kb, C.row (4) ((6 :
 Nat)) n4, C.d (.v (.slice none 0 0)), C.mp (3)] (150)), (1, Blk.row ka ga (1) (9)), (2, Blk.row kb gb ((5 :
 Nat)) (98)), (3, Blk.map (0) l3), (4, Blk.row n4 f4 (6) (101))]))))) else none) else some (T.leaf (AV.c (C.d (D.v (Value.int
 IntKind.i64 (0 : Int)))), [(0, Blk.cells [C.d (.v (.string s0)), C.row (1) (1) ka, C.row (2) (5) kb, C.row (4) (6) n4,
 C.d (.v (.slice none 0 0)), C.mp (3)] (150)), (1, Blk.row ka ga (1) (9)), (2, Blk.row kb gb (5) ((98 :
 Nat))), (3, Blk.map (0) l3), (4, Blk.row n4 f4 (6) (101))]))) := by kernel_rfl
end Go.Proofs.YtmnfibmlhmeheaaGreatDoor.st
namespace Go.Proofs.YtmnfibmlhmeheaaGreatDoor.st
open Go.RowKit Go.Eb
abbrev A5 := (ByteArray × Nat × Nat × Nat × Nat × Unit × Unit) × (Nat × (Nat → List D)) × (Nat × (Nat → List D)) × (Nat × (Nat → List D)) × (Nat × (Nat → List D)) × (List (Value × Value)) × Unit
def dH5 : Dec Hp A5 := .cons (.blk 0 (.cells 150 (.cons .str (.cons (.row 1 1) (.cons (.row 2 5) (.cons (.row 3 6) (.cons (.row 4 12) (.cons (.mp 5) .nil)))))))) (.cons (.blk 1 (.rowB 1 9)) (.cons (.blk 2 (.rowB 5 98)) (.cons (.blk 3 (.rowB 6 101)) (.cons (.blk 4 (.rowB 12 69)) (.cons (.blk 5 (.mapB 0)) .nil)))))
def dBay : Dec (List AV) (Unit × RBay × Unit) := .cons (.c (.ptr 0 0)) (.cons (.agg bayD) .nil)
def d55 : Dec (List AV × Hp) ((Unit × RBay × Unit) × A5) := .pair dBay dH5
noncomputable def o55 : Orc := oWi
noncomputable def ann55 : Ann := annOf [(5, ⟨[3, 0, 27, 28, 29], []⟩)]
noncomputable def L55_5 (x : SBay) (s0 : ByteArray) (ka : Nat) (ga : Nat → List D) (kb : Nat) (gb : Nat → List D) (kc : Nat) (gc : Nat → List D) (kd : Nat) (gd : Nat → List D) (mpa : List (Value × Value)) (g m : Nat) (i29 : Int) := LK Tryz.prog o55 ann55 (List.length (α := Nat × Blk) [(0, .cells [.d (dS s0), .row 1 1 ka, .row 2 5 kb, .row 3 6 kc, .row 4 12 kd, .mp 5] 150), (1, .row ka ga 1 9), (2, .row kb gb 5 98), (3, .row kc gc 6 101), (4, .row kd gd 12 69), (5, .map 0 mpa)]) g Tryz.f106 5 m ⟨frm [(0, .c (.ptr 0 0)), (3, .c (.ptr 6 0)), (27, .c (.d (D.sl 2 (List.length (SBay.links x)) fun i => linkC (List.getD (SBay.links x) i link0)))), (28, .c (.d (.v (.int .i64 (↑(List.length (SBay.links x)) : Int))))), (29, .c (.d (.v (.int .i64 i29))))] 0 Tryz.f106.ntmps, [(0, Blk.cells [.d (.v (.string s0)), C.row 1 1 ka, C.row 2 5 kb, C.row 3 6 kc, C.row 4 12 kd, C.mp 5] 150), (1, Blk.row ka ga 1 9), (2, Blk.row kb gb 5 98), (3, Blk.row kc gc 6 101), (4, Blk.row kd gd 12 69), (5, Blk.map 0 mpa), (6, Blk.cells [.d (.v (.string (SBay.name x))), .d (.v (.int .i64 (SBay.kind x))), .d (.v (.int .i64 (SBay.off x))), .d (.v (.int .i64 (SBay.fin x))), .d (.v (.int .i64 (SBay.zr x))), .d (.v (.int .i64 (SBay.zx x))), C.d (D.sl 2 (List.length (SBay.links x)) fun i => linkC (List.getD (SBay.links x) i link0)), .d (.v (.bool (SBay.closed x))), .d (.v (.int .i64 (SBay.ct x))), .d (.v (.int .i64 (SBay.vt x))), .d (.v (.int .i64 (SBay.sat x))), .d (.v (.int .i64 (SBay.travel x)))] 69)], 7⟩
theorem b55 : Tryz.f106.body = some (Aad Tryz.f106) := by kernel_rfl
theorem ev55 (x : SBay) (s0 : ByteArray) (ka : Nat) (ga : Nat → List D) (kb : Nat) (gb : Nat → List D) (kc : Nat) (gc : Nat → List D) (kd : Nat) (gd : Nat → List D) (mpa : List (Value × Value)) (g : Nat) : Aal Tryz.prog o55 ann55 g Tryz.f106 (Aad Tryz.f106) [.c (.ptr 0 0), aBay x] [(0, .cells [.d (dS s0), .row 1 1 ka, .row 2 5 kb, .row 3 6 kc, .row 4 12 kd, .mp 5] 150), (1, .row ka ga 1 9), (2, .row kb gb 5 98), (3, .row kc gc 6 101), (4, .row kd gd 12 69), (5, .map 0 mpa)] =
 (bif decide ((↑(List.length (SBay.links x)) : Int) < (1 : Int)) then some (T.leaf (AV.c (.d (.v (.int .i64 (3 : Int)))), [(0, Blk.cells [C.d (D.v (Value.string
 s0)), C.row (1) (1) ka, C.row (2) (5) kb, C.row (3) (6) kc, C.row (4) (12) kd, C.mp (5)] (150)), ((1
 : Nat), Blk.row ka ga (1) (9)), (2, Blk.row kb gb (5) (98)), (3, Blk.row kc gc (6) (101)), (4, Blk.row kd gd
 (12) (69)), (5, Blk.map (0) mpa)])) else (bif decide ((↑(List.length (SBay.links x)) : Int) > (2 : Int)) then some (T.leaf (AV.c (C.d (D.v (Value.int
 IntKind.i64 (3 : Int)))), [(0, Blk.cells [C.d (.v (.string s0)), C.row (1) (1) ka, C.row (2) (5) kb, C.row (3) (6) kc,
 C.row (4) (12) kd, C.mp (5)] (150)), (1, Blk.row ka ga (1) (9)), (2, Blk.row kb gb (5) (98)), ((3 :
 Nat), Blk.row kc gc (6) (101)), (4, Blk.row kd gd (12) (69)), (5, Blk.map (0) mpa)])) else (bif SBay.kind x == (3 : Int) then
 (bif (↑(List.length (SBay.links x)) : Int) != (2 : Int) then some (T.leaf (AV.c (.d (.v (.int .i64 (3 : Int)))), [(0, Blk.cells [C.d (.v (.string s0)),
 C.row (1) (1) ka, C.row (2) (5) kb, C.row (3) (6) kc, C.row (4) (12) kd, C.mp (5)] (150)), ((1 :
 Nat), Blk.row ka ga (1) (9)), (2, Blk.row kb gb (5) (98)), (3, Blk.row kc gc (6) (101)), (4, Blk.row kd gd
 (12) (69)), (5, Blk.map (0) mpa)])) else L55_5 x s0 ka ga kb gb kc gc kd gd mpa g g ((0 : Int))) else L55_5 x s0 ka ga kb gb kc gc kd gd mpa g g ((0
 : Int))))) := by kernel_rfl
theorem st55_5 (x : SBay) (s0 : ByteArray) (ka : Nat) (ga : Nat → List D) (kb : Nat) (gb : Nat → List D) (kc : Nat) (gc : Nat → List D) (kd : Nat) (gd : Nat → List D) (mpa : List (Value × Value)) (g m : Nat) (i29 : Int) : L55_5 x s0 ka ga kb gb kc gc kd gd mpa g (m + 1) i29 =
 (bif decide (i29 < (↑(List.length (SBay.links x)) : Int)) then (bif decide ((0 : Int) ≤ i29) && decide (i29 < (↑(List.length (SBay.links x)) : Int)) then (bif decide (SLink.bus
 (List.getD (SBay.links x) (Int.toNat i29) link0) ≥ (0 : Int)) then (bif !decide (SLink.bus (List.getD (SBay.links x) (Int.toNat i29) link0) ≤ IntKind.wrap .i64 ((↑ka : Int) -
 (1 : Int))) then some (T.leaf (AV.c (.d (.v (.int .i64 (9 : Int)))), [(0, Blk.cells [C.d (.v (.string s0)), C.row (1) (1) ka, C.row ((2 :
 Nat)) (5) kb, C.row (3) (6) kc, C.row (4) (12) kd, C.mp (5)] (150)), (1, Blk.row ka ga (1) (9)), ((2
 : Nat), Blk.row kb gb (5) (98)), (3, Blk.row kc gc (6) (101)), (4, Blk.row kd gd (12) (69)), (5, Blk.map ((0
 : Nat)) mpa)])) else (bif SLink.pos (List.getD (SBay.links x) (Int.toNat i29) link0) != (1 : Int) then (bif SLink.pos (List.getD (SBay.links x) (Int.toNat i29) link0) != (0 : Int)
 then some (T.leaf (AV.c (.d (.v (.int .i64 (16 : Int)))), [(0, Blk.cells [C.d (.v (.string s0)), C.row (1) (1) ka, C.row (2) ((5
 : Nat)) kb, C.row (3) (6) kc, C.row (4) (12) kd, C.mp (5)] (150)), (1, Blk.row ka ga (1) (9)), (2,
 Blk.row kb gb (5) (98)), (3, Blk.row kc gc (6) (101)), (4, Blk.row kd gd (12) (69)), (5, Blk.map (0)
 mpa)])) else (bif SBay.kind x == (3 : Int) then some (T.leaf (AV.c (.d (.v (.int .i64 (16 : Int)))), [(0, Blk.cells [C.d (.v (.string s0)), C.row ((1 :
 Nat)) (1) ka, C.row (2) (5) kb, C.row (3) (6) kc, C.row (4) (12) kd, C.mp (5)] (150)), (1, Blk.row ka
 ga (1) (9)), (2, Blk.row kb gb (5) (98)), (3, Blk.row kc gc (6) (101)), (4, Blk.row kd gd (12) ((69 :
 Nat))), (5, Blk.map (0) mpa)])) else (bif decide (i29 > (0 : Int)) then (bif decide ((0 : Int) ≤ IntKind.wrap .i64 (i29 - (1 : Int))) && decide (IntKind.wrap
 IntKind.i64 (i29 - (1 : Int)) < (↑(List.length (SBay.links x)) : Int)) then (bif SLink.bus (List.getD (SBay.links x) (Int.toNat (IntKind.wrap .i64 (i29 - (1 : Int)))) link0)
 == SLink.bus (List.getD (SBay.links x) (Int.toNat i29) link0) then some (T.leaf (AV.c (.d (.v (.int .i64 (12 : Int)))), [(0, Blk.cells [C.d (D.v (Value.string
 s0)), C.row (1) (1) ka, C.row (2) (5) kb, C.row (3) (6) kc, C.row (4) (12) kd, C.mp (5)] (150)), ((1
 : Nat), Blk.row ka ga (1) (9)), (2, Blk.row kb gb (5) (98)), (3, Blk.row kc gc (6) (101)), (4, Blk.row kd gd
 (12) (69)), (5, Blk.map (0) mpa)])) else L55_5 x s0 ka ga kb gb kc gc kd gd mpa g m (IntKind.wrap .i64 (i29 + (1 : Int)))) else none) else
 L55_5 x s0 ka ga kb gb kc gc kd gd mpa g m (IntKind.wrap .i64 (i29 + (1 : Int)))))) else (bif decide (i29 > (0 : Int)) then (bif decide ((0 : Int) ≤ IntKind.wrap .i64
 (i29 - (1 : Int))) && decide (IntKind.wrap .i64 (i29 - (1 : Int)) < (↑(List.length (SBay.links x)) : Int)) then (bif SLink.bus (List.getD (SBay.links x) (Int.toNat
 (IntKind.wrap .i64 (i29 - (1 : Int)))) link0) == SLink.bus (List.getD (SBay.links x) (Int.toNat i29) link0) then some (T.leaf (AV.c (.d (.v (.int .i64 (12 :
 Int)))), [(0, Blk.cells [C.d (.v (.string s0)), C.row (1) (1) ka, C.row (2) (5) kb, C.row (3) (6) kc, C.row (4)
 (12) kd, C.mp (5)] (150)), (1, Blk.row ka ga (1) (9)), (2, Blk.row kb gb (5) (98)), (3, Blk.row kc gc
 (6) (101)), (4, Blk.row kd gd (12) (69)), (5, Blk.map (0) mpa)])) else L55_5 x s0 ka ga kb gb kc gc kd gd mpa g m
 (IntKind.wrap .i64 (i29 + (1 : Int)))) else none) else L55_5 x s0 ka ga kb gb kc gc kd gd mpa g m (IntKind.wrap .i64 (i29 + (1 : Int)))))) else some (T.leaf (AV.c (C.d
 (D.v (.int .i64 (9 : Int)))), [(0, Blk.cells [C.d (.v (.string s0)), C.row (1) (1) ka, C.row (2) (5) kb, C.row (3)
 (6) kc, C.row (4) (12) kd, C.mp (5)] (150)), (1, Blk.row ka ga (1) (9)), (2, Blk.row kb gb (5) ((98 :
 Nat))), (3, Blk.row kc gc (6) (101)), (4, Blk.row kd gd (12) (69)), (5, Blk.map (0) mpa)]))) else none) else some
 (T.leaf (AV.c (.d (.v (.int .i64 (0 : Int)))), [(0, Blk.cells [C.d (.v (.string s0)), C.row (1) (1) ka, C.row (2) (5) kb,
 C.row (3) (6) kc, C.row (4) (12) kd, C.mp (5)] (150)), (1, Blk.row ka ga (1) (9)), (2, Blk.row kb gb
 (5) (98)), (3, Blk.row kc gc (6) (101)), (4, Blk.row kd gd (12) (69)), (5, Blk.map (0) mpa)]))) := by kernel_rfl
noncomputable def o54 : Orc := Orc.cons 103 (inl Tryz.prog oWi na 1 Tryz.f103) oWi
noncomputable def ann54 : Ann := annOf []
theorem b54 : Tryz.f105.body = some (Aad Tryz.f105) := by kernel_rfl
theorem ev54 (x : SBay) (g : Nat) : Aal Tryz.prog o54 ann54 g Tryz.f105 (Aad Tryz.f105) [aBay x] [] =
 (bif SBay.kind x == (3 : Int) then (bif decide (SBay.zr x ≥ (0 : Int)) then (bif decide (SBay.zr x ≤ (1000 : Int)) then (bif decide (SBay.zx x ≥ (1 : Int)) then (bif !decide
 (SBay.zx x ≤ (1000 : Int)) then some (T.leaf (AV.c (.d (.v (.bool false))), [])) else (bif SBay.vt x != (0 : Int) then some (T.leaf (AV.c (.d (.v (.bool false))), []))
 else (bif SBay.kind x == (1 : Int) then (bif decide (SBay.fin x ≥ (0 : Int)) then (bif decide (SBay.fin x ≤ (1 : Int)) then (bif decide (SBay.ct x ≥ (1 : Int)) then (bif decide
 (SBay.ct x ≤ (100 : Int)) then (bif decide (SBay.sat x ≥ (0 : Int)) then (bif decide (SBay.sat x ≤ (16383 : Int)) then (bif decide (SBay.travel x ≥ (1 : Int)) then some (T.leaf
 (AV.c (.d (.v (.bool (decide (SBay.travel x ≤ (6 : Int)))))), [])) else some (T.leaf (AV.c (.d (.v (.bool false))), []))) else some (T.leaf (AV.c (C.d (D.v (Value.bool
 false))), []))) else some (T.leaf (AV.c (.d (.v (.bool false))), []))) else some (T.leaf (AV.c (.d (.v (.bool false))), []))) else some (T.leaf (AV.c (C.d (D.v
 (Value.bool false))), []))) else some (T.leaf (AV.c (.d (.v (.bool false))), []))) else some (T.leaf (AV.c (.d (.v (.bool false))), []))) else (bif decide (SBay.fin x
 ≥ (0 : Int)) then (bif decide (SBay.fin x ≤ (0 : Int)) then (bif decide (SBay.ct x ≥ (1 : Int)) then (bif decide (SBay.ct x ≤ (100 : Int)) then (bif decide (SBay.sat x ≥ (0 : Int))
 then (bif decide (SBay.sat x ≤ (16383 : Int)) then (bif decide (SBay.travel x ≥ (1 : Int)) then some (T.leaf (AV.c (.d (.v (.bool (decide (SBay.travel x ≤ (6 : Int)))))),
 [])) else some (T.leaf (AV.c (.d (.v (.bool false))), []))) else some (T.leaf (AV.c (.d (.v (.bool false))), []))) else some (T.leaf (AV.c (C.d (D.v (Value.bool
 false))), []))) else some (T.leaf (AV.c (.d (.v (.bool false))), []))) else some (T.leaf (AV.c (.d (.v (.bool false))), []))) else some (T.leaf (AV.c (C.d (D.v
 (Value.bool false))), []))) else some (T.leaf (AV.c (.d (.v (.bool false))), [])))))) else some (T.leaf (AV.c (.d (.v (.bool false))), []))) else some (T.leaf (AV.c
 (C.d (.v (.bool false))), []))) else some (T.leaf (AV.c (.d (.v (.bool false))), []))) else (bif !(SBay.zr x == (0 : Int) && (SBay.zx x == (0 : Int) && true)) then some
 (T.leaf (AV.c (.d (.v (.bool false))), [])) else (bif decide (SBay.vt x ≥ (1 : Int)) then (bif !decide (SBay.vt x ≤ (10000 : Int)) then some (T.leaf (AV.c (C.d (D.v
 (Value.bool false))), [])) else (bif SBay.kind x == (1 : Int) then (bif decide (SBay.fin x ≥ (0 : Int)) then (bif decide (SBay.fin x ≤ (1 : Int)) then (bif decide (SBay.ct x ≥ (1 :
 Int)) then (bif decide (SBay.ct x ≤ (100 : Int)) then (bif decide (SBay.sat x ≥ (0 : Int)) then (bif decide (SBay.sat x ≤ (16383 : Int)) then (bif decide (SBay.travel x ≥ (1 : Int))
 then some (T.leaf (AV.c (.d (.v (.bool (decide (SBay.travel x ≤ (6 : Int)))))), [])) else some (T.leaf (AV.c (.d (.v (.bool false))), []))) else some (T.leaf (AV.c
 (C.d (.v (.bool false))), []))) else some (T.leaf (AV.c (.d (.v (.bool false))), []))) else some (T.leaf (AV.c (.d (.v (.bool false))), []))) else some (T.leaf
 (AV.c (.d (.v (.bool false))), []))) else some (T.leaf (AV.c (.d (.v (.bool false))), []))) else some (T.leaf (AV.c (.d (.v (.bool false))), []))) else (bif
 decide (SBay.fin x ≥ (0 : Int)) then (bif decide (SBay.fin x ≤ (0 : Int)) then (bif decide (SBay.ct x ≥ (1 : Int)) then (bif decide (SBay.ct x ≤ (100 : Int)) then (bif decide
 (SBay.sat x ≥ (0 : Int)) then (bif decide (SBay.sat x ≤ (16383 : Int)) then (bif decide (SBay.travel x ≥ (1 : Int)) then some (T.leaf (AV.c (.d (.v (.bool (decide
 (SBay.travel x ≤ (6 : Int)))))), [])) else some (T.leaf (AV.c (.d (.v (.bool false))), []))) else some (T.leaf (AV.c (.d (.v (.bool false))), []))) else some (T.leaf
 (AV.c (.d (.v (.bool false))), []))) else some (T.leaf (AV.c (.d (.v (.bool false))), []))) else some (T.leaf (AV.c (.d (.v (.bool false))), []))) else some
 (T.leaf (AV.c (.d (.v (.bool false))), []))) else some (T.leaf (AV.c (.d (.v (.bool false))), []))))) else some (T.leaf (AV.c (.d (.v (.bool false))), []))))) := by kernel_rfl
def d54 : Dec (List AV × Hp) ((RBay × Unit) × Unit) := .pair (.cons (.agg bayD) .nil) .nil
noncomputable def oRa (nk : ByteArray → Bool) (okr rg : RBay → Bool) : Orc := Orc.cons 105 (ansD d54 (fun a => okr a.1.1) (fun a => vB (rg a.1.1)) fun _ => []) (oIm nk)
noncomputable def o33 (nk : ByteArray → Bool) (okr rg : RBay → Bool) (ok : (Unit × RBay × Unit) × A5 → Bool) (lk : (Unit × RBay × Unit) × A5 → Int) : Orc := Orc.cons 106 (ansD d55 ok (fun a => vI (lk a)) (fun a => (d55.enc a).2)) (oRa nk okr rg)
noncomputable def ann33 : Ann := annOf [(18, ⟨[3, 50, 0, 51, 52], []⟩)]
noncomputable def L33_18 (nk : ByteArray → Bool) (okr rg : RBay → Bool) (ok : (Unit × RBay × Unit) × A5 → Bool) (lk : (Unit × RBay × Unit) × A5 → Int) (x : SBay) (s0 : ByteArray) (ka : Nat) (ga : Nat → List D) (kb : Nat) (gb : Nat → List D) (kc : Nat) (gc : Nat → List D) (bs : List SBay) (mpa : List (Value × Value)) (g m : Nat) (i52 : Int) := LK Tryz.prog (o33 nk okr rg ok lk) ann33 (List.length (α := Nat × Blk) [(0, .cells [.d (dS s0), .row 1 1 ka, .row 2 5 kb, .row 3 6 kc, .row 4 12 bs.length, .mp 5] 150), (1, .row ka ga 1 9), (2, .row kb gb 5 98), (3, .row kc gc 6 101), (4, .row bs.length (fun i => bayC (bs.getD i bay0)) 12 69), (5, .map 0 mpa)]) g Tryz.f58 18 m ⟨frm [(0, .c (.ptr 0 0)), (3, .c (.ptr 6 0)), (50, .c (.row 4 12 (List.length bs))), (51, .c (.d (.v (.int .i64 (↑(List.length bs) : Int))))), (52, .c (.d (.v (.int .i64 i52))))] 0 Tryz.f58.ntmps, [(0, Blk.cells [.d (.v (.string s0)), C.row 1 1 ka, C.row 2 5 kb, C.row 3 6 kc, C.row 4 12 (List.length bs), C.mp 5] 150), (1, Blk.row ka ga 1 9), (2, Blk.row kb gb 5 98), (3, Blk.row kc gc 6 101), (4, Blk.row (List.length bs) (fun i => bayC (List.getD bs i bay0)) 12 69), (5, Blk.map 0 mpa), (6, Blk.cells [.d (.v (.string (SBay.name x))), .d (.v (.int .i64 (SBay.kind x))), .d (.v (.int .i64 (SBay.off x))), .d (.v (.int .i64 (SBay.fin x))), .d (.v (.int .i64 (SBay.zr x))), .d (.v (.int .i64 (SBay.zx x))), C.d (D.sl 2 (List.length (SBay.links x)) fun i => linkC (List.getD (SBay.links x) i link0)), .d (.v (.bool (SBay.closed x))), .d (.v (.int .i64 (SBay.ct x))), .d (.v (.int .i64 (SBay.vt x))), .d (.v (.int .i64 (SBay.sat x))), .d (.v (.int .i64 (SBay.travel x)))] 69)], 7⟩
theorem b33 : Tryz.f58.body = some (Aad Tryz.f58) := by kernel_rfl
theorem ev33 (nk : ByteArray → Bool) (okr rg : RBay → Bool) (ok : (Unit × RBay × Unit) × A5 → Bool) (lk : (Unit × RBay × Unit) × A5 → Int) (x : SBay) (s0 : ByteArray) (ka : Nat) (ga : Nat → List D) (kb : Nat) (gb : Nat → List D) (kc : Nat) (gc : Nat → List D) (bs : List SBay) (mpa : List (Value × Value)) (g : Nat) : Aal Tryz.prog (o33 nk okr rg ok lk) ann33 g Tryz.f58 (Aad Tryz.f58) [.c (.ptr 0 0), aBay x] [(0, .cells [.d (dS s0), .row 1 1 ka, .row 2 5 kb, .row 3 6 kc, .row 4 12 bs.length, .mp 5] 150), (1, .row ka ga 1 9), (2, .row kb gb 5 98), (3, .row kc gc 6 101), (4, .row bs.length (fun i => bayC (bs.getD i bay0)) 12 69), (5, .map 0 mpa)] =
 (bif !nk (SBay.name x) then some (T.leaf (AV.c (.d (.v (.int .i64 (7 : Int)))), [(0, Blk.cells [C.d (.v (.string s0)), C.row (1) (1) ka,
 C.row (2) (5) kb, C.row (3) (6) kc, C.row (4) (12) (List.length bs), C.mp (5)] (150)), (1, Blk.row ka ga ((1
 : Nat)) (9)), (2, Blk.row kb gb (5) (98)), (3, Blk.row kc gc (6) (101)), (4, Blk.row (List.length bs) (fun i => bayC
 (List.getD bs i bay0)) (12) (69)), (5, Blk.map (0) mpa)])) else (bif boolOf (assoc mpa (Value.string (SBay.name x))) then some (T.leaf (AV.c (C.d
 (D.v (.int .i64 (8 : Int)))), [(0, Blk.cells [C.d (.v (.string s0)), C.row (1) (1) ka, C.row (2) (5) kb, C.row (3)
 (6) kc, C.row (4) (12) (List.length bs), C.mp (5)] (150)), (1, Blk.row ka ga (1) (9)), (2, Blk.row kb gb ((5
 : Nat)) (98)), (3, Blk.row kc gc (6) (101)), (4, Blk.row (List.length bs) (fun i => bayC (List.getD bs i bay0)) (12) (69)),
 (5, Blk.map (0) mpa)])) else (bif SBay.kind x == (1 : Int) then (bif decide (SBay.off x ≥ (0 : Int)) then (bif !decide (SBay.off x ≤ IntKind.wrap .i64 ((↑kb :
 Int) - (1 : Int))) then some (T.leaf (AV.c (.d (.v (.int .i64 (9 : Int)))), [(0, Blk.cells [C.d (.v (.string s0)), C.row (1) (1) ka,
 C.row (2) (5) kb, C.row (3) (6) kc, C.row (4) (12) (List.length bs), C.mp (5)] (150)), (1, Blk.row ka ga ((1
 : Nat)) (9)), (2, Blk.row kb gb (5) (98)), (3, Blk.row kc gc (6) (101)), (4, Blk.row (List.length bs) (fun i => bayC
 (List.getD bs i bay0)) (12) (69)), (5, Blk.map (0) mpa)])) else (bif okr (SBay.name x, SBay.kind x, SBay.off x, SBay.fin x, SBay.zr x, SBay.zx x,
 linksD (SBay.links x), SBay.closed x, SBay.ct x, SBay.vt x, SBay.sat x, SBay.travel x, ()) then (bif !rg (SBay.name x, SBay.kind x, SBay.off x, SBay.fin x, SBay.zr x, SBay.zx x,
 linksD (SBay.links x), SBay.closed x, SBay.ct x, SBay.vt x, SBay.sat x, SBay.travel x, ()) then some (T.leaf (AV.c (.d (.v (.int .i64 (2 : Int)))), [(0,
 Blk.cells [C.d (.v (.string s0)), C.row (1) (1) ka, C.row (2) (5) kb, C.row (3) (6) kc, C.row (4) (12)
 (List.length bs), C.mp (5)] (150)), (1, Blk.row ka ga (1) (9)), (2, Blk.row kb gb (5) (98)), (3, Blk.row kc
 gc (6) (101)), (4, Blk.row (List.length bs) (fun i => bayC (List.getD bs i bay0)) (12) (69)), (5, Blk.map (0) mpa)])) else
 L33_18 nk okr rg ok lk x s0 ka ga kb gb kc gc bs mpa g g ((0 : Int))) else none)) else some (T.leaf (AV.c (.d (.v (.int .i64 (9 : Int)))), [(0, Blk.cells [C.d
 (D.v (.string s0)), C.row (1) (1) ka, C.row (2) (5) kb, C.row (3) (6) kc, C.row (4) (12) (List.length bs), C.mp
 (5)] (150)), (1, Blk.row ka ga (1) (9)), (2, Blk.row kb gb (5) (98)), (3, Blk.row kc gc (6) ((101 :
 Nat))), (4, Blk.row (List.length bs) (fun i => bayC (List.getD bs i bay0)) (12) (69)), (5, Blk.map (0) mpa)]))) else (bif SBay.kind x == (2 :
 Int) then (bif decide (SBay.off x ≥ (0 : Int)) then (bif !decide (SBay.off x ≤ IntKind.wrap .i64 ((↑kc : Int) - (1 : Int))) then some (T.leaf (AV.c (C.d (D.v (Value.int
 IntKind.i64 (9 : Int)))), [(0, Blk.cells [C.d (.v (.string s0)), C.row (1) (1) ka, C.row (2) (5) kb, C.row (3) (6) kc,
 C.row (4) (12) (List.length bs), C.mp (5)] (150)), (1, Blk.row ka ga (1) (9)), (2, Blk.row kb gb (5) ((98 :
 Nat))), (3, Blk.row kc gc (6) (101)), (4, Blk.row (List.length bs) (fun i => bayC (List.getD bs i bay0)) (12) (69)), (5,
 Blk.map (0) mpa)])) else (bif okr (SBay.name x, SBay.kind x, SBay.off x, SBay.fin x, SBay.zr x, SBay.zx x, linksD (SBay.links x), SBay.closed x, SBay.ct x, SBay.vt x,
 SBay.sat x, SBay.travel x, ()) then (bif !rg (SBay.name x, SBay.kind x, SBay.off x, SBay.fin x, SBay.zr x, SBay.zx x, linksD (SBay.links x), SBay.closed x, SBay.ct x, SBay.vt x,
 SBay.sat x, SBay.travel x, ()) then some (T.leaf (AV.c (.d (.v (.int .i64 (2 : Int)))), [(0, Blk.cells [C.d (.v (.string s0)), C.row (1) ((1 :
 Nat)) ka, C.row (2) (5) kb, C.row (3) (6) kc, C.row (4) (12) (List.length bs), C.mp (5)] (150)), (1, Blk.row
 ka ga (1) (9)), (2, Blk.row kb gb (5) (98)), (3, Blk.row kc gc (6) (101)), (4, Blk.row (List.length bs) (fun
 i => bayC (List.getD bs i bay0)) (12) (69)), (5, Blk.map (0) mpa)])) else L33_18 nk okr rg ok lk x s0 ka ga kb gb kc gc bs mpa g g ((0 : Int))) else
 none)) else some (T.leaf (AV.c (.d (.v (.int .i64 (9 : Int)))), [(0, Blk.cells [C.d (.v (.string s0)), C.row (1) (1) ka, C.row ((2 :
 Nat)) (5) kb, C.row (3) (6) kc, C.row (4) (12) (List.length bs), C.mp (5)] (150)), (1, Blk.row ka ga (1) ((9
 : Nat))), (2, Blk.row kb gb (5) (98)), (3, Blk.row kc gc (6) (101)), (4, Blk.row (List.length bs) (fun i => bayC (List.getD
 bs i bay0)) (12) (69)), (5, Blk.map (0) mpa)]))) else (bif SBay.kind x == (3 : Int) then (bif decide (SBay.off x ≥ (0 : Int)) then (bif !decide
 (SBay.off x ≤ IntKind.wrap .i64 ((1 : Int) - (1 : Int))) then some (T.leaf (AV.c (.d (.v (.int .i64 (9 : Int)))), [(0, Blk.cells [C.d (D.v (Value.string
 s0)), C.row (1) (1) ka, C.row (2) (5) kb, C.row (3) (6) kc, C.row (4) (12) (List.length bs), C.mp (5)] ((150
 : Nat))), (1, Blk.row ka ga (1) (9)), (2, Blk.row kb gb (5) (98)), (3, Blk.row kc gc (6) (101)), (4,
 Blk.row (List.length bs) (fun i => bayC (List.getD bs i bay0)) (12) (69)), (5, Blk.map (0) mpa)])) else (bif okr (SBay.name x, SBay.kind x, SBay.off
 x, SBay.fin x, SBay.zr x, SBay.zx x, linksD (SBay.links x), SBay.closed x, SBay.ct x, SBay.vt x, SBay.sat x, SBay.travel x, ()) then (bif !rg (SBay.name x, SBay.kind x, SBay.off x,
 SBay.fin x, SBay.zr x, SBay.zx x, linksD (SBay.links x), SBay.closed x, SBay.ct x, SBay.vt x, SBay.sat x, SBay.travel x, ()) then some (T.leaf (AV.c (C.d (D.v (Value.int IntKind.i64
 (2 : Int)))), [(0, Blk.cells [C.d (.v (.string s0)), C.row (1) (1) ka, C.row (2) (5) kb, C.row (3) (6) kc, C.row ((4 :
 Nat)) (12) (List.length bs), C.mp (5)] (150)), (1, Blk.row ka ga (1) (9)), (2, Blk.row kb gb (5) (98)), ((3 :
 Nat), Blk.row kc gc (6) (101)), (4, Blk.row (List.length bs) (fun i => bayC (List.getD bs i bay0)) (12) (69)), (5, Blk.map ((0 :
 Nat)) mpa)])) else L33_18 nk okr rg ok lk x s0 ka ga kb gb kc gc bs mpa g g ((0 : Int))) else none)) else some (T.leaf (AV.c (.d (.v (.int .i64 (9 : Int)))), [((0 :
 Nat), Blk.cells [C.d (.v (.string s0)), C.row (1) (1) ka, C.row (2) (5) kb, C.row (3) (6) kc, C.row (4) (12)
 (List.length bs), C.mp (5)] (150)), (1, Blk.row ka ga (1) (9)), (2, Blk.row kb gb (5) (98)), (3, Blk.row kc
 gc (6) (101)), (4, Blk.row (List.length bs) (fun i => bayC (List.getD bs i bay0)) (12) (69)), (5, Blk.map (0) mpa)]))) else
 some (T.leaf (AV.c (.d (.v (.int .i64 (10 : Int)))), [(0, Blk.cells [C.d (.v (.string s0)), C.row (1) (1) ka, C.row (2) ((5 :
 Nat)) kb, C.row (3) (6) kc, C.row (4) (12) (List.length bs), C.mp (5)] (150)), (1, Blk.row ka ga (1) (9)),
 (2, Blk.row kb gb (5) (98)), (3, Blk.row kc gc (6) (101)), (4, Blk.row (List.length bs) (fun i => bayC (List.getD bs i bay0))
 (12) (69)), (5, Blk.map (0) mpa)]))))))) := by kernel_rfl
theorem st33_18 (nk : ByteArray → Bool) (okr rg : RBay → Bool) (ok : (Unit × RBay × Unit) × A5 → Bool) (lk : (Unit × RBay × Unit) × A5 → Int) (x : SBay) (s0 : ByteArray) (ka : Nat) (ga : Nat → List D) (kb : Nat) (gb : Nat → List D) (kc : Nat) (gc : Nat → List D) (bs : List SBay) (mpa : List (Value × Value)) (g m : Nat) (i52 : Int) : L33_18 nk okr rg ok lk x s0 ka ga kb gb kc gc bs mpa g (m + 1) i52 =
 (bif decide (i52 < (↑(List.length bs) : Int)) then (bif decide ((0 : Int) ≤ i52) && decide (i52 < (↑(List.length bs) : Int)) then (bif SBay.kind x != (3 : Int) then (bif SBay.kind x
 == SBay.kind (List.getD bs (Int.toNat i52) bay0) then (bif SBay.off x == SBay.off (List.getD bs (Int.toNat i52) bay0) then (bif SBay.fin x == SBay.fin (List.getD bs (Int.toNat i52)
 bay0) then some (T.leaf (AV.c (.d (.v (.int .i64 (12 : Int)))), [(0, Blk.cells [C.d (.v (.string s0)), C.row (1) (1) ka, C.row ((2 :
 Nat)) (5) kb, C.row (3) (6) kc, C.row (4) (12) (List.length bs), C.mp (5)] (150)), (1, Blk.row ka ga (1) ((9
 : Nat))), (2, Blk.row kb gb (5) (98)), (3, Blk.row kc gc (6) (101)), (4, Blk.row (List.length bs) (fun i => bayC (List.getD
 bs i bay0)) (12) (69)), (5, Blk.map (0) mpa)])) else L33_18 nk okr rg ok lk x s0 ka ga kb gb kc gc bs mpa g m (IntKind.wrap .i64 (i52 + (1 :
 Int)))) else L33_18 nk okr rg ok lk x s0 ka ga kb gb kc gc bs mpa g m (IntKind.wrap .i64 (i52 + (1 : Int)))) else L33_18 nk okr rg ok lk x s0 ka ga kb gb kc gc bs mpa g m
 (IntKind.wrap .i64 (i52 + (1 : Int)))) else L33_18 nk okr rg ok lk x s0 ka ga kb gb kc gc bs mpa g m (IntKind.wrap .i64 (i52 + (1 : Int)))) else none) else (bif ok
 (((), (SBay.name x, SBay.kind x, SBay.off x, SBay.fin x, SBay.zr x, SBay.zx x, D.sl 2 (List.length (SBay.links x)) fun i => linkC (List.getD (SBay.links x) i link0),
 SBay.closed x, SBay.ct x, SBay.vt x, SBay.sat x, SBay.travel x, ()), ()), (s0, ka, kb, kc, List.length bs, (), ()), (ka, ga), (kb, gb), (kc, gc), (List.length bs, fun i => bayC
 (List.getD bs i bay0)), mpa, ()) then (bif lk (((), (SBay.name x, SBay.kind x, SBay.off x, SBay.fin x, SBay.zr x, SBay.zx x, D.sl 2 (List.length (SBay.links x)) fun i =>
 linkC (List.getD (SBay.links x) i link0), SBay.closed x, SBay.ct x, SBay.vt x, SBay.sat x, SBay.travel x, ()), ()), (s0, ka, kb, kc, List.length bs, (), ()), (ka, ga), (kb, gb),
 (kc, gc), (List.length bs, fun i => bayC (List.getD bs i bay0)), mpa, ()) != (0 : Int) then some (T.leaf (AV.c (.d (.v (.int .i64 (lk (((), (SBay.name x, SBay.kind x,
 SBay.off x, SBay.fin x, SBay.zr x, SBay.zx x, D.sl 2 (List.length (SBay.links x)) fun i => linkC (List.getD (SBay.links x) i link0), SBay.closed x, SBay.ct x, SBay.vt x,
 SBay.sat x, SBay.travel x, ()), ()), (s0, ka, kb, kc, List.length bs, (), ()), (ka, ga), (kb, gb), (kc, gc), (List.length bs, fun i => bayC (List.getD bs i bay0)), mpa, ()))))),
 [(0, Blk.cells [C.d (.v (.string s0)), C.row (1) (1) ka, C.row (2) (5) kb, C.row (3) (6) kc, C.row (4) ((12 :
 Nat)) (List.length bs), C.mp (5)] (150)), (1, Blk.row ka ga (1) (9)), (2, Blk.row kb gb (5) (98)), (3,
 Blk.row kc gc (6) (101)), (4, Blk.row (List.length bs) (fun i => bayC (List.getD bs i bay0)) (12) (69)), (5, Blk.map (0)
 (Prod.fst (Prod.snd (Prod.snd (Prod.snd (Prod.snd (Prod.snd (Prod.snd (((), (SBay.name x, SBay.kind x, SBay.off x, SBay.fin x, SBay.zr x, SBay.zx x, D.sl 2 (List.length
 (SBay.links x)) fun i => linkC (List.getD (SBay.links x) i link0), SBay.closed x, SBay.ct x, SBay.vt x, SBay.sat x, SBay.travel x, ()), ()), (s0, ka, kb, kc, List.length bs, (),
 ()), (ka, ga), (kb, gb), (kc, gc), (List.length bs, fun i => bayC (List.getD bs i bay0)), mpa, ())))))))))])) else (bif decide ((List.length bs + 1) * 120 ≤
 140737488355328) && decide (List.length bs + 1 ≤ 9223372036854775807) then some (T.leaf (AV.c (.d (.v (.int .i64 (0 : Int)))), [(0,
 Blk.cells [C.d (.v (.string s0)), C.row (1) (1) ka, C.row (2) (5) kb, C.row (3) (6) kc, C.row (6) (12)
 (List.length bs + 1), C.mp (5)] (150)), (1, Blk.row ka ga (1) (9)), (2, Blk.row kb gb (5) (98)), (3,
 Blk.row kc gc (6) (101)), (4, Blk.dead), (5, Blk.map (0) ((Value.string (SBay.name x), Value.bool true) :: Prod.fst (Prod.snd (Prod.snd
 (Prod.snd (Prod.snd (Prod.snd (Prod.snd (((), (SBay.name x, SBay.kind x, SBay.off x, SBay.fin x, SBay.zr x, SBay.zx x, D.sl 2 (List.length (SBay.links x)) fun i => linkC
 (List.getD (SBay.links x) i link0), SBay.closed x, SBay.ct x, SBay.vt x, SBay.sat x, SBay.travel x, ()), ()), (s0, ka, kb, kc, List.length bs, (), ()), (ka, ga), (kb, gb), (kc, gc),
 (List.length bs, fun i => bayC (List.getD bs i bay0)), mpa, ()))))))))), (6, Blk.row (List.length bs + 1) (appF (List.length bs) (fun i => bayC (List.getD bs i
 bay0)) (Aaf [D.v (.string (SBay.name x)), D.v (.int .i64 (SBay.kind x)), D.v (.int .i64 (SBay.off x)), D.v (.int .i64 (SBay.fin x)), D.v
 (Value.int IntKind.i64 (SBay.zr x)), D.v (.int .i64 (SBay.zx x)), D.sl 2 (List.length (SBay.links x)) fun i => linkC (List.getD (SBay.links x) i link0), D.v
 (Value.bool (SBay.closed x)), D.v (.int .i64 (SBay.ct x)), D.v (.int .i64 (SBay.vt x)), D.v (.int .i64 (SBay.sat x)), D.v (Value.int IntKind.i64
 (SBay.travel x))] (11 + 1))) (12) (69))])) else none)) else none)) := by kernel_rfl
noncomputable def h33 (cn : Nat → (Nat → List D) → (Nat → List D)) (bc : RBay → List D) (a : (Unit × RBay × Unit) × A5) : Hp := [(0, .cells [.d (dS a.2.1.1), .row 1 1 a.2.2.1.1, .row 2 5 a.2.2.2.1.1, .row 3 6 a.2.2.2.2.1.1, .row 6 12 (a.2.2.2.2.2.1.1 + 1), .mp 5] 150), (1, .row a.2.2.1.1 a.2.2.1.2 1 9), (2, .row a.2.2.2.1.1 a.2.2.2.1.2 5 98), (3, .row a.2.2.2.2.1.1 a.2.2.2.2.1.2 6 101), (4, .dead), (5, .map 0 ((.string a.1.2.1.1, .bool true) :: a.2.2.2.2.2.2.1)), (6, .row (a.2.2.2.2.2.1.1 + 1) (appF a.2.2.2.2.2.1.1 (cn a.2.2.2.2.2.1.1 a.2.2.2.2.2.1.2) (Aaf (bc a.1.2.1) 12)) 12 69)]
noncomputable def h33e (cn : Nat → (Nat → List D) → (Nat → List D)) (a : (Unit × RBay × Unit) × A5) : Hp := [(0, .cells [.d (dS a.2.1.1), .row 1 1 a.2.2.1.1, .row 2 5 a.2.2.2.1.1, .row 3 6 a.2.2.2.2.1.1, .row 4 12 a.2.2.2.2.2.1.1, .mp 5] 150), (1, .row a.2.2.1.1 a.2.2.1.2 1 9), (2, .row a.2.2.2.1.1 a.2.2.2.1.2 5 98), (3, .row a.2.2.2.2.1.1 a.2.2.2.2.1.2 6 101), (4, .row a.2.2.2.2.2.1.1 (cn a.2.2.2.2.2.1.1 a.2.2.2.2.2.1.2) 12 69), (5, .map 0 a.2.2.2.2.2.2.1)]
noncomputable def o32 (cn : Nat → (Nat → List D) → (Nat → List D)) (bc : RBay → List D) (ok : (Unit × RBay × Unit) × A5 → Bool) (er : (Unit × RBay × Unit) × A5 → Int) : Orc := Orc.cons 58 (ansB d55 ok (fun a => er a == 0) (fun _ => vI 0) (h33 cn bc) (fun a => vI (er a)) (h33e cn)) Orc.nil
noncomputable def ann32 : Ann := annOf [(2, ⟨[1, 8, 9, 10], [(1, 4, 12, 69)]⟩)]
noncomputable def L32_2 (cn : Nat → (Nat → List D) → (Nat → List D)) (bc : RBay → List D) (ok : (Unit × RBay × Unit) × A5 → Bool) (er : (Unit × RBay × Unit) × A5 → Int) (l : List SBay) (s0 : ByteArray) (ka : Nat) (ga : Nat → List D) (kb : Nat) (gb : Nat → List D) (kc : Nat) (gc : Nat → List D) (mpa : List (Value × Value)) (g m : Nat) (l4 : List (Value × Value)) (n5 : Nat) (f5 : Nat → List D) (i10 : Int) := LK Tryz.prog (o32 cn bc ok er) ann32 (List.length (α := Nat × Blk) [(0, .cells [.d (dS s0), .row 1 1 ka, .row 2 5 kb, .row 3 6 kc, nilC, .mp 4] 150), (1, .row ka ga 1 9), (2, .row kb gb 5 98), (3, .row kc gc 6 101), (4, .map 0 mpa)]) g Tryz.f57 2 m ⟨frm [(1, .c (.fn 58 [Rf.ptr 0 0] [])), (8, .c (.d (D.sl 12 (List.length l) fun i => bayC (List.getD l i bay0)))), (9, .c (.d (.v (.int .i64 (↑(List.length l) : Int))))), (10, .c (.d (.v (.int .i64 i10))))] 0 Tryz.f57.ntmps, [(0, Blk.cells [.d (.v (.string s0)), C.row 1 1 ka, C.row 2 5 kb, C.row 3 6 kc, C.row 5 12 n5, C.mp 4] 150), (1, Blk.row ka ga 1 9), (2, Blk.row kb gb 5 98), (3, Blk.row kc gc 6 101), (4, Blk.map 0 l4), (5, Blk.row n5 f5 12 69)], 6⟩
theorem b32 : Tryz.f57.body = some (Aad Tryz.f57) := by kernel_rfl
theorem ev32 (cn : Nat → (Nat → List D) → (Nat → List D)) (bc : RBay → List D) (ok : (Unit × RBay × Unit) × A5 → Bool) (er : (Unit × RBay × Unit) × A5 → Int) (l : List SBay) (s0 : ByteArray) (ka : Nat) (ga : Nat → List D) (kb : Nat) (gb : Nat → List D) (kc : Nat) (gc : Nat → List D) (mpa : List (Value × Value)) (g : Nat) : Aal Tryz.prog (o32 cn bc ok er) ann32 g Tryz.f57 (Aad Tryz.f57) [.c (.d (baysD l)), fnOf 58] [(0, .cells [.d (dS s0), .row 1 1 ka, .row 2 5 kb, .row 3 6 kc, nilC, .mp 4] 150), (1, .row ka ga 1 9), (2, .row kb gb 5 98), (3, .row kc gc 6 101), (4, .map 0 mpa)] =
 L32_2 cn bc ok er l s0 ka ga kb gb kc gc mpa g g mpa 0 (fun x => []) ((0 : Int)) := by kernel_rfl
theorem st32_2 (cn : Nat → (Nat → List D) → (Nat → List D)) (bc : RBay → List D) (ok : (Unit × RBay × Unit) × A5 → Bool) (er : (Unit × RBay × Unit) × A5 → Int) (l : List SBay) (s0 : ByteArray) (ka : Nat) (ga : Nat → List D) (kb : Nat) (gb : Nat → List D) (kc : Nat) (gc : Nat → List D) (mpa : List (Value × Value)) (g m : Nat) (l4 : List (Value × Value)) (n5 : Nat) (f5 : Nat → List D) (i10 : Int) : L32_2 cn bc ok er l s0 ka ga kb gb kc gc mpa g (m + 1) l4 n5 f5 i10 =
 (bif decide (i10 < (↑(List.length l) : Int)) then (bif decide ((0 : Int) ≤ i10) && decide (i10 < (↑(List.length l) : Int)) then (bif ok (((), (SBay.name (List.getD l (Int.toNat i10)
 bay0), SBay.kind (List.getD l (Int.toNat i10) bay0), SBay.off (List.getD l (Int.toNat i10) bay0), SBay.fin (List.getD l (Int.toNat i10) bay0), SBay.zr (List.getD l (Int.toNat i10)
 bay0), SBay.zx (List.getD l (Int.toNat i10) bay0), linksD (SBay.links (List.getD l (Int.toNat i10) bay0)), SBay.closed (List.getD l (Int.toNat i10) bay0), SBay.ct (List.getD l
 (Int.toNat i10) bay0), SBay.vt (List.getD l (Int.toNat i10) bay0), SBay.sat (List.getD l (Int.toNat i10) bay0), SBay.travel (List.getD l (Int.toNat i10) bay0), ()), ()), (s0, ka,
 kb, kc, n5, (), ()), (ka, ga), (kb, gb), (kc, gc), (n5, f5), l4, ()) then (bif er (((), (SBay.name (List.getD l (Int.toNat i10) bay0), SBay.kind (List.getD l (Int.toNat i10) bay0),
 SBay.off (List.getD l (Int.toNat i10) bay0), SBay.fin (List.getD l (Int.toNat i10) bay0), SBay.zr (List.getD l (Int.toNat i10) bay0), SBay.zx (List.getD l (Int.toNat i10) bay0),
 linksD (SBay.links (List.getD l (Int.toNat i10) bay0)), SBay.closed (List.getD l (Int.toNat i10) bay0), SBay.ct (List.getD l (Int.toNat i10) bay0), SBay.vt (List.getD l (Int.toNat
 i10) bay0), SBay.sat (List.getD l (Int.toNat i10) bay0), SBay.travel (List.getD l (Int.toNat i10) bay0), ()), ()), (s0, ka, kb, kc, n5, (), ()), (ka, ga), (kb, gb), (kc, gc), (n5,
 f5), l4, ()) == (0 : Int) then L32_2 cn bc ok er l s0 ka ga kb gb kc gc mpa g m ((Value.string (SBay.name (List.getD l (Int.toNat i10) bay0)), Value.bool true) :: Prod.fst (Prod.snd
 (Prod.snd (Prod.snd (Prod.snd (Prod.snd (Prod.snd (((), (SBay.name (List.getD l (Int.toNat i10) bay0), SBay.kind (List.getD l (Int.toNat i10) bay0), SBay.off (List.getD l (Int.toNat
 i10) bay0), SBay.fin (List.getD l (Int.toNat i10) bay0), SBay.zr (List.getD l (Int.toNat i10) bay0), SBay.zx (List.getD l (Int.toNat i10) bay0), linksD (SBay.links (List.getD l
 (Int.toNat i10) bay0)), SBay.closed (List.getD l (Int.toNat i10) bay0), SBay.ct (List.getD l (Int.toNat i10) bay0), SBay.vt (List.getD l (Int.toNat i10) bay0), SBay.sat (List.getD l
 (Int.toNat i10) bay0), SBay.travel (List.getD l (Int.toNat i10) bay0), ()), ()), (s0, ka, kb, kc, n5, (), ()), (ka, ga), (kb, gb), (kc, gc), (n5, f5), l4, ())))))))) (n5 + (1 :
 Nat)) (appF n5 (cn n5 f5) (Aaf (bc (SBay.name (List.getD l (Int.toNat i10) bay0), SBay.kind (List.getD l (Int.toNat i10) bay0), SBay.off (List.getD l (Int.toNat i10) bay0),
 SBay.fin (List.getD l (Int.toNat i10) bay0), SBay.zr (List.getD l (Int.toNat i10) bay0), SBay.zx (List.getD l (Int.toNat i10) bay0), linksD (SBay.links (List.getD l (Int.toNat i10)
 bay0)), SBay.closed (List.getD l (Int.toNat i10) bay0), SBay.ct (List.getD l (Int.toNat i10) bay0), SBay.vt (List.getD l (Int.toNat i10) bay0), SBay.sat (List.getD l (Int.toNat i10)
 bay0), SBay.travel (List.getD l (Int.toNat i10) bay0), ())) 12)) (IntKind.wrap .i64 (i10 + (1 : Int))) else (bif er (((), (SBay.name (List.getD l (Int.toNat i10)
 bay0), SBay.kind (List.getD l (Int.toNat i10) bay0), SBay.off (List.getD l (Int.toNat i10) bay0), SBay.fin (List.getD l (Int.toNat i10) bay0), SBay.zr (List.getD l (Int.toNat i10)
 bay0), SBay.zx (List.getD l (Int.toNat i10) bay0), linksD (SBay.links (List.getD l (Int.toNat i10) bay0)), SBay.closed (List.getD l (Int.toNat i10) bay0), SBay.ct (List.getD l
 (Int.toNat i10) bay0), SBay.vt (List.getD l (Int.toNat i10) bay0), SBay.sat (List.getD l (Int.toNat i10) bay0), SBay.travel (List.getD l (Int.toNat i10) bay0), ()), ()), (s0, ka,
 kb, kc, n5, (), ()), (ka, ga), (kb, gb), (kc, gc), (n5, f5), l4, ()) != (0 : Int) then some (T.leaf (AV.c (.d (.v (.int .i64 (er (((), (SBay.name (List.getD l
 (Int.toNat i10) bay0), SBay.kind (List.getD l (Int.toNat i10) bay0), SBay.off (List.getD l (Int.toNat i10) bay0), SBay.fin (List.getD l (Int.toNat i10) bay0), SBay.zr (List.getD l
 (Int.toNat i10) bay0), SBay.zx (List.getD l (Int.toNat i10) bay0), linksD (SBay.links (List.getD l (Int.toNat i10) bay0)), SBay.closed (List.getD l (Int.toNat i10) bay0), SBay.ct
 (List.getD l (Int.toNat i10) bay0), SBay.vt (List.getD l (Int.toNat i10) bay0), SBay.sat (List.getD l (Int.toNat i10) bay0), SBay.travel (List.getD l (Int.toNat i10) bay0), ()),
 ()), (s0, ka, kb, kc, n5, (), ()), (ka, ga), (kb, gb), (kc, gc), (n5, f5), l4, ()))))), [(0, Blk.cells [C.d (.v (.string s0)), C.row (1) (1) ka, C.row
 (2) (5) kb, C.row (3) (6) kc, C.row (5) (12) n5, C.mp (4)] (150)), (1, Blk.row ka ga (1) ((9 :
 Nat))), (2, Blk.row kb gb (5) (98)), (3, Blk.row kc gc (6) (101)), (4, Blk.map (0) (Prod.fst (Prod.snd (Prod.snd
 (Prod.snd (Prod.snd (Prod.snd (Prod.snd (((), (SBay.name (List.getD l (Int.toNat i10) bay0), SBay.kind (List.getD l (Int.toNat i10) bay0), SBay.off (List.getD l (Int.toNat i10)
 bay0), SBay.fin (List.getD l (Int.toNat i10) bay0), SBay.zr (List.getD l (Int.toNat i10) bay0), SBay.zx (List.getD l (Int.toNat i10) bay0), linksD (SBay.links (List.getD l
 (Int.toNat i10) bay0)), SBay.closed (List.getD l (Int.toNat i10) bay0), SBay.ct (List.getD l (Int.toNat i10) bay0), SBay.vt (List.getD l (Int.toNat i10) bay0), SBay.sat (List.getD l
 (Int.toNat i10) bay0), SBay.travel (List.getD l (Int.toNat i10) bay0), ()), ()), (s0, ka, kb, kc, n5, (), ()), (ka, ga), (kb, gb), (kc, gc), (n5, f5), l4, ()))))))))), (5,
 Blk.row n5 (cn n5 f5) (12) (69))])) else L32_2 cn bc ok er l s0 ka ga kb gb kc gc mpa g m (Prod.fst (Prod.snd (Prod.snd (Prod.snd (Prod.snd (Prod.snd (Prod.snd (((),
 (SBay.name (List.getD l (Int.toNat i10) bay0), SBay.kind (List.getD l (Int.toNat i10) bay0), SBay.off (List.getD l (Int.toNat i10) bay0), SBay.fin (List.getD l (Int.toNat i10)
 bay0), SBay.zr (List.getD l (Int.toNat i10) bay0), SBay.zx (List.getD l (Int.toNat i10) bay0), linksD (SBay.links (List.getD l (Int.toNat i10) bay0)), SBay.closed (List.getD l
 (Int.toNat i10) bay0), SBay.ct (List.getD l (Int.toNat i10) bay0), SBay.vt (List.getD l (Int.toNat i10) bay0), SBay.sat (List.getD l (Int.toNat i10) bay0), SBay.travel (List.getD l
 (Int.toNat i10) bay0), ()), ()), (s0, ka, kb, kc, n5, (), ()), (ka, ga), (kb, gb), (kc, gc), (n5, f5), l4, ())))))))) n5 (cn n5 f5) (IntKind.wrap .i64 (i10 + (1 : Int)))))
 else none) else none) else some (T.leaf (AV.c (.d (.v (.int .i64 (0 : Int)))), [(0, Blk.cells [C.d (.v (.string s0)), C.row (1) (1) ka,
 C.row (2) (5) kb, C.row (3) (6) kc, C.row (5) (12) n5, C.mp (4)] (150)), (1, Blk.row ka ga (1) ((9 :
 Nat))), (2, Blk.row kb gb (5) (98)), (3, Blk.row kc gc (6) (101)), (4, Blk.map (0) l4), (5, Blk.row n5 f5
 (12) (69))]))) := by kernel_rfl
end Go.Proofs.YtmnfibmlhmeheaaGreatDoor.st
namespace Go.Proofs.YtmnfibmlhmeheaaGreatDoor.st
open Go.RowKit Go.Eb
theorem appOk {k b : Nat} (h : k + 1 ≤ 1000) (hb : b ≤ 1000) : (decide ((k + 1) * b ≤ 140737488355328) && decide (k + 1 ≤ 9223372036854775807)) = true := by
  have h1 : (k + 1) * b ≤ 1000 * 1000 := Nat.mul_le_mul h hb
  rw [decide_eq_true (by omega), decide_eq_true (by omega)]; rfl
theorem sNm : OrcS Tryz.prog (oNm Aae) := .cons (.p decS_ok c15) .nil
theorem sNam : OrcS Tryz.prog (oNam Aae) := .cons (.inl sNm Tryz.func102 (by kernel_rfl)) .nil
theorem s26 : OrcS Tryz.prog (o26 Aae) := .cons (.inl sNam Tryz.func52 (by kernel_rfl)) .nil
theorem sWi : OrcS Tryz.prog oWi := .cons (.inl .nil Tryz.func104 (by kernel_rfl)) .nil
theorem sIm : OrcS Tryz.prog (oIm Aae) := .cons (.inl sWi Tryz.func103 (by kernel_rfl)) (.cons (.inl .nil Tryz.func104 (by kernel_rfl)) sNam)
theorem s28 : OrcS Tryz.prog (o28 Aae) := .cons (.inl sIm Tryz.func54 (by kernel_rfl)) .nil
theorem s30 : OrcS Tryz.prog (o30 Aae) := .cons (.inl sIm Tryz.func56 (by kernel_rfl)) .nil
theorem c26 (l : List ByteArray) (s0 : ByteArray) (N : List ByteArray) (hl : l.length ≤ 900) :
    CX Tryz.prog 51 [.c (.d (Aab l)), fnOf 52] (H1 s0 (Aak N)) (vI (takeN id (fun N _ x => namErr N x) N [] l).1)
      (H1' s0 (Aak (N ++ (takeN id (fun N _ x => namErr N x) N [] l).2.map id)) (takeN id (fun N _ x => namErr N x) N [] l).2.length (fun i => busC ((takeN id (fun N _ x => namErr N x) N [] l).2.getD i e0))) := by
  obtain ⟨g, hg⟩ : ∃ g, l.length < g := ⟨l.length + 1, by omega⟩
  obtain ⟨f', hr, he⟩ := first_loop (nm := id) (F := fun N _ x => namErr N x) (N := N) (c := busC) (d0 := e0) (l := l) (L := fun m mp n f i => L26_2 Aae l s0 (Aak N) g m mp n f i) (HX := fun mp n f => H1' s0 mp n f)
    (fun m k before f hk hb hr => by
      refine ⟨_, f, hr.app' rfl, hr, ?_⟩
      rw [st26_2]
      simp only [lt1 hk, ge0, tn, Bool.and_self, cond_true, nx hk (by omega), assoc_mapOf, appOk (k := k) (b := 16) (by omega) (by omega)]
      unfold namErr
      simp only [id]
      cases Aae (l.getD k e0) with
      | false => rfl
      | true => cases inB (N ++ before.map id) (l.getD k e0) <;> rfl)
    (fun m mp n f => by
      rw [st26_2, lt0 (Nat.lt_irrefl _)]
      rfl) g 0 [] (fun _ => []) (by omega) (by omega) rfl (.nil _)
  have hev := ev26 Aae l s0 (Aak N) g
  simp only [List.map_nil, List.append_nil, List.drop_zero] at he hr
  refine (cx_of s26.ok Tryz.func51 b26 rfl (hev.trans he)).le (.refl _) ?_
  exact .cons (.refl _) (.cons (.refl _) (.cons hr.ble .nil))
theorem c28 (l : List SLine) (s0 : ByteArray) (ka : Nat) (ga : Nat → List D) (N : List ByteArray) (hl : l.length ≤ 900) :
    CX Tryz.prog 53 [.c (.d (Aai l)), fnOf 54] (H2 s0 ka ga (Aak N)) (vI (tLine N l).1)
      (H2' s0 ka ga (Aak (N ++ (tLine N l).2.map SLine.name)) (tLine N l).2.length (fun i => Aao ((tLine N l).2.getD i Aah))) := by
  obtain ⟨g, hg⟩ : ∃ g, l.length < g := ⟨l.length + 1, by omega⟩
  obtain ⟨f', hr, he⟩ := first_loop (nm := SLine.name) (F := fun N _ x => lineErr N x) (N := N) (c := Aao) (d0 := Aah) (l := l) (L := fun m mp n f i => L28_2 Aae l s0 ka ga (Aak N) g m mp n f i) (HX := fun mp n f => H2' s0 ka ga mp n f)
    (fun m k before f hk hb hr => by
      refine ⟨_, f, hr.app' rfl, hr, ?_⟩
      rw [st28_2]
      simp only [lt1 hk, ge0, tn, Bool.and_self, cond_true, nx hk (by omega), assoc_mapOf, appOk (k := k) (b := 48) (by omega) (by omega), fNot, fAnd]
      unfold lineErr namErr impOk Aaa
      cases Aae (l.getD k Aah).name with
      | false => rfl
      | true =>
        cases inB (N ++ before.map SLine.name) (l.getD k Aah).name with
        | true => rfl
        | false =>
          generalize decide ((l.getD k Aah).r1 ≥ 0) = b1
          generalize decide ((l.getD k Aah).r1 ≤ 1000) = b2
          generalize decide ((l.getD k Aah).x1 ≥ 1) = b3
          generalize decide ((l.getD k Aah).x1 ≤ 1000) = b4
          generalize decide ((l.getD k Aah).r0 ≥ 0) = b5
          generalize decide ((l.getD k Aah).r0 ≤ 1000) = b6
          generalize decide ((l.getD k Aah).x0 ≥ 1) = b7
          generalize decide ((l.getD k Aah).x0 ≤ 1000) = b8
          cases b1 <;> cases b2 <;> cases b3 <;> cases b4 <;> first | rfl | (cases b5 <;> cases b6 <;> cases b7 <;> cases b8 <;> rfl))
    (fun m mp n f => by
      rw [st28_2, lt0 (Nat.lt_irrefl _)]
      rfl) g 0 [] (fun _ => []) (by omega) (by omega) rfl (.nil _)
  have hev := ev28 Aae l s0 ka ga (Aak N) g
  simp only [List.map_nil, List.append_nil, List.drop_zero] at he hr
  refine (cx_of s28.ok Tryz.func53 b28 rfl (hev.trans he)).le (.refl _) ?_
  exact .cons (.refl _) (.cons (.refl _) (.cons (.refl _) (.cons hr.ble .nil)))
theorem c30 (l : List SSrc) (s0 : ByteArray) (ka : Nat) (ga : Nat → List D) (kb : Nat) (gb : Nat → List D) (N : List ByteArray) (hl : l.length ≤ 900) :
    CX Tryz.prog 55 [.c (.d (srcsD l)), fnOf 56] (H3 s0 ka ga kb gb (Aak N)) (vI (tSrc N l).1)
      (H3' s0 ka ga kb gb (Aak (N ++ (tSrc N l).2.map SSrc.name)) (tSrc N l).2.length (fun i => Aan ((tSrc N l).2.getD i src0))) := by
  obtain ⟨g, hg⟩ : ∃ g, l.length < g := ⟨l.length + 1, by omega⟩
  obtain ⟨f', hr, he⟩ := first_loop (nm := SSrc.name) (F := fun N _ x => srcErr N x) (N := N) (c := Aan) (d0 := src0) (l := l) (L := fun m mp n f i => L30_2 Aae l s0 ka ga kb gb (Aak N) g m mp n f i) (HX := fun mp n f => H3' s0 ka ga kb gb mp n f)
    (fun m k before f hk hb hr => by
      refine ⟨_, f, hr.app' rfl, hr, ?_⟩
      rw [st30_2]
      simp only [lt1 hk, ge0, tn, Bool.and_self, cond_true, nx hk (by omega), assoc_mapOf, appOk (k := k) (b := 56) (by omega) (by omega), fNot, fAnd]
      unfold srcErr namErr impOk Aaa
      cases Aae (l.getD k src0).name with
      | false => rfl
      | true =>
        cases inB (N ++ before.map SSrc.name) (l.getD k src0).name with
        | true => rfl
        | false =>
          generalize decide ((l.getD k src0).emf ≥ 1) = a1
          generalize decide ((l.getD k src0).emf ≤ 1000000) = a2
          generalize decide ((l.getD k src0).r1 ≥ 0) = b1
          generalize decide ((l.getD k src0).r1 ≤ 1000) = b2
          generalize decide ((l.getD k src0).x1 ≥ 1) = b3
          generalize decide ((l.getD k src0).x1 ≤ 1000) = b4
          generalize decide ((l.getD k src0).r0 ≥ 0) = b5
          generalize decide ((l.getD k src0).r0 ≤ 1000) = b6
          generalize decide ((l.getD k src0).x0 ≥ 1) = b7
          generalize decide ((l.getD k src0).x0 ≤ 1000) = b8
          cases a1 <;> cases a2 <;> first | rfl | (cases b1 <;> cases b2 <;> cases b3 <;> cases b4 <;> first | rfl | (cases b5 <;> cases b6 <;> cases b7 <;> cases b8 <;> rfl)))
    (fun m mp n f => by
      rw [st30_2, lt0 (Nat.lt_irrefl _)]
      rfl) g 0 [] (fun _ => []) (by omega) (by omega) rfl (.nil _)
  have hev := ev30 Aae l s0 ka ga kb gb (Aak N) g
  simp only [List.map_nil, List.append_nil, List.drop_zero] at he hr
  refine (cx_of s30.ok Tryz.func55 b30 rfl (hev.trans he)).le (.refl _) ?_
  exact .cons (.refl _) (.cons (.refl _) (.cons (.refl _) (.cons (.refl _) (.cons hr.ble .nil))))
end Go.Proofs.YtmnfibmlhmeheaaGreatDoor.st
namespace Go.Proofs.YtmnfibmlhmeheaaGreatDoor.st
open Go.RowKit Go.Eb
abbrev lI (e : Int) (H : Hp) : Option (T (AV × Hp)) := some (.leaf (vI e, H))
theorem w1 {k : Nat} (h : k ≤ 9223372036854775807) : IntKind.wrap IntKind.i64 ((k : Int) - 1) = (k : Int) - 1 := wrap_id (by omega) (by omega)
theorem len_lt1 (n : Nat) : decide ((n : Int) < 1) = decide (n < 1) := by rw [decide_eq_decide]; omega
theorem len_gt2 (n : Nat) : decide ((n : Int) > 2) = decide (2 < n) := by rw [decide_eq_decide]; omega
theorem len_ne2 (n : Nat) : ((n : Int) != 2) = (n != 2) := by
  rw [Bool.eq_iff_iff]; simp only [bne_iff_ne]; omega
theorem gt0 (k : Nat) : decide ((k : Int) > 0) = decide (0 < k) := by rw [decide_eq_decide]; omega
section
variable (x : SBay) (s0 : ByteArray) (ka : Nat) (ga : Nat → List D) (kb : Nat) (gb : Nat → List D) (kc : Nat) (gc : Nat → List D) (kd : Nat) (gd : Nat → List D) (mpa : List (Value × Value))
def prevB (l : List SLink) : Nat → Option Int
  | 0 => none
  | k + 1 => some (l.getD k link0).bus
theorem lp55 (hka : ka ≤ 9223372036854775807) (hl : x.links.length ≤ 9223372036854775807) (g : Nat) : ∀ (m k : Nat), k ≤ x.links.length → x.links.length - k < m →
    L55_5 x s0 ka ga kb gb kc gc kd gd mpa g m k = lI (linkErr ka x.kind (prevB x.links k) (x.links.drop k)) (H5 s0 ka ga kb gb kc gc kd gd mpa)
  | 0, k, _, h => by omega
  | m + 1, k, hk, h => by
    rw [st55_5]
    by_cases hlt : k < x.links.length
    · have ih := lp55 hka hl g m (k + 1) (by omega) (by omega)
      rw [drop_at' (d := link0) hlt]
      simp only [lt1 hlt, ge0, tn, Bool.and_self, cond_true, nx hlt (by omega), ih, w1 hka, linkErr, Aaa]
      cases k with
      | zero =>
        simp only [prevB, List.getD_cons_zero]
        generalize decide ((x.links.getD 0 link0).bus ≥ 0) = b1
        generalize decide ((x.links.getD 0 link0).bus ≤ (ka : Int) - 1) = b2
        generalize ((x.links.getD 0 link0).pos != 1) = b3
        generalize ((x.links.getD 0 link0).pos != 0) = b4
        generalize (x.kind == 3) = b5
        cases b1 <;> cases b2 <;> cases b3 <;> cases b4 <;> cases b5 <;> rfl
      | succ k =>
        have e1 : IntKind.wrap IntKind.i64 (((k + 1 : Nat) : Int) - 1) = (k : Int) := by rw [wrap_id (by omega) (by omega)]; omega
        have e2 : decide (((k + 1 : Nat) : Int) > 0) = true := by rw [gt0]; simp
        have e3 : decide ((k : Int) < (x.links.length : Int)) = true := lt1 (by omega)
        have e4 : (some (x.links.getD k link0).bus == some (x.links.getD (k + 1) link0).bus) = ((x.links.getD k link0).bus == (x.links.getD (k + 1) link0).bus) := rfl
        simp only [prevB, e1, e2, e3, e4, ge0, tn, Bool.and_self, cond_true]
        generalize decide ((x.links.getD (k + 1) link0).bus ≥ 0) = b1
        generalize decide ((x.links.getD (k + 1) link0).bus ≤ (ka : Int) - 1) = b2
        generalize ((x.links.getD (k + 1) link0).pos != 1) = b3
        generalize ((x.links.getD (k + 1) link0).pos != 0) = b4
        generalize (x.kind == 3) = b5
        generalize ((x.links.getD k link0).bus == (x.links.getD (k + 1) link0).bus) = b6
        cases b1 <;> cases b2 <;> cases b3 <;> cases b4 <;> cases b5 <;> cases b6 <;> rfl
    · rw [lt0 hlt, List.drop_of_length_le (by omega)]
      rfl
theorem c55 (hka : ka ≤ 9223372036854775807) (hl : x.links.length ≤ 9223372036854775807) : CX Tryz.prog 106 [.c (.ptr 0 0), aBay x] (H5 s0 ka ga kb gb kc gc kd gd mpa) (vI (linksErr ka x)) (H5 s0 ka ga kb gb kc gc kd gd mpa) := by
  obtain ⟨g, hg⟩ : ∃ g, x.links.length < g := ⟨x.links.length + 1, by omega⟩
  refine cx_of (sWi.ok) Tryz.func106 b55 rfl ((ev55 x s0 ka ga kb gb kc gc kd gd mpa g).trans ?_)
  have := lp55 x s0 ka ga kb gb kc gc kd gd mpa hka hl g g 0 (by omega) (by omega)
  have e0 : L55_5 x s0 ka ga kb gb kc gc kd gd mpa g g 0 = lI (linkErr ka x.kind none x.links) (H5 s0 ka ga kb gb kc gc kd gd mpa) := this
  rw [e0, len_lt1, len_gt2, len_ne2]
  unfold linksErr
  generalize decide (x.links.length < 1) = b1
  generalize decide (2 < x.links.length) = b2
  generalize (x.kind == 3) = b3
  generalize (x.links.length != 2) = b4
  cases b1 <;> cases b2 <;> cases b3 <;> cases b4 <;> rfl
end
theorem s54 : OrcS Tryz.prog o54 := .cons (.inl sWi Tryz.func103 (by kernel_rfl)) sWi
theorem c54 (x : SBay) : CX Tryz.prog 105 [aBay x] [] (vB (rngOk x)) [] := by
  refine cx_of s54.ok Tryz.func105 b54 rfl ((ev54 x 1).trans ?_)
  simp only [fNot, bAnd, neN, Bool.and_true]
  unfold rngOk impOk Aaa
  cases (x.kind == 3) with
  | true =>
    simp only [cond_true]
    cases (x.kind == 1) <;> simp only [cond_true, cond_false, Bool.and_assoc, bAnd]
  | false =>
    simp only [cond_false]
    cases (x.kind == 1) <;> simp only [cond_true, cond_false, Bool.and_assoc, bAnd]
def eqs (a : A5) : Bool := Nat.beq a.1.2.1 a.2.1.1 && (Nat.beq a.1.2.2.1 a.2.2.1.1 && (Nat.beq a.1.2.2.2.1 a.2.2.2.1.1 && (Nat.beq a.1.2.2.2.2.1 a.2.2.2.2.1.1 && (Nat.ble a.1.2.1 900 && (Nat.ble a.1.2.2.1 900 && (Nat.ble a.1.2.2.2.1 900 && Nat.ble a.1.2.2.2.2.1 900))))))
theorem enc55 (a : (Unit × RBay × Unit) × A5) (h : eqs a.2 = true) : (d55.enc a).2 = H5 a.2.1.1 a.2.2.1.1 a.2.2.1.2 a.2.2.2.1.1 a.2.2.2.1.2 a.2.2.2.2.1.1 a.2.2.2.2.1.2 a.2.2.2.2.2.1.1 a.2.2.2.2.2.1.2 a.2.2.2.2.2.2.1 ∧ (a.2.2.1.1 ≤ 900 ∧ a.2.2.2.1.1 ≤ 900 ∧ a.2.2.2.2.1.1 ≤ 900 ∧ a.2.2.2.2.2.1.1 ≤ 900) := by
  unfold eqs at h
  simp only [Bool.and_eq_true] at h
  obtain ⟨h1, h2, h3, h4, h5, h6, h7, h8⟩ := h
  have e1 := Nat.eq_of_beq_eq_true h1
  have e2 := Nat.eq_of_beq_eq_true h2
  have e3 := Nat.eq_of_beq_eq_true h3
  have e4 := Nat.eq_of_beq_eq_true h4
  have g5 := Nat.le_of_ble_eq_true h5
  have g6 := Nat.le_of_ble_eq_true h6
  have g7 := Nat.le_of_ble_eq_true h7
  have g8 := Nat.le_of_ble_eq_true h8
  refine ⟨?_, by omega, by omega, by omega, by omega⟩
  show [(0, Blk.cells [.d (dS a.2.1.1), .row 1 1 a.2.1.2.1, .row 2 5 a.2.1.2.2.1, .row 3 6 a.2.1.2.2.2.1, .row 4 12 a.2.1.2.2.2.2.1, .mp 5] 150), (1, .row a.2.2.1.1 a.2.2.1.2 1 9), (2, .row a.2.2.2.1.1 a.2.2.2.1.2 5 98), (3, .row a.2.2.2.2.1.1 a.2.2.2.2.1.2 6 101), (4, .row a.2.2.2.2.2.1.1 a.2.2.2.2.2.1.2 12 69), (5, .map 0 a.2.2.2.2.2.2.1)] = _
  rw [e1, e2, e3, e4]
noncomputable def ok33 (a : (Unit × RBay × Unit) × A5) : Bool := okRB a.1.2.1 && eqs a.2
noncomputable def lk33 (a : (Unit × RBay × Unit) × A5) : Int := linksErr a.2.2.1.1 (rbay a.1.2.1)
theorem okRB_len {x : RBay} (h : okRB x = true) : (rbay x).links.length ≤ 9223372036854775807 := by
  unfold okRB okLk at h
  simp only [Bool.and_eq_true, decide_eq_true_eq] at h
  exact h.2
theorem s33 : OrcS Tryz.prog (o33 Aae okRB (fun a => rngOk (rbay a)) ok33 lk33) := by
  refine .cons (.d fun a ha => ?_) (.cons (.d fun a ha => ?_) sIm)
  · unfold ok33 at ha
    simp only [Bool.and_eq_true] at ha
    obtain ⟨e, h1, _⟩ := enc55 a ha.2
    rw [e]
    exact (c55 (rbay a.1.2.1) _ _ _ _ _ _ _ _ _ _ (by omega) (okRB_len ha.1)).ge (.cons (.refl _) (.cons (bay_le _ ha.1) .nil)) (.refl _)
  · exact (c54 (rbay a.1.1)).ge (.cons (bay_le _ ha) .nil) (.refl _)
section
variable (x : SBay) (s0 : ByteArray) (ka : Nat) (ga : Nat → List D) (kb : Nat) (gb : Nat → List D) (kc : Nat) (gc : Nat → List D) (bs : List SBay) (mpa : List (Value × Value))
abbrev cnB (bs : List SBay) : Nat → List D := fun i => bayC (bs.getD i bay0)
def H33 : Hp := [(0, .cells [.d (dS s0), .row 1 1 ka, .row 2 5 kb, .row 3 6 kc, .row 6 12 (bs.length + 1), .mp 5] 150), (1, .row ka ga 1 9), (2, .row kb gb 5 98), (3, .row kc gc 6 101), (4, .dead), (5, .map 0 ((.string x.name, .bool true) :: mpa)), (6, .row (bs.length + 1) (appF bs.length (cnB bs) (Aaf (bayC x) 12)) 12 69)]
def aft33 : Option (T (AV × Hp)) := bif linksErr ka x != 0 then lI (linksErr ka x) (H5 s0 ka ga kb gb kc gc bs.length (cnB bs) mpa) else lI 0 (H33 x s0 ka ga kb gb kc gc bs mpa)
theorem lp33 (hka : ka ≤ 900) (hkb : kb ≤ 900) (hkc : kc ≤ 900) (hbs : bs.length ≤ 900) (hl : x.links.length ≤ 9223372036854775807) (g : Nat) : ∀ (m k : Nat), k ≤ bs.length → bs.length - k < m →
    L33_18 Aae okRB (fun a => rngOk (rbay a)) ok33 lk33 x s0 ka ga kb gb kc gc bs mpa g m k = bif (bs.drop k).any (clash x) then lI 12 (H5 s0 ka ga kb gb kc gc bs.length (cnB bs) mpa) else aft33 x s0 ka ga kb gb kc gc bs mpa
  | 0, k, _, h => by omega
  | m + 1, k, hk, h => by
    rw [st33_18]
    by_cases hlt : k < bs.length
    · have ih := lp33 hka hkb hkc hbs hl g m (k + 1) (by omega) (by omega)
      rw [drop_at' (d := bay0) hlt]
      simp only [lt1 hlt, ge0, tn, Bool.and_self, cond_true, nx hlt (by omega), ih, List.any_cons, clash]
      generalize (x.kind != 3) = b1
      generalize (x.kind == (bs.getD k bay0).kind) = b2
      generalize (x.off == (bs.getD k bay0).off) = b3
      generalize (x.fin == (bs.getD k bay0).fin) = b4
      cases b1 <;> cases b2 <;> cases b3 <;> cases b4 <;> rfl
    · rw [lt0 hlt, List.drop_of_length_le (by omega)]
      have hok : ok33 (((), bayR x, ()), (s0, ka, kb, kc, bs.length, (), ()), (ka, ga), (kb, gb), (kc, gc), (bs.length, cnB bs), mpa, ()) = true := by
        unfold ok33
        have e1 : okRB (bayR x) = true := okLk_links hl
        have e2 : eqs ((s0, ka, kb, kc, bs.length, (), ()), (ka, ga), (kb, gb), (kc, gc), (bs.length, cnB bs), mpa, ()) = true := by
          unfold eqs
          simp only [Nat.beq_refl, Bool.true_and, bleD, decide_eq_true hka, decide_eq_true hkb, decide_eq_true hkc, decide_eq_true hbs]
        simp only [e1, e2, Bool.and_self]
      have hlk : lk33 (((), bayR x, ()), (s0, ka, kb, kc, bs.length, (), ()), (ka, ga), (kb, gb), (kc, gc), (bs.length, cnB bs), mpa, ()) = linksErr ka x := by
        unfold lk33
        simp only [rbay_bayR]
      simp only [cond_false, List.any_nil]
      show (bif ok33 (((), bayR x, ()), (s0, ka, kb, kc, bs.length, (), ()), (ka, ga), (kb, gb), (kc, gc), (bs.length, cnB bs), mpa, ()) then (bif lk33 (((), bayR x, ()), (s0, ka, kb, kc, bs.length, (), ()), (ka, ga), (kb, gb), (kc, gc), (bs.length, cnB bs), mpa, ()) != 0 then
        lI (lk33 (((), bayR x, ()), (s0, ka, kb, kc, bs.length, (), ()), (ka, ga), (kb, gb), (kc, gc), (bs.length, cnB bs), mpa, ())) (H5 s0 ka ga kb gb kc gc bs.length (cnB bs) mpa) else
        (bif decide ((bs.length + 1) * 120 ≤ 140737488355328) && decide (bs.length + 1 ≤ 9223372036854775807) then lI 0 (H33 x s0 ka ga kb gb kc gc bs mpa) else none)) else none) = _
      rw [hok, hlk, appOk (k := bs.length) (b := 120) (by omega) (by omega)]
      unfold aft33
      cases (linksErr ka x != 0) <;> rfl
def r33 : Option (T (AV × Hp)) := bif bayErrD ka kb kc (boolOf (assoc mpa (.string x.name))) bs x != 0 then lI (bayErrD ka kb kc (boolOf (assoc mpa (.string x.name))) bs x) (H5 s0 ka ga kb gb kc gc bs.length (cnB bs) mpa) else lI 0 (H33 x s0 ka ga kb gb kc gc bs mpa)
theorem e33 (hka : ka ≤ 900) (hkb : kb ≤ 900) (hkc : kc ≤ 900) (hbs : bs.length ≤ 900) (hl : x.links.length ≤ 9223372036854775807) (g : Nat) (hg : bs.length < g) :
    Aal Tryz.prog (o33 Aae okRB (fun a => rngOk (rbay a)) ok33 lk33) ann33 g Tryz.f58 (Aad Tryz.f58) [.c (.ptr 0 0), aBay x] (H5 s0 ka ga kb gb kc gc bs.length (cnB bs) mpa) = r33 x s0 ka ga kb gb kc gc bs mpa := by
  refine (ev33 Aae okRB (fun a => rngOk (rbay a)) ok33 lk33 x s0 ka ga kb gb kc gc bs mpa g).trans ?_
  have hL := lp33 x s0 ka ga kb gb kc gc bs mpa hka hkb hkc hbs hl g g 0 (by omega) (by omega)
  have hL0 : L33_18 Aae okRB (fun a => rngOk (rbay a)) ok33 lk33 x s0 ka ga kb gb kc gc bs mpa g g 0 = bif bs.any (clash x) then lI 12 (H5 s0 ka ga kb gb kc gc bs.length (cnB bs) mpa) else aft33 x s0 ka ga kb gb kc gc bs mpa := hL
  have e1 : okRB (bayR x) = true := okLk_links hl
  have e2 : rngOk (rbay (bayR x)) = rngOk x := by rw [rbay_bayR]
  have e1' : okRB (x.name, x.kind, x.off, x.fin, x.zr, x.zx, linksD x.links, x.closed, x.ct, x.vt, x.sat, x.travel, ()) = true := e1
  have e2' : rngOk (rbay (x.name, x.kind, x.off, x.fin, x.zr, x.zx, linksD x.links, x.closed, x.ct, x.vt, x.sat, x.travel, ())) = rngOk x := e2
  have w0 : IntKind.wrap IntKind.i64 ((1 : Int) - 1) = (1 : Int) - 1 := by decide
  rw [hL0]
  simp only [e1', e2', w1 (show kb ≤ 9223372036854775807 by omega), w1 (show kc ≤ 9223372036854775807 by omega), w0, cond_true]
  unfold r33 bayErrD cntOf Aaa aft33
  cases Aae x.name with
  | false => rfl
  | true =>
    cases boolOf (assoc mpa (Value.string x.name)) with
    | true => rfl
    | false =>
      cases (x.kind == 1) with
      | true =>
        simp only [cond_true, cond_false, Bool.not_true]
        generalize decide (x.off ≥ 0) = b1
        generalize decide (x.off ≤ (kb : Int) - 1) = b2
        cases b1 <;> cases b2 <;> first | rfl | (cases rngOk x <;> first | rfl | (cases bs.any (clash x) <;> rfl))
      | false =>
        cases (x.kind == 2) with
        | true =>
          simp only [cond_true, cond_false, Bool.not_true]
          generalize decide (x.off ≥ 0) = b1
          generalize decide (x.off ≤ (kc : Int) - 1) = b2
          cases b1 <;> cases b2 <;> first | rfl | (cases rngOk x <;> first | rfl | (cases bs.any (clash x) <;> rfl))
        | false =>
          cases (x.kind == 3) with
          | true =>
            simp only [cond_true, cond_false, Bool.not_true]
            generalize decide (x.off ≥ 0) = b1
            generalize decide (x.off ≤ (1 : Int) - 1) = b2
            cases b1 <;> cases b2 <;> first | rfl | (cases rngOk x <;> first | rfl | (cases bs.any (clash x) <;> rfl))
          | false => rfl
end
end Go.Proofs.YtmnfibmlhmeheaaGreatDoor.st
