/-
  Check of the reference: its contract: the same law as the program's. No condition.
-/
import Derived.Test.YtngoglhlhlfknaaGreatSm
namespace Go.Proofs.YtngoglhlhlfknaaGreat.st
open Go.RowKit Go.Eb
set_option maxRecDepth 100000

section
variable (s : SSta) (h1 : s.buses.length ≤ 900) (h2 : s.lines.length ≤ 900) (h3 : s.srcs.length ≤ 900) (h4 : s.bays.length ≤ 900) (hlk : lksOk s.bays = true)
include h1 h2 h3 h4
theorem lp8_21 (g : Nat) (hg : 900 < g) : L8_21 Z8 s g g 0 = bif (tSrc (Nl s) s.srcs).1 != 0 then lI (tSrc (Nl s) s.srcs).1 [] else L8_29 Z8 s g g 0 := by
  have hh := chk_loop (nm := SSrc.name) (F := fun N _ x => srcErr N x) (N := Nl s) (d0 := src0) (l := s.srcs) (L := fun m i => L8_21 Z8 s g m i) (NX := L8_29 Z8 s g g 0)
    (fun m k hk => by
      have e1 := okn8 s h1 h2 h3 h4 s.buses.length s.lines.length k 0 (by omega) (by omega) (by omega) (by omega)
      have e2 := nm8 s s.buses.length s.lines.length k 0
      have e3 := okd8 s h1 h2 h3 h4 s.buses.length s.lines.length k 0 (by omega) (by omega) (by omega) (by omega) (s.srcs.getD k src0).name
      have en : namesOf s s.buses.length s.lines.length k 0 = Nl s ++ (s.srcs.take k).map SSrc.name := by unfold namesOf; simp
      simp only [staR, busesD, linesD, srcsD, baysD, listD, Int.natCast_zero] at e1 e2
      simp only [busesD, listD] at e3
      rw [st8_21]
      simp only [lt1 hk, ge0, tn, Bool.and_self, cond_true, nx hk (by omega), e1, e2, e3]
      have e4 := nd8 (namesOf s s.buses.length s.lines.length k 0) (s.srcs.getD k src0).name
      simp only [busesD, listD] at e4
      simp only [e4]
      simp only [en, srcErr, impOk, within, fNot, fAnd]
      generalize namErr (Nl s ++ (s.srcs.take k).map SSrc.name) (s.srcs.getD k src0).name = a
      generalize decide ((s.srcs.getD k src0).emf ≥ 1) = a1
      generalize decide ((s.srcs.getD k src0).emf ≤ 1000000) = a2
      generalize decide ((s.srcs.getD k src0).r1 ≥ 0) = b1
      generalize decide ((s.srcs.getD k src0).r1 ≤ 1000) = b2
      generalize decide ((s.srcs.getD k src0).x1 ≥ 1) = b3
      generalize decide ((s.srcs.getD k src0).x1 ≤ 1000) = b4
      generalize decide ((s.srcs.getD k src0).r0 ≥ 0) = b5
      generalize decide ((s.srcs.getD k src0).r0 ≤ 1000) = b6
      generalize decide ((s.srcs.getD k src0).x0 ≥ 1) = b7
      generalize decide ((s.srcs.getD k src0).x0 ≤ 1000) = b8
      unfold bne
      cases ha : (a == 0) with
      | false => simp only [ha, cond_true, cond_false, Bool.not_true, Bool.not_false]
      | true =>
        simp only [ha, cond_true, cond_false, Bool.not_true, Bool.not_false]
        cases a1 <;> cases a2 <;> first | rfl | (cases b1 <;> cases b2 <;> cases b3 <;> cases b4 <;> first | rfl | (cases b5 <;> cases b6 <;> cases b7 <;> cases b8 <;> rfl)))
    (fun m => by rw [st8_21, lt0 (Nat.lt_irrefl _)]; rfl) g 0 (by omega) (by omega)
  simp only [List.take_zero, List.drop_zero] at hh
  exact hh
theorem lp8_13 (g : Nat) (hg : 900 < g) : L8_13 Z8 s g g 0 = bif (tLine (Nb s) s.lines).1 != 0 then lI (tLine (Nb s) s.lines).1 [] else L8_21 Z8 s g g 0 := by
  have hh := chk_loop (nm := SLine.name) (F := fun N _ x => lineErr N x) (N := Nb s) (d0 := line0) (l := s.lines) (L := fun m i => L8_13 Z8 s g m i) (NX := L8_21 Z8 s g g 0)
    (fun m k hk => by
      have e1 := okn8 s h1 h2 h3 h4 s.buses.length k 0 0 (by omega) (by omega) (by omega) (by omega)
      have e2 := nm8 s s.buses.length k 0 0
      have e3 := okd8 s h1 h2 h3 h4 s.buses.length k 0 0 (by omega) (by omega) (by omega) (by omega) (s.lines.getD k line0).name
      have en : namesOf s s.buses.length k 0 0 = Nb s ++ (s.lines.take k).map SLine.name := by unfold namesOf; simp
      simp only [staR, busesD, linesD, srcsD, baysD, listD, Int.natCast_zero] at e1 e2
      simp only [busesD, listD] at e3
      rw [st8_13]
      simp only [lt1 hk, ge0, tn, Bool.and_self, cond_true, nx hk (by omega), e1, e2, e3]
      have e4 := nd8 (namesOf s s.buses.length k 0 0) (s.lines.getD k line0).name
      simp only [busesD, listD] at e4
      simp only [e4]
      simp only [en, lineErr, impOk, within, fNot, fAnd]
      generalize namErr (Nb s ++ (s.lines.take k).map SLine.name) (s.lines.getD k line0).name = a
      generalize decide ((s.lines.getD k line0).r1 ≥ 0) = b1
      generalize decide ((s.lines.getD k line0).r1 ≤ 1000) = b2
      generalize decide ((s.lines.getD k line0).x1 ≥ 1) = b3
      generalize decide ((s.lines.getD k line0).x1 ≤ 1000) = b4
      generalize decide ((s.lines.getD k line0).r0 ≥ 0) = b5
      generalize decide ((s.lines.getD k line0).r0 ≤ 1000) = b6
      generalize decide ((s.lines.getD k line0).x0 ≥ 1) = b7
      generalize decide ((s.lines.getD k line0).x0 ≤ 1000) = b8
      unfold bne
      cases ha : (a == 0) with
      | false => simp only [ha, cond_true, cond_false, Bool.not_true, Bool.not_false]
      | true =>
        simp only [ha, cond_true, cond_false, Bool.not_true, Bool.not_false]
        cases b1 <;> cases b2 <;> cases b3 <;> cases b4 <;> first | rfl | (cases b5 <;> cases b6 <;> cases b7 <;> cases b8 <;> rfl))
    (fun m => by rw [st8_13, lt0 (Nat.lt_irrefl _)]; rfl) g 0 (by omega) (by omega)
  simp only [List.take_zero, List.drop_zero] at hh
  exact hh
theorem st7' (g m k : Nat) (hk : k < s.buses.length) : L8_7 Z8 s g (m + 1) k = bif namErr (s.buses.take k) (s.buses.getD k e0) != 0 then lI (namErr (s.buses.take k) (s.buses.getD k e0)) [] else L8_7 Z8 s g m ((k + 1 : Nat) : Int) := by
  have e1 := okn8 s h1 h2 h3 h4 k 0 0 0 (by omega) (by omega) (by omega) (by omega)
  have e2 := nm8 s k 0 0 0
  have e3 := okd8 s h1 h2 h3 h4 k 0 0 0 (by omega) (by omega) (by omega) (by omega) (s.buses.getD k e0)
  have en : namesOf s k 0 0 0 = s.buses.take k := by unfold namesOf; simp
  simp only [staR, busesD, linesD, srcsD, baysD, listD, Int.natCast_zero] at e1 e2
  simp only [busesD, listD] at e3
  rw [st8_7]
  simp only [lt1 hk, ge0, tn, Bool.and_self, cond_true, e1, e2]
  rw [nx hk (by omega), e3]
  have e4 := nd8 (namesOf s k 0 0 0) (s.buses.getD k e0)
  simp only [busesD, listD] at e4
  simp only [e4, cond_true]
  simp only [en]
theorem lp8_7 (g : Nat) (hg : 900 < g) : L8_7 Z8 s g g 0 = bif (tBus s.buses).1 != 0 then lI (tBus s.buses).1 [] else L8_13 Z8 s g g 0 := by
  have hh := chk_loop (nm := id) (F := fun N _ x => namErr N x) (N := []) (d0 := e0) (l := s.buses) (L := fun m i => L8_7 Z8 s g m i) (NX := L8_13 Z8 s g g 0)
    (fun m k hk => by
      have := st7' s h1 h2 h3 h4 g m k hk
      simp only [List.nil_append, List.map_id]
      exact this)
    (fun m => by rw [st8_7, lt0 (Nat.lt_irrefl _)]; simp only [cond_false]) g 0 (by omega) (by omega)
  simp only [List.take_zero, List.drop_zero] at hh
  exact hh
end

theorem c8 (s : SSta) (hlk : lksOk s.bays = true) : CX Tryz.prog 9 [aSta s] [] (vI (chkSta s)) [] := by
  obtain ⟨g, hg⟩ : ∃ g, 900 < g := ⟨901, by omega⟩
  refine cx_of s8.ok Tryz.func9 b8 rfl ((ev8 Z8 s g).trans ?_)
  have t4 : ∀ n : Nat, decide ((n : Int) > 4) = decide (4 < n) := fun n => len_gt n 4
  have t6 : ∀ n : Nat, decide ((n : Int) > 6) = decide (6 < n) := fun n => len_gt n 6
  have t16 : ∀ n : Nat, decide ((n : Int) > 16) = decide (16 < n) := fun n => len_gt n 16
  have t1 : ∀ n : Nat, decide ((n : Int) < 1) = (n == 0) := fun n => by
    rw [Bool.eq_iff_iff, decide_eq_true_eq, beq_iff_eq]; omega
  simp only [t1, t4, t6, t16, fOr]
  unfold chkSta
  show (bif !nameOk s.name then _ else _) = _
  cases nameOk s.name with
  | false => rfl
  | true =>
    simp only [Bool.not_true, cond_false]
    have hcb : (s.buses.length == 0 || (decide (4 < s.buses.length) || (decide (6 < s.lines.length) || (decide (4 < s.srcs.length) || decide (16 < s.bays.length))))) = cntBad s := rfl
    rw [hcb]
    cases hc : cntBad s with
    | true => rfl
    | false =>
      simp only [cond_false]
      unfold cntBad at hc
      simp only [Bool.or_eq_false_iff, decide_eq_false_iff_not] at hc
      obtain ⟨_, h4, h6, h4', h16⟩ := hc
      rw [lp8_7 s (by omega) (by omega) (by omega) (by omega) g hg, lp8_13 s (by omega) (by omega) (by omega) (by omega) g hg, lp8_21 s (by omega) (by omega) (by omega) (by omega) g hg, lp8_29 s (by omega) (by omega) (by omega) (by omega) hlk g hg]
      cases ((tBus s.buses).1 != 0) with
      | true => rfl
      | false =>
        cases ((tLine s.buses s.lines).1 != 0) with
        | true => rfl
        | false =>
          cases ((tSrc (s.buses ++ s.lines.map SLine.name) s.srcs).1 != 0) <;> rfl
end Go.Proofs.YtngoglhlhlfknaaGreat.st
