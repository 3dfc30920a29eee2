/-
  Check of the program: its contract. No condition.
-/
import Derived.Test.YtngoglhlhlfknaaGreatZOs
import Derived.Test.YtngoglhlhlfknaaGreatSg
namespace Go.Proofs.YtngoglhlhlfknaaGreat.st
open Go.RowKit Go.Eb
set_option maxRecDepth 100000

noncomputable abbrev u1 (a : A26) := takeN id (fun N _ x => namErr N x) (theM a.2.2.1) [] (theE busesD a.1.1)
noncomputable abbrev u2 (a : A28) := tLine (theM a.2.2.2.1) (theE linesD a.1.1)
noncomputable abbrev u3 (a : A30) := tSrc (theM a.2.2.2.2.1) (theE srcsD a.1.1)
noncomputable abbrev u4 (a : A32) := tBay a.2.2.1.1 a.2.2.2.1.1 a.2.2.2.2.1.1 (theM a.2.2.2.2.2.1) (theE baysD a.1.1)
noncomputable def Z12 : K12 where
  nk := nameOk
  ok1 a := okE busesD a.1.1 && (decide ((theE busesD a.1.1).length ≤ 900) && okM a.2.2.1)
  e1 a := (u1 a).1
  m1 a := mapOf (theM a.2.2.1 ++ (u1 a).2.map id)
  n1 a := (u1 a).2.length
  f1 a := fun i => busC ((u1 a).2.getD i e0)
  ok2 a := okE linesD a.1.1 && (decide ((theE linesD a.1.1).length ≤ 900) && (okM a.2.2.2.1 && Nat.beq a.2.1.2.1 a.2.2.1.1))
  e2 a := (u2 a).1
  m2 a := mapOf (theM a.2.2.2.1 ++ (u2 a).2.map SLine.name)
  n2 a := (u2 a).2.length
  f2 a := fun i => lineC ((u2 a).2.getD i line0)
  ok3 a := okE srcsD a.1.1 && (decide ((theE srcsD a.1.1).length ≤ 900) && (okM a.2.2.2.2.1 && (Nat.beq a.2.1.2.1 a.2.2.1.1 && Nat.beq a.2.1.2.2.1 a.2.2.2.1.1)))
  e3 a := (u3 a).1
  m3 a := mapOf (theM a.2.2.2.2.1 ++ (u3 a).2.map SSrc.name)
  n3 a := (u3 a).2.length
  f3 a := fun i => srcC' ((u3 a).2.getD i src0)
  ok4 a := okE baysD a.1.1 && (decide ((theE baysD a.1.1).length ≤ 900) && (okM a.2.2.2.2.2.1 && (Nat.beq a.2.1.2.1 a.2.2.1.1 && (Nat.beq a.2.1.2.2.1 a.2.2.2.1.1 && (Nat.beq a.2.1.2.2.2.1 a.2.2.2.2.1.1 && (Nat.ble a.2.2.1.1 900 && (Nat.ble a.2.2.2.1.1 900 && (Nat.ble a.2.2.2.2.1.1 900 && lksOk (theE baysD a.1.1)))))))))
  e4 a := (u4 a).1
  m4 a := mapOf (theM a.2.2.2.2.2.1 ++ (u4 a).2.map SBay.name)
  n4 a := (u4 a).2.length
  f4 a := fun i => bayC ((u4 a).2.getD i bay0)

theorem s12 : OrcS Tryz.prog (o12 Z12) := by
  refine .cons (.p decS_ok c15) (.cons (.inl .nil Tryz.func51 (by kernel_rfl)) (.cons (.d fun a ha => ?_) (.cons (.d fun a ha => ?_) (.cons (.d fun a ha => ?_) (.cons (.d fun a ha => ?_) .nil)))))
  · have ha' : (okE busesD a.1.1 && (decide ((theE busesD a.1.1).length ≤ 900) && okM a.2.2.1)) = true := ha
    simp only [Bool.and_eq_true, decide_eq_true_eq] at ha'
    obtain ⟨h1, h2, h3⟩ := ha'
    have hm := theM_spec h3
    refine (c26 (theE busesD a.1.1) a.2.1.1 (theM a.2.2.1) h2).ge (.cons (theE_de h1) (.cons (.refl _) .nil)) ?_
    show Hle (H1 a.2.1.1 a.2.2.1) _
    rw [← hm]
    exact .refl _
  · have ha' : (okE linesD a.1.1 && (decide ((theE linesD a.1.1).length ≤ 900) && (okM a.2.2.2.1 && Nat.beq a.2.1.2.1 a.2.2.1.1))) = true := ha
    simp only [Bool.and_eq_true, decide_eq_true_eq] at ha'
    obtain ⟨h1, h2, h3, h4⟩ := ha'
    have hm := theM_spec h3
    have e4 := Nat.eq_of_beq_eq_true h4
    refine (c28 (theE linesD a.1.1) a.2.1.1 a.2.2.1.1 a.2.2.1.2 (theM a.2.2.2.1) h2).ge (.cons (theE_de h1) (.cons (.refl _) .nil)) ?_
    show Hle [(0, .cells [.d (dS a.2.1.1), .row 1 1 a.2.1.2.1, nilC, nilC, nilC, .mp 2] 157), (1, .row a.2.2.1.1 a.2.2.1.2 1 9), (2, .map 0 a.2.2.2.1)] _
    rw [← hm, e4]
    exact .refl _
  · have ha' : (okE srcsD a.1.1 && (decide ((theE srcsD a.1.1).length ≤ 900) && (okM a.2.2.2.2.1 && (Nat.beq a.2.1.2.1 a.2.2.1.1 && Nat.beq a.2.1.2.2.1 a.2.2.2.1.1)))) = true := ha
    simp only [Bool.and_eq_true, decide_eq_true_eq] at ha'
    obtain ⟨h1, h2, h3, h4, h5⟩ := ha'
    have hm := theM_spec h3
    have e4 := Nat.eq_of_beq_eq_true h4
    have e5 := Nat.eq_of_beq_eq_true h5
    refine (c30 (theE srcsD a.1.1) a.2.1.1 a.2.2.1.1 a.2.2.1.2 a.2.2.2.1.1 a.2.2.2.1.2 (theM a.2.2.2.2.1) h2).ge (.cons (theE_de h1) (.cons (.refl _) .nil)) ?_
    show Hle [(0, .cells [.d (dS a.2.1.1), .row 1 1 a.2.1.2.1, .row 2 5 a.2.1.2.2.1, nilC, nilC, .mp 3] 157), (1, .row a.2.2.1.1 a.2.2.1.2 1 9), (2, .row a.2.2.2.1.1 a.2.2.2.1.2 5 71), (3, .map 0 a.2.2.2.2.1)] _
    rw [← hm, e4, e5]
    exact .refl _
  · have ha' : (okE baysD a.1.1 && (decide ((theE baysD a.1.1).length ≤ 900) && (okM a.2.2.2.2.2.1 && (Nat.beq a.2.1.2.1 a.2.2.1.1 && (Nat.beq a.2.1.2.2.1 a.2.2.2.1.1 && (Nat.beq a.2.1.2.2.2.1 a.2.2.2.2.1.1 && (Nat.ble a.2.2.1.1 900 && (Nat.ble a.2.2.2.1.1 900 && (Nat.ble a.2.2.2.2.1.1 900 && lksOk (theE baysD a.1.1)))))))))) = true := ha
    simp only [Bool.and_eq_true, decide_eq_true_eq] at ha'
    obtain ⟨h1, h2, h3, h4, h5, h6, h7, h8, h9, h10⟩ := ha'
    have hm := theM_spec h3
    have e4 := Nat.eq_of_beq_eq_true h4
    have e5 := Nat.eq_of_beq_eq_true h5
    have e6 := Nat.eq_of_beq_eq_true h6
    refine (c32 (theE baysD a.1.1) a.2.1.1 a.2.2.1.1 a.2.2.1.2 a.2.2.2.1.1 a.2.2.2.1.2 a.2.2.2.2.1.1 a.2.2.2.2.1.2 (theM a.2.2.2.2.2.1) h2 (Nat.le_of_ble_eq_true h7) (Nat.le_of_ble_eq_true h8) (Nat.le_of_ble_eq_true h9) (lksOk_get h10)).ge (.cons (theE_de h1) (.cons (.refl _) .nil)) ?_
    show Hle [(0, .cells [.d (dS a.2.1.1), .row 1 1 a.2.1.2.1, .row 2 5 a.2.1.2.2.1, .row 3 6 a.2.1.2.2.2.1, nilC, .mp 4] 157), (1, .row a.2.2.1.1 a.2.2.1.2 1 9), (2, .row a.2.2.2.1.1 a.2.2.2.1.2 5 71), (3, .row a.2.2.2.2.1.1 a.2.2.2.2.1.2 6 74), (4, .map 0 a.2.2.2.2.2.1)] _
    rw [← hm, e4, e5, e6]
    exact .refl _

theorem len_eq0 (n : Nat) : ((n : Int) == 0) = (n == 0) := by cases n <;> rfl
theorem len_gt (n k : Nat) : decide ((n : Int) > (k : Int)) = decide (k < n) := by rw [decide_eq_decide]; omega

theorem c12 (s : SSta) (hlk : lksOk s.bays = true) : CX Tryz.prog 26 [aSta s] [] (vI (chkSta s)) [] := by
  refine cx_of s12.ok Tryz.func26 b12 rfl ((ev12 Z12 s 1).trans ?_)
  have t4 : ∀ n : Nat, decide ((n : Int) > 4) = decide (4 < n) := fun n => len_gt n 4
  have t6 : ∀ n : Nat, decide ((n : Int) > 6) = decide (6 < n) := fun n => len_gt n 6
  have t16 : ∀ n : Nat, decide ((n : Int) > 16) = decide (16 < n) := fun n => len_gt n 16
  simp only [len_eq0, t4, t6, t16, fOr]
  unfold chkSta
  show (bif !nameOk s.name then _ else _) = _
  cases nameOk s.name with
  | false => rfl
  | true =>
    simp only [Bool.not_true, cond_false]
    have hcb : (s.buses.length == 0 || (decide (4 < s.buses.length) || (decide (6 < s.lines.length) || (decide (4 < s.srcs.length) || decide (16 < s.bays.length))))) = cntBad s := rfl
    rw [hcb]
    cases hc : cntBad s with
    | true => rfl
    | false =>
      simp only [cond_false]
      unfold cntBad at hc
      simp only [Bool.or_eq_false_iff, decide_eq_false_iff_not] at hc
      obtain ⟨_, h4, h6, h4', h16⟩ := hc
      have M0 : okM ([] : List (Value × Value)) = true := okM_mapOf []
      have M0' : theM ([] : List (Value × Value)) = [] := theM_mapOf []
      obtain ⟨L1, L1'⟩ := the_list (sz := 1) (d0 := e0) busC_inj s.buses
      obtain ⟨L2, L2'⟩ := the_list (sz := 5) (d0 := line0) lineC_inj s.lines
      obtain ⟨L3, L3'⟩ := the_list (sz := 6) (d0 := src0) srcC_inj s.srcs
      obtain ⟨L4, L4'⟩ := the_list (sz := 12) (d0 := bay0) bayC_inj s.bays
      have x1 : ∀ y, Z12.ok1 ((busesD s.buses, (), ()), y, [], ()) = true := fun y => by
        show (okE busesD (busesD s.buses) && (decide ((theE busesD (busesD s.buses)).length ≤ 900) && okM [])) = true
        rw [L1, L1', M0, decide_eq_true (by omega)]; rfl
      have y1 : ∀ y, u1 ((busesD s.buses, (), ()), y, [], ()) = tBus s.buses := fun y => by
        show takeN id (fun N _ x => namErr N x) (theM []) [] (theE busesD (busesD s.buses)) = _
        rw [L1', M0']; rfl
      have z1 : ∀ y, Z12.e1 ((busesD s.buses, (), ()), y, [], ()) = (tBus s.buses).1 := fun y => by show (u1 _).1 = _; rw [y1]
      rw [x1, z1]
      simp only [cond_true]
      cases E1 : ((tBus s.buses).1 == 0) with
      | false =>
        have : ((tBus s.buses).1 != 0) = true := by unfold bne; rw [E1]; rfl
        rw [this]; rfl
      | true =>
        have E1' : (tBus s.buses).1 = 0 := by simpa using E1
        have N1 : (tBus s.buses).2 = s.buses := by have := takeN_ok (nm := id) (f := fun N _ x => namErr N x) (N := []) [] s.buses E1'; rw [List.nil_append] at this; exact this
        have n1 : ∀ y, Z12.n1 ((busesD s.buses, (), ()), y, [], ()) = s.buses.length := fun y => by show (u1 _).2.length = _; rw [y1, N1]
        have m1 : ∀ y, Z12.m1 ((busesD s.buses, (), ()), y, [], ()) = mapOf s.buses := fun y => by
          show mapOf (theM [] ++ (u1 _).2.map id) = _
          rw [y1, N1, M0']; simp
        rw [E1']
        simp only [cond_true, n1, m1, bne_self_eq_false, cond_false]
        have x2 : ∀ a b c d, Z12.ok2 ((linesD s.lines, (), ()), (a, s.buses.length, b), (s.buses.length, c), mapOf s.buses, d) = true := fun a b c d => by
          show (okE linesD (linesD s.lines) && (decide ((theE linesD (linesD s.lines)).length ≤ 900) && (okM (mapOf s.buses) && Nat.beq s.buses.length s.buses.length))) = true
          rw [L2, L2', okM_mapOf, decide_eq_true (by omega), Nat.beq_refl]; rfl
        have y2 : ∀ a b c d, u2 ((linesD s.lines, (), ()), (a, s.buses.length, b), (s.buses.length, c), mapOf s.buses, d) = tLine s.buses s.lines := fun a b c d => by
          show tLine (theM (mapOf s.buses)) (theE linesD (linesD s.lines)) = _
          rw [L2', theM_mapOf]
        have z2 : ∀ a b c d, Z12.e2 ((linesD s.lines, (), ()), (a, s.buses.length, b), (s.buses.length, c), mapOf s.buses, d) = (tLine s.buses s.lines).1 := fun a b c d => by show (u2 _).1 = _; rw [y2]
        rw [x2, z2]
        simp only [cond_true]
        cases E2 : ((tLine s.buses s.lines).1 == 0) with
        | false =>
          have : ((tLine s.buses s.lines).1 != 0) = true := by unfold bne; rw [E2]; rfl
          rw [this]; rfl
        | true =>
          have E2' : (tLine s.buses s.lines).1 = 0 := by simpa using E2
          have N2 : (tLine s.buses s.lines).2 = s.lines := by have := takeN_ok (nm := SLine.name) (f := fun N _ x => lineErr N x) (N := s.buses) [] s.lines E2'; rw [List.nil_append] at this; exact this
          have n2 : ∀ a b c d, Z12.n2 ((linesD s.lines, (), ()), (a, s.buses.length, b), (s.buses.length, c), mapOf s.buses, d) = s.lines.length := fun a b c d => by show (u2 _).2.length = _; rw [y2, N2]
          have m2 : ∀ a b c d, Z12.m2 ((linesD s.lines, (), ()), (a, s.buses.length, b), (s.buses.length, c), mapOf s.buses, d) = mapOf (s.buses ++ s.lines.map SLine.name) := fun a b c d => by
            show mapOf (theM (mapOf s.buses) ++ (u2 _).2.map SLine.name) = _
            rw [y2, N2, theM_mapOf]
          rw [E2']
          simp only [cond_true, n2, m2, bne_self_eq_false, cond_false]
          have x3 : ∀ a b c d e, Z12.ok3 ((srcsD s.srcs, (), ()), (a, s.buses.length, s.lines.length, b), (s.buses.length, c), (s.lines.length, d), mapOf (s.buses ++ s.lines.map SLine.name), e) = true := fun a b c d e => by
            show (okE srcsD (srcsD s.srcs) && (decide ((theE srcsD (srcsD s.srcs)).length ≤ 900) && (okM (mapOf (s.buses ++ s.lines.map SLine.name)) && (Nat.beq s.buses.length s.buses.length && Nat.beq s.lines.length s.lines.length)))) = true
            rw [L3, L3', okM_mapOf, decide_eq_true (by omega), Nat.beq_refl, Nat.beq_refl]; rfl
          have y3 : ∀ a b c d e, u3 ((srcsD s.srcs, (), ()), (a, s.buses.length, s.lines.length, b), (s.buses.length, c), (s.lines.length, d), mapOf (s.buses ++ s.lines.map SLine.name), e) = tSrc (s.buses ++ s.lines.map SLine.name) s.srcs := fun a b c d e => by
            show tSrc (theM (mapOf (s.buses ++ s.lines.map SLine.name))) (theE srcsD (srcsD s.srcs)) = _
            rw [L3', theM_mapOf]
          have z3 : ∀ a b c d e, Z12.e3 ((srcsD s.srcs, (), ()), (a, s.buses.length, s.lines.length, b), (s.buses.length, c), (s.lines.length, d), mapOf (s.buses ++ s.lines.map SLine.name), e) = (tSrc (s.buses ++ s.lines.map SLine.name) s.srcs).1 := fun a b c d e => by show (u3 _).1 = _; rw [y3]
          rw [x3, z3]
          simp only [cond_true]
          cases E3 : ((tSrc (s.buses ++ s.lines.map SLine.name) s.srcs).1 == 0) with
          | false =>
            have : ((tSrc (s.buses ++ s.lines.map SLine.name) s.srcs).1 != 0) = true := by unfold bne; rw [E3]; rfl
            rw [this]; rfl
          | true =>
            have E3' : (tSrc (s.buses ++ s.lines.map SLine.name) s.srcs).1 = 0 := by simpa using E3
            have N3 : (tSrc (s.buses ++ s.lines.map SLine.name) s.srcs).2 = s.srcs := by have := takeN_ok (nm := SSrc.name) (f := fun N _ x => srcErr N x) (N := s.buses ++ s.lines.map SLine.name) [] s.srcs E3'; rw [List.nil_append] at this; exact this
            have n3 : ∀ a b c d e, Z12.n3 ((srcsD s.srcs, (), ()), (a, s.buses.length, s.lines.length, b), (s.buses.length, c), (s.lines.length, d), mapOf (s.buses ++ s.lines.map SLine.name), e) = s.srcs.length := fun a b c d e => by show (u3 _).2.length = _; rw [y3, N3]
            have m3 : ∀ a b c d e, Z12.m3 ((srcsD s.srcs, (), ()), (a, s.buses.length, s.lines.length, b), (s.buses.length, c), (s.lines.length, d), mapOf (s.buses ++ s.lines.map SLine.name), e) = mapOf (s.buses ++ s.lines.map SLine.name ++ s.srcs.map SSrc.name) := fun a b c d e => by
              show mapOf (theM (mapOf (s.buses ++ s.lines.map SLine.name)) ++ (u3 _).2.map SSrc.name) = _
              rw [y3, N3, theM_mapOf]
            rw [E3']
            simp only [cond_true, n3, m3, bne_self_eq_false, cond_false]
            have x4 : ∀ a b c d e f, Z12.ok4 ((baysD s.bays, (), ()), (a, s.buses.length, s.lines.length, s.srcs.length, b), (s.buses.length, c), (s.lines.length, d), (s.srcs.length, e), mapOf (s.buses ++ s.lines.map SLine.name ++ s.srcs.map SSrc.name), f) = true := fun a b c d e f => by
              show (okE baysD (baysD s.bays) && (decide ((theE baysD (baysD s.bays)).length ≤ 900) && (okM (mapOf (s.buses ++ s.lines.map SLine.name ++ s.srcs.map SSrc.name)) && (Nat.beq s.buses.length s.buses.length && (Nat.beq s.lines.length s.lines.length && (Nat.beq s.srcs.length s.srcs.length && (Nat.ble s.buses.length 900 && (Nat.ble s.lines.length 900 && (Nat.ble s.srcs.length 900 && lksOk (theE baysD (baysD s.bays))))))))))) = true
              rw [L4, L4', okM_mapOf, decide_eq_true (by omega), Nat.beq_refl, Nat.beq_refl, Nat.beq_refl, bleD, bleD, bleD, decide_eq_true (by omega), decide_eq_true (by omega), decide_eq_true (by omega), hlk]; rfl
            have z4 : ∀ a b c d e f, Z12.e4 ((baysD s.bays, (), ()), (a, s.buses.length, s.lines.length, s.srcs.length, b), (s.buses.length, c), (s.lines.length, d), (s.srcs.length, e), mapOf (s.buses ++ s.lines.map SLine.name ++ s.srcs.map SSrc.name), f) = (tBay s.buses.length s.lines.length s.srcs.length (s.buses ++ s.lines.map SLine.name ++ s.srcs.map SSrc.name) s.bays).1 := fun a b c d e f => by
              show (tBay s.buses.length s.lines.length s.srcs.length (theM (mapOf (s.buses ++ s.lines.map SLine.name ++ s.srcs.map SSrc.name))) (theE baysD (baysD s.bays))).1 = _
              rw [L4', theM_mapOf]
            rw [x4, z4]
            rfl
end Go.Proofs.YtngoglhlhlfknaaGreat.st
