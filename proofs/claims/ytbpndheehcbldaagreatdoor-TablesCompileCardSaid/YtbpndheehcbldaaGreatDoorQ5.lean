/-
  An evaluator of Go code on abstract values, proved sound, and what it computes of the functions that the statement reaches (part 5). No condition.
-/
import Derived.Test.YtbpndheehcbldaaGreatDoorQ4
noncomputable section
open Go.Proofs.Tryz
set_option maxRecDepth 100000
namespace Go.Proofs.YtbpndheehcbldaaGreatDoor.st
open Go.RowKit Go.Eb
abbrev AL := D × Unit × Unit
abbrev RW1 := Nat × RD
abbrev A26 := AL × (ByteArray × Unit × Unit × Unit × Unit × Unit × Unit) × List (Value × Value) × Unit
def d26 : Dec (List AV × Hp) A26 := .pair (.cons (.c .data) (.cons (.c (.meth 68)) .nil)) (.cons (.blk 0 (.cells 207 (.cons .str (.cons .nilS (.cons .nilS (.cons .nilS (.cons .nilS (.cons (.mp 1) .nil)))))))) (.cons (.blk 1 (.mapB 0)) .nil))
abbrev A28 := AL × (ByteArray × Nat × Unit × Unit × Unit × Unit × Unit) × RW1 × List (Value × Value) × Unit
def d28 : Dec (List AV × Hp) A28 := .pair (.cons (.c .data) (.cons (.c (.meth 70)) .nil)) (.cons (.blk 0 (.cells 207 (.cons .str (.cons (.row 1 1) (.cons .nilS (.cons .nilS (.cons .nilS (.cons (.mp 2) .nil)))))))) (.cons (.blk 1 (.rowB 1 9)) (.cons (.blk 2 (.mapB 0)) .nil)))
abbrev A30 := AL × (ByteArray × Nat × Nat × Unit × Unit × Unit × Unit) × RW1 × RW1 × List (Value × Value) × Unit
def d30 : Dec (List AV × Hp) A30 := .pair (.cons (.c .data) (.cons (.c (.meth 72)) .nil)) (.cons (.blk 0 (.cells 207 (.cons .str (.cons (.row 1 1) (.cons (.row 2 5) (.cons .nilS (.cons .nilS (.cons (.mp 3) .nil)))))))) (.cons (.blk 1 (.rowB 1 9)) (.cons (.blk 2 (.rowB 5 144)) (.cons (.blk 3 (.mapB 0)) .nil))))
abbrev A32 := AL × (ByteArray × Nat × Nat × Nat × Unit × Unit × Unit) × RW1 × RW1 × RW1 × List (Value × Value) × Unit
def d32 : Dec (List AV × Hp) A32 := .pair (.cons (.c .data) (.cons (.c (.meth 74)) .nil)) (.cons (.blk 0 (.cells 207 (.cons .str (.cons (.row 1 1) (.cons (.row 2 5) (.cons (.row 3 6) (.cons .nilS (.cons (.mp 4) .nil)))))))) (.cons (.blk 1 (.rowB 1 9)) (.cons (.blk 2 (.rowB 5 144)) (.cons (.blk 3 (.rowB 6 147)) (.cons (.blk 4 (.mapB 0)) .nil)))))
structure K12 where
 nk : ByteArray -> Bool
 ok1 : A26 -> Bool
 e1 : A26 -> Int
 m1 : A26 -> List (Value × Value)
 n1 : A26 -> Nat
 f1 : A26 -> RD
 ok2 : A28 -> Bool
 e2 : A28 -> Int
 m2 : A28 -> List (Value × Value)
 n2 : A28 -> Nat
 f2 : A28 -> RD
 ok3 : A30 -> Bool
 e3 : A30 -> Int
 m3 : A30 -> List (Value × Value)
 n3 : A30 -> Nat
 f3 : A30 -> RD
 ok4 : A32 -> Bool
 e4 : A32 -> Int
 m4 : A32 -> List (Value × Value)
 n4 : A32 -> Nat
 f4 : A32 -> RD
def o12 (Z : K12) : Orc := Orc.cons 65 (ansP decS fun s => vB (Z.nk s)) (Orc.cons 66 (inl prog Orc.nil na 1 f66)
 (Orc.cons 67 (ansD d26 Z.ok1 (fun a => vI (Z.e1 a)) fun a => H1' a.2.1.1 (Z.m1 a) (Z.n1 a) (Z.f1 a))
 (Orc.cons 69 (ansD d28 Z.ok2 (fun a => vI (Z.e2 a)) fun a => H2' a.2.1.1 a.2.2.1.1 a.2.2.1.2 (Z.m2 a) (Z.n2 a) (Z.f2 a))
 (Orc.cons 71 (ansD d30 Z.ok3 (fun a => vI (Z.e3 a)) fun a => H3' a.2.1.1 a.2.2.1.1 a.2.2.1.2 a.2.2.2.1.1 a.2.2.2.1.2 (Z.m3 a) (Z.n3 a) (Z.f3 a))
 (Orc.cons 73 (ansD d32 Z.ok4 (fun a => vI (Z.e4 a)) fun a => H4' a.2.1.1 a.2.2.1.1 a.2.2.1.2 a.2.2.2.1.1 a.2.2.2.1.2 a.2.2.2.2.1.1 a.2.2.2.2.1.2 (Z.m4 a) (Z.n4 a) (Z.f4 a)) Orc.nil)))))
def Alx : Ann := A4 []
theorem b12 : f31.body = some (Ad f31) := by kernel_rfl
theorem ev12 (Z : K12) (s : SSta) (g : Nat) : Al prog (o12 Z) Alx g f31 (Ad f31) [aSta s] [] =
 (fun t6 => (fun t5 => (fun t4 => (fun t3 => (fun t2 => (fun t1 => (bif !K12.nk Z s.name then leI 7 else (bif (↑s.buses.length : Int) == 0 then leI 3 else (bif decide
 ((↑s.buses.length : Int) > 4) then leI 3 else (bif decide ((↑s.lines.length : Int) > 6) then leI 3 else (bif decide ((↑s.srcs.length : Int) > 4) then leI 3 else (bif decide
 ((↑s.bays.length : Int) > 16) then leI 3 else (bif K12.ok1 Z t6 then (bif K12.e1 Z t6 == 0 then (bif K12.ok2 Z t4 then (bif K12.e2 Z t4 == 0 then (bif K12.ok3 Z t2 then (bif K12.e3
 Z t2 == 0 then (bif K12.ok4 Z t1 then leI (K12.e4 Z t1) else none) else leI (K12.e3 Z t2)) else none) else (bif K12.e2 Z t4 == 0 then none else leI (K12.e2 Z t4))) else none) else
 (bif K12.e1 Z t6 == 0 then none else (bif K12.e1 Z t6 == 0 then none else leI (K12.e1 Z t6)))) else none)))))))) ((B5 s.bays, (), ()), (⟨#[]⟩, K12.n1 Z t6, K12.n2 Z t4, K12.n3 Z
 t2, (), (), ()), t5, t3, (K12.n3 Z t2, K12.f3 Z t2), K12.m3 Z t2, ())) ((Ca s.srcs, (), ()), (⟨#[]⟩, K12.n1 Z t6, K12.n2 Z t4, (), (), (), ()), t5, t3, K12.m2 Z t4, ())) (K12.n2 Z
 t4, K12.f2 Z t4)) ((Ap s.lines, (), ()), (⟨#[]⟩, K12.n1 Z t6, (), (), (), (), ()), t5, K12.m1 Z t6, ())) (K12.n1 Z t6, K12.f1 Z t6)) ((Ab s.buses, (), ()), (⟨#[]⟩, (), (), (), (),
 (), ()), [], ()) := by kernel_rfl
end Go.Proofs.YtbpndheehcbldaaGreatDoor.st
namespace Go.Proofs.YtbpndheehcbldaaGreatDoor.st
open Go.RowKit Go.Eb
abbrev u1 (a : A26) := Dp id (fun N _ x => Bw N x) (theM a.2.2.1) [] (theE Ab a.1.1)
abbrev u2 (a : A28) := F2 (theM a.2.2.2.1) (theE Ap a.1.1)
abbrev u3 (a : A30) := tSrc (theM a.2.2.2.2.1) (theE Ca a.1.1)
abbrev u4 (a : A32) := tBay a.2.2.1.1 a.2.2.2.1.1 a.2.2.2.2.1.1 (theM a.2.2.2.2.2.1) (theE B5 a.1.1)
def Z12 : K12 where
 nk := Ae
 ok1 a := okE Ab a.1.1 && (decide ((theE Ab a.1.1).length <= 900) && okM a.2.2.1)
 e1 a := (u1 a).1
 m1 a := Ao (theM a.2.2.1 ++ (u1 a).2.map id)
 n1 a := (u1 a).2.length
 f1 a := fun i => busC ((u1 a).2.getD i e0)
 ok2 a := okE Ap a.1.1 && (decide ((theE Ap a.1.1).length <= 900) && (okM a.2.2.2.1 && Nat.beq a.2.1.2.1 a.2.2.1.1))
 e2 a := (u2 a).1
 m2 a := Ao (theM a.2.2.2.1 ++ (u2 a).2.map SLine.name)
 n2 a := (u2 a).2.length
 f2 a := fun i => As ((u2 a).2.getD i Af)
 ok3 a := okE Ca a.1.1 && (decide ((theE Ca a.1.1).length <= 900) && (okM a.2.2.2.2.1 && (Nat.beq a.2.1.2.1 a.2.2.1.1 && Nat.beq a.2.1.2.2.1 a.2.2.2.1.1)))
 e3 a := (u3 a).1
 m3 a := Ao (theM a.2.2.2.2.1 ++ (u3 a).2.map SSrc.name)
 n3 a := (u3 a).2.length
 f3 a := fun i => Ar ((u3 a).2.getD i src0)
 ok4 a := okE B5 a.1.1 && (decide ((theE B5 a.1.1).length <= 900) && (okM a.2.2.2.2.2.1 && (Nat.beq a.2.1.2.1 a.2.2.1.1 && (Nat.beq a.2.1.2.2.1 a.2.2.2.1.1 && (Nat.beq a.2.1.2.2.2.1 a.2.2.2.2.1.1 && (Nat.ble a.2.2.1.1 900 && (Nat.ble a.2.2.2.1.1 900 && (Nat.ble a.2.2.2.2.1.1 900 && Kg (theE B5 a.1.1)))))))))
 e4 a := (u4 a).1
 m4 a := Ao (theM a.2.2.2.2.2.1 ++ (u4 a).2.map SBay.name)
 n4 a := (u4 a).2.length
 f4 a := fun i => bayC ((u4 a).2.getD i bay0)
theorem s12 : OrcS prog (o12 Z12) := by
 refine .cons (.p Em c15) (.cons (.inl .nil func66 (by kernel_rfl)) (.cons (.d fun a ha => ?_) (.cons (.d fun a ha => ?_) (.cons (.d fun a ha => ?_) (.cons (.d fun a ha => ?_) .nil)))))
 ·have ha' : (okE Ab a.1.1 && (decide ((theE Ab a.1.1).length <= 900) && okM a.2.2.1)) = true := ha
  simp only [Bool.and_eq_true, decide_eq_true_eq] at ha'
  obtain ⟨h1, h2, h3⟩ := ha'
  have hm := F1 h3
  refine (c26 (theE Ab a.1.1) a.2.1.1 (theM a.2.2.1) h2).ge (.cons (Db h1) (.cons (.refl _) .nil)) ?_
  show Hle (H1 a.2.1.1 a.2.2.1) _
  rw [<- hm]
  exact .refl _
 ·have ha' : (okE Ap a.1.1 && (decide ((theE Ap a.1.1).length <= 900) && (okM a.2.2.2.1 && Nat.beq a.2.1.2.1 a.2.2.1.1))) = true := ha
  simp only [Bool.and_eq_true, decide_eq_true_eq] at ha'
  obtain ⟨h1, h2, h3, h4⟩ := ha'
  have hm := F1 h3
  have e4 := Nat.eq_of_beq_eq_true h4
  refine (c28 (theE Ap a.1.1) a.2.1.1 a.2.2.1.1 a.2.2.1.2 (theM a.2.2.2.1) h2).ge (.cons (Db h1) (.cons (.refl _) .nil)) ?_
  show Hle [(0, .cells [.d (dS a.2.1.1), .row 1 1 a.2.1.2.1, nilC, nilC, nilC, .mp 2] 207), (1, .row a.2.2.1.1 a.2.2.1.2 1 9), (2, .map 0 a.2.2.2.1)] _
  rw [<- hm, e4]
  exact .refl _
 ·have ha' : (okE Ca a.1.1 && (decide ((theE Ca a.1.1).length <= 900) && (okM a.2.2.2.2.1 && (Nat.beq a.2.1.2.1 a.2.2.1.1 && Nat.beq a.2.1.2.2.1 a.2.2.2.1.1)))) = true := ha
  simp only [Bool.and_eq_true, decide_eq_true_eq] at ha'
  obtain ⟨h1, h2, h3, h4, h5⟩ := ha'
  have hm := F1 h3
  have e4 := Nat.eq_of_beq_eq_true h4
  have e5 := Nat.eq_of_beq_eq_true h5
  refine (c30 (theE Ca a.1.1) a.2.1.1 a.2.2.1.1 a.2.2.1.2 a.2.2.2.1.1 a.2.2.2.1.2 (theM a.2.2.2.2.1) h2).ge (.cons (Db h1) (.cons (.refl _) .nil)) ?_
  show Hle [(0, .cells [.d (dS a.2.1.1), .row 1 1 a.2.1.2.1, .row 2 5 a.2.1.2.2.1, nilC, nilC, .mp 3] 207), (1, .row a.2.2.1.1 a.2.2.1.2 1 9), (2, .row a.2.2.2.1.1 a.2.2.2.1.2 5 144), (3, .map 0 a.2.2.2.2.1)] _
  rw [<- hm, e4, e5]
  exact .refl _
 ·have ha' : (okE B5 a.1.1 && (decide ((theE B5 a.1.1).length <= 900) && (okM a.2.2.2.2.2.1 && (Nat.beq a.2.1.2.1 a.2.2.1.1 && (Nat.beq a.2.1.2.2.1 a.2.2.2.1.1 && (Nat.beq a.2.1.2.2.2.1 a.2.2.2.2.1.1 && (Nat.ble a.2.2.1.1 900 && (Nat.ble a.2.2.2.1.1 900 && (Nat.ble a.2.2.2.2.1.1 900 && Kg (theE B5 a.1.1)))))))))) = true := ha
  simp only [Bool.and_eq_true, decide_eq_true_eq] at ha'
  obtain ⟨h1, h2, h3, h4, h5, h6, h7, h8, h9, h10⟩ := ha'
  have hm := F1 h3
  have e4 := Nat.eq_of_beq_eq_true h4
  have e5 := Nat.eq_of_beq_eq_true h5
  have e6 := Nat.eq_of_beq_eq_true h6
  refine (c32 (theE B5 a.1.1) a.2.1.1 a.2.2.1.1 a.2.2.1.2 a.2.2.2.1.1 a.2.2.2.1.2 a.2.2.2.2.1.1 a.2.2.2.2.1.2 (theM a.2.2.2.2.2.1) h2 (Nat.le_of_ble_eq_true h7) (Nat.le_of_ble_eq_true h8) (Nat.le_of_ble_eq_true h9) (R8 h10)).ge (.cons (Db h1) (.cons (.refl _) .nil)) ?_
  show Hle [(0, .cells [.d (dS a.2.1.1), .row 1 1 a.2.1.2.1, .row 2 5 a.2.1.2.2.1, .row 3 6 a.2.1.2.2.2.1, nilC, .mp 4] 207), (1, .row a.2.2.1.1 a.2.2.1.2 1 9), (2, .row a.2.2.2.1.1 a.2.2.2.1.2 5 144), (3, .row a.2.2.2.2.1.1 a.2.2.2.2.1.2 6 147), (4, .map 0 a.2.2.2.2.2.1)] _
  rw [<- hm, e4, e5, e6]
  exact .refl _
theorem AgY (n : Nat) : ((n : Int) == 0) = (n == 0) := by cases n <;> rfl
theorem Pi (n k : Nat) : decide ((n : Int) > (k : Int)) = decide (k < n) := by rw [decide_eq_decide]; omega
theorem c12 (s : SSta) (hlk : Kg s.bays = true) : CX prog 31 [aSta s] [] (vI (C2 s)) [] := by
 refine Ax s12.ok func31 b12 rfl ((ev12 Z12 s 1).trans ?_)
 have t4 : ∀ n : Nat, decide ((n : Int) > 4) = decide (4 < n) := fun n => Pi n 4
 have t6 : ∀ n : Nat, decide ((n : Int) > 6) = decide (6 < n) := fun n => Pi n 6
 have t16 : ∀ n : Nat, decide ((n : Int) > 16) = decide (16 < n) := fun n => Pi n 16
 simp only [AgY, t4, t6, t16, fOr]
 unfold C2
 show (bif !Ae s.name then _ else _) = _
 cases Ae s.name with
 | false => rfl
 | true =>
  simp only [Bool.not_true, cond_false]
  have hcb : (s.buses.length == 0 || (decide (4 < s.buses.length) || (decide (6 < s.lines.length) || (decide (4 < s.srcs.length) || decide (16 < s.bays.length))))) = M5 s := rfl
  rw [hcb]
  cases hc : M5 s with
  | true => rfl
  | false =>
   simp only [cond_false]
   unfold M5 at hc
   simp only [Bool.or_eq_false_iff, decide_eq_false_iff_not] at hc
   obtain ⟨_, h4, h6, h4', h16⟩ := hc
   have M0 : okM ([] : MV) = true := Gb []
   have M0' : theM ([] : MV) = [] := Dw []
   obtain ⟨L1, L1'⟩ := Bk (sz := 1) (d0 := e0) B9 s.buses
   obtain ⟨L2, L2'⟩ := Bk (sz := 5) (d0 := Af) Jr s.lines
   obtain ⟨L3, L3'⟩ := Bk (sz := 6) (d0 := src0) Li s.srcs
   obtain ⟨L4, L4'⟩ := Bk (sz := 12) (d0 := bay0) J4 s.bays
   have x1 : ∀ y, Z12.ok1 ((Ab s.buses, (), ()), y, [], ()) = true := fun y => by
    show (okE Ab (Ab s.buses) && (decide ((theE Ab (Ab s.buses)).length <= 900) && okM [])) = true
    rw [L1, L1', M0, decide_eq_true (by omega)]; rfl
   have y1 : ∀ y, u1 ((Ab s.buses, (), ()), y, [], ()) = tBus s.buses := fun y => by
    show Dp id (fun N _ x => Bw N x) (theM []) [] (theE Ab (Ab s.buses)) = _
    rw [L1', M0']; rfl
   have z1 : ∀ y, Z12.e1 ((Ab s.buses, (), ()), y, [], ()) = (tBus s.buses).1 := fun y => by show (u1 _).1 = _; rw [y1]
   rw [x1, z1]
   simp only [cond_true]
   cases E1 : ((tBus s.buses).1 == 0) with
   | false =>
    have : ((tBus s.buses).1 != 0) = true := by unfold bne; rw [E1]; rfl
    rw [this]; rfl
   | true =>
    have E1' : (tBus s.buses).1 = 0 := by simpa using E1
    have N1 : (tBus s.buses).2 = s.buses := by have := Lh (nm := id) (f := fun N _ x => Bw N x) (N := []) [] s.buses E1'; rw [List.nil_append] at this; exact this
    have n1 : ∀ y, Z12.n1 ((Ab s.buses, (), ()), y, [], ()) = s.buses.length := fun y => by show (u1 _).2.length = _; rw [y1, N1]
    have m1 : ∀ y, Z12.m1 ((Ab s.buses, (), ()), y, [], ()) = Ao s.buses := fun y => by
     show Ao (theM [] ++ (u1 _).2.map id) = _
     rw [y1, N1, M0']; simp
    rw [E1']
    simp only [cond_true, n1, m1, bne_self_eq_false, cond_false]
    have x2 : ∀ a b c d, Z12.ok2 ((Ap s.lines, (), ()), (a, s.buses.length, b), (s.buses.length, c), Ao s.buses, d) = true := fun a b c d => by
     show (okE Ap (Ap s.lines) && (decide ((theE Ap (Ap s.lines)).length <= 900) && (okM (Ao s.buses) && Nat.beq s.buses.length s.buses.length))) = true
     rw [L2, L2', Gb, decide_eq_true (by omega), Nat.beq_refl]; rfl
    have y2 : ∀ a b c d, u2 ((Ap s.lines, (), ()), (a, s.buses.length, b), (s.buses.length, c), Ao s.buses, d) = F2 s.buses s.lines := fun a b c d => by
     show F2 (theM (Ao s.buses)) (theE Ap (Ap s.lines)) = _
     rw [L2', Dw]
    have z2 : ∀ a b c d, Z12.e2 ((Ap s.lines, (), ()), (a, s.buses.length, b), (s.buses.length, c), Ao s.buses, d) = (F2 s.buses s.lines).1 := fun a b c d => by show (u2 _).1 = _; rw [y2]
    rw [x2, z2]
    simp only [cond_true]
    cases E2 : ((F2 s.buses s.lines).1 == 0) with
    | false =>
     have : ((F2 s.buses s.lines).1 != 0) = true := by unfold bne; rw [E2]; rfl
     rw [this]; rfl
    | true =>
     have E2' : (F2 s.buses s.lines).1 = 0 := by simpa using E2
     have N2 : (F2 s.buses s.lines).2 = s.lines := by have := Lh (nm := SLine.name) (f := fun N _ x => Kh N x) (N := s.buses) [] s.lines E2'; rw [List.nil_append] at this; exact this
     have n2 : ∀ a b c d, Z12.n2 ((Ap s.lines, (), ()), (a, s.buses.length, b), (s.buses.length, c), Ao s.buses, d) = s.lines.length := fun a b c d => by show (u2 _).2.length = _; rw [y2, N2]
     have m2 : ∀ a b c d, Z12.m2 ((Ap s.lines, (), ()), (a, s.buses.length, b), (s.buses.length, c), Ao s.buses, d) = Ao (s.buses ++ s.lines.map SLine.name) := fun a b c d => by
      show Ao (theM (Ao s.buses) ++ (u2 _).2.map SLine.name) = _
      rw [y2, N2, Dw]
     rw [E2']
     simp only [cond_true, n2, m2, bne_self_eq_false, cond_false]
     have x3 : ∀ a b c d e, Z12.ok3 ((Ca s.srcs, (), ()), (a, s.buses.length, s.lines.length, b), (s.buses.length, c), (s.lines.length, d), Ao (s.buses ++ s.lines.map SLine.name), e) = true := fun a b c d e => by
      show (okE Ca (Ca s.srcs) && (decide ((theE Ca (Ca s.srcs)).length <= 900) && (okM (Ao (s.buses ++ s.lines.map SLine.name)) && (Nat.beq s.buses.length s.buses.length && Nat.beq s.lines.length s.lines.length)))) = true
      rw [L3, L3', Gb, decide_eq_true (by omega), Nat.beq_refl, Nat.beq_refl]; rfl
     have y3 : ∀ a b c d e, u3 ((Ca s.srcs, (), ()), (a, s.buses.length, s.lines.length, b), (s.buses.length, c), (s.lines.length, d), Ao (s.buses ++ s.lines.map SLine.name), e) = tSrc (s.buses ++ s.lines.map SLine.name) s.srcs := fun a b c d e => by
      show tSrc (theM (Ao (s.buses ++ s.lines.map SLine.name))) (theE Ca (Ca s.srcs)) = _
      rw [L3', Dw]
     have z3 : ∀ a b c d e, Z12.e3 ((Ca s.srcs, (), ()), (a, s.buses.length, s.lines.length, b), (s.buses.length, c), (s.lines.length, d), Ao (s.buses ++ s.lines.map SLine.name), e) = (tSrc (s.buses ++ s.lines.map SLine.name) s.srcs).1 := fun a b c d e => by show (u3 _).1 = _; rw [y3]
     rw [x3, z3]
     simp only [cond_true]
     cases E3 : ((tSrc (s.buses ++ s.lines.map SLine.name) s.srcs).1 == 0) with
     | false =>
      have : ((tSrc (s.buses ++ s.lines.map SLine.name) s.srcs).1 != 0) = true := by unfold bne; rw [E3]; rfl
      rw [this]; rfl
     | true =>
      have E3' : (tSrc (s.buses ++ s.lines.map SLine.name) s.srcs).1 = 0 := by simpa using E3
      have N3 : (tSrc (s.buses ++ s.lines.map SLine.name) s.srcs).2 = s.srcs := by have := Lh (nm := SSrc.name) (f := fun N _ x => N4 N x) (N := s.buses ++ s.lines.map SLine.name) [] s.srcs E3'; rw [List.nil_append] at this; exact this
      have n3 : ∀ a b c d e, Z12.n3 ((Ca s.srcs, (), ()), (a, s.buses.length, s.lines.length, b), (s.buses.length, c), (s.lines.length, d), Ao (s.buses ++ s.lines.map SLine.name), e) = s.srcs.length := fun a b c d e => by show (u3 _).2.length = _; rw [y3, N3]
      have m3 : ∀ a b c d e, Z12.m3 ((Ca s.srcs, (), ()), (a, s.buses.length, s.lines.length, b), (s.buses.length, c), (s.lines.length, d), Ao (s.buses ++ s.lines.map SLine.name), e) = Ao (s.buses ++ s.lines.map SLine.name ++ s.srcs.map SSrc.name) := fun a b c d e => by
       show Ao (theM (Ao (s.buses ++ s.lines.map SLine.name)) ++ (u3 _).2.map SSrc.name) = _
       rw [y3, N3, Dw]
      rw [E3']
      simp only [cond_true, n3, m3, bne_self_eq_false, cond_false]
      have x4 : ∀ a b c d e f, Z12.ok4 ((B5 s.bays, (), ()), (a, s.buses.length, s.lines.length, s.srcs.length, b), (s.buses.length, c), (s.lines.length, d), (s.srcs.length, e), Ao (s.buses ++ s.lines.map SLine.name ++ s.srcs.map SSrc.name), f) = true := fun a b c d e f => by
       show (okE B5 (B5 s.bays) && (decide ((theE B5 (B5 s.bays)).length <= 900) && (okM (Ao (s.buses ++ s.lines.map SLine.name ++ s.srcs.map SSrc.name)) && (Nat.beq s.buses.length s.buses.length && (Nat.beq s.lines.length s.lines.length && (Nat.beq s.srcs.length s.srcs.length && (Nat.ble s.buses.length 900 && (Nat.ble s.lines.length 900 && (Nat.ble s.srcs.length 900 && Kg (theE B5 (B5 s.bays))))))))))) = true
       rw [L4, L4', Gb, decide_eq_true (by omega), Nat.beq_refl, Nat.beq_refl, Nat.beq_refl, bleD, bleD, bleD, decide_eq_true (by omega), decide_eq_true (by omega), decide_eq_true (by omega), hlk]; rfl
      have z4 : ∀ a b c d e f, Z12.e4 ((B5 s.bays, (), ()), (a, s.buses.length, s.lines.length, s.srcs.length, b), (s.buses.length, c), (s.lines.length, d), (s.srcs.length, e), Ao (s.buses ++ s.lines.map SLine.name ++ s.srcs.map SSrc.name), f) = (tBay s.buses.length s.lines.length s.srcs.length (s.buses ++ s.lines.map SLine.name ++ s.srcs.map SSrc.name) s.bays).1 := fun a b c d e f => by
       show (tBay s.buses.length s.lines.length s.srcs.length (theM (Ao (s.buses ++ s.lines.map SLine.name ++ s.srcs.map SSrc.name))) (theE B5 (B5 s.bays))).1 = _
       rw [L4', Dw]
      rw [x4, z4]
      rfl
end Go.Proofs.YtbpndheehcbldaaGreatDoor.st
namespace Go.Proofs.YtbpndheehcbldaaGreatDoor.st
open Go.RowKit Go.Eb
def oBe : Orc := Orc.cons 113 (inl prog Orc.nil na 1 f113) Orc.nil
def oOh : Orc := Orc.cons 60 (inl prog oBe na 1 f60) oBe
def Alv : Ann := A4 []
theorem b49 : f115.body = some (Ad f115) := by kernel_rfl
def ev49_6 (x : SBay) : Option (T (AV × Hp)) :=
 (bif decide (x.sat >= 0) then (bif decide (x.sat <= 16383) then (bif decide (x.travel >= 1) then leB (decide (x.travel <= 6)) else leB false) else leB false) else leB false)
def ev49_5 (x : SBay) : Option (T (AV × Hp)) :=
 (bif !x.kind == 3 then (bif decide (x.vt >= 1) then (bif !decide (x.vt <= 10000) then leB false else (ev49_6 x)) else leB false) else (ev49_6 x))
def ev49_4 (x : SBay) : Option (T (AV × Hp)) :=
 (bif decide (x.ct >= 1) then (bif !decide (x.ct <= 100) then leB false else (bif x.kind == 3 then (bif x.vt != 0 then leB false else (ev49_5 x)) else (ev49_5 x))) else leB false)
def ev49_3 (x : SBay) : Option (T (AV × Hp)) :=
 (bif !x.kind == 3 then (bif !(x.zr == 0 && (x.zx == 0 && true)) then leB false else (ev49_4 x)) else (ev49_4 x))
def ev49_2 (x : SBay) : Option (T (AV × Hp)) :=
 (bif x.kind == 3 then (bif decide (x.zr >= 0) then (bif decide (x.zr <= 1000) then (bif decide (x.zx >= 1) then (bif !decide (x.zx <= 1000) then leB false else (ev49_3 x)) else leB
 false) else leB false) else leB false) else (ev49_3 x))
def ev49_1 (x : SBay) : Option (T (AV × Hp)) :=
 (bif !x.kind == 1 then (bif x.fin != 0 then leB false else (ev49_2 x)) else (ev49_2 x))
theorem ev49 (x : SBay) (g : Nat) : Al prog oOh Alv g f115 (Ad f115) [aBay x] [] =
 (bif x.kind == 1 then (bif decide (x.fin >= 0) then (bif !decide (x.fin <= 1) then leB false else (ev49_1 x)) else leB false) else (ev49_1 x)) := by kernel_rfl
def AjE : Ann := A4 [(5, ⟨[3, 2, 5, 6], []⟩)]
def Re (s : SSta) (x : SBay) (g m : Nat) (i6 : Int) := LK prog Orc.nil AjE 0 g f116 5 m ⟨frm [(2, .c (.ptr 0 0)), (3, .c (.ptr 1 0)), (5, iA (↑(List.length (SBay.links x)) : Int)), (6, iA i6)] 0 f116.ntmps, [(0, Blk.cells [.d (.v (.string (SSta.name s))), C.d (D.sl 1 (List.length (SSta.buses s)) fun i => busC (List.getD (SSta.buses s) i e0)), C.d (D.sl 5 (List.length (SSta.lines s)) fun i => As (List.getD (SSta.lines s) i Af)), C.d (D.sl 6 (List.length (SSta.srcs s)) fun i => Ar (List.getD (SSta.srcs s) i src0)), C.d (D.sl 12 (List.length (SSta.bays s)) fun i => bayC (List.getD (SSta.bays s) i bay0))] 27), (1, Blk.cells [.d (.v (.string (SBay.name x))), .d (iD (SBay.kind x)), .d (iD (SBay.off x)), .d (iD (SBay.fin x)), .d (iD (SBay.zr x)), .d (iD (SBay.zx x)), C.d (D.sl 2 (List.length (SBay.links x)) fun i => Fg (List.getD (SBay.links x) i Ba)), .d (.v (.bool (SBay.closed x))), .d (iD (SBay.ct x)), .d (iD (SBay.vt x)), .d (iD (SBay.sat x)), .d (iD (SBay.travel x))] 118)], 2⟩
theorem b50 : f116.body = some (Ad f116) := by kernel_rfl
theorem ev50 (s : SSta) (x : SBay) (g : Nat) : Al prog Orc.nil AjE g f116 (Ad f116) [aSta s, aBay x] [] =
 (bif decide ((↑x.links.length : Int) < 1) then leI 3 else (bif decide ((↑x.links.length : Int) > 2) then leI 3 else (bif x.kind == 3 then (bif (↑x.links.length : Int) != 2 then leI
 3 else Re s x g g 0) else Re s x g g 0))) := by kernel_rfl
theorem Aig (s : SSta) (x : SBay) (g m : Nat) (i6 : Int) : Re s x g (m + 1) i6 =
 (bif decide (i6 < (↑x.links.length : Int)) then (bif decide (0 <= i6) && decide (i6 < (↑x.links.length : Int)) then (bif decide (SLink.bus (x.links.getD i6.toNat Ba) < 0) then leI 9
 else (bif decide (SLink.bus (x.links.getD i6.toNat Ba) >= (↑s.buses.length : Int)) then leI 9 else (bif SLink.pos (x.links.getD i6.toNat Ba) != 1 then (bif SLink.pos (x.links.getD
 i6.toNat Ba) != 0 then leI 16 else (bif x.kind == 3 then leI 16 else (bif decide (i6 > 0) then (bif decide (0 <= IntKind.wrap .i64 (i6 - 1)) && decide (IntKind.wrap .i64 (i6 - 1) <
 (↑x.links.length : Int)) then (bif SLink.bus (x.links.getD i6.toNat Ba) == SLink.bus (x.links.getD (Int.toNat (IntKind.wrap .i64 (i6 - 1))) Ba) then leI 12 else Re s x g m
 (IntKind.wrap .i64 (i6 + 1))) else none) else Re s x g m (IntKind.wrap IntKind.i64 (i6 + 1))))) else (bif decide (i6 > 0) then (bif decide (0 <= IntKind.wrap .i64 (i6 - 1)) &&
 decide (IntKind.wrap .i64 (i6 - 1) < (↑x.links.length : Int)) then (bif SLink.bus (x.links.getD i6.toNat Ba) == SLink.bus (x.links.getD (Int.toNat (IntKind.wrap .i64 (i6 - 1))) Ba)
 then leI 12 else Re s x g m (IntKind.wrap .i64 (i6 + 1))) else none) else Re s x g m (IntKind.wrap .i64 (i6 + 1)))))) else none) else leI 0) := by kernel_rfl
def dSB : Dec (List AV × Hp) ((RSta × RBay × Unit) × Unit) := .pair (.cons (.agg staD) (.cons (.agg bayD) .nil)) .nil
def dSI : Dec (List AV × Hp) ((RSta × Int × Unit) × Unit) := .pair (.cons (.agg staD) (.cons (.c .i64) .nil)) .nil
def dSI4 : Dec (List AV × Hp) ((RSta × Int × Int × Int × Int × Unit) × Unit) := .pair (.cons (.agg staD) (.cons (.c .i64) (.cons (.c .i64) (.cons (.c .i64) (.cons (.c .i64) .nil))))) .nil
def dDS : Dec (List AV × Hp) ((D × ByteArray × Unit) × Unit) := .pair (.cons (.c .data) (.cons (.c .str) .nil)) .nil
def o24 (rg okr : RBay -> Bool) (ok : RSta -> RBay -> Bool) (lk : RSta -> RBay -> Int) : Orc := Orc.cons 114 (inl prog Orc.nil na 1 f114) (Orc.cons 115 (ansD d54 (fun a => okr a.1.1) (fun a => vB (rg a.1.1)) fun _ => [])
 (Orc.cons 116 (ansD dSB (fun a => ok a.1.1 a.1.2.1) (fun a => vI (lk a.1.1 a.1.2.1)) fun _ => []) Orc.nil))
def AjI : Ann := A4 [(8, ⟨[5, 2, 1, 7], []⟩)]
def Rg (rg okr : RBay -> Bool) (ok : RSta -> RBay -> Bool) (lk : RSta -> RBay -> Int) (s : SSta) (n : Int) (g m : Nat) (i7 : Int) := LK prog (o24 rg okr ok lk) AjI 0 g f62 8 m ⟨frm [(1, iA n), (2, .c (.ptr 0 0)), (5, .c (.ptr 1 0)), (7, iA i7)] 0 f62.ntmps, [(0, Blk.cells [.d (.v (.string (SSta.name s))), C.d (D.sl 1 (List.length (SSta.buses s)) fun i => busC (List.getD (SSta.buses s) i e0)), C.d (D.sl 5 (List.length (SSta.lines s)) fun i => As (List.getD (SSta.lines s) i Af)), C.d (D.sl 6 (List.length (SSta.srcs s)) fun i => Ar (List.getD (SSta.srcs s) i src0)), C.d (D.sl 12 (List.length (SSta.bays s)) fun i => bayC (List.getD (SSta.bays s) i bay0))] 27), (1, Blk.cells [.d (.v (.string (SBay.name (List.getD (SSta.bays s) (Int.toNat n) bay0)))), .d (iD (SBay.kind (List.getD (SSta.bays s) (Int.toNat n) bay0))), .d (iD (SBay.off (List.getD (SSta.bays s) (Int.toNat n) bay0))), .d (iD (SBay.fin (List.getD (SSta.bays s) (Int.toNat n) bay0))), .d (iD (SBay.zr (List.getD (SSta.bays s) (Int.toNat n) bay0))), .d (iD (SBay.zx (List.getD (SSta.bays s) (Int.toNat n) bay0))), C.d (D.sl 2 (List.length (SBay.links (List.getD (SSta.bays s) (Int.toNat n) bay0))) fun i => Fg (List.getD (SBay.links (List.getD (SSta.bays s) (Int.toNat n) bay0)) i Ba)), .d (.v (.bool (SBay.closed (List.getD (SSta.bays s) (Int.toNat n) bay0)))), .d (iD (SBay.ct (List.getD (SSta.bays s) (Int.toNat n) bay0))), .d (iD (SBay.vt (List.getD (SSta.bays s) (Int.toNat n) bay0))), .d (iD (SBay.sat (List.getD (SSta.bays s) (Int.toNat n) bay0))), .d (iD (SBay.travel (List.getD (SSta.bays s) (Int.toNat n) bay0)))] 118)], 2⟩
theorem b24 : f62.body = some (Ad f62) := by kernel_rfl
theorem ev24 (rg okr : RBay -> Bool) (ok : RSta -> RBay -> Bool) (lk : RSta -> RBay -> Int) (s : SSta) (n : Int) (g : Nat) : Al prog (o24 rg okr ok lk) AjI g f62 (Ad f62) [aSta s, vI n] [] =
 (bif decide (0 <= n) && decide (n < (↑s.bays.length : Int)) then (bif SBay.kind (s.bays.getD n.toNat bay0) == 1 then (bif decide (SBay.off (s.bays.getD n.toNat bay0) < 0) then leI 9
 else (bif decide (SBay.off (s.bays.getD n.toNat bay0) >= (↑s.lines.length : Int)) then leI 9 else (bif okr (SBay.name (s.bays.getD n.toNat bay0), SBay.kind (s.bays.getD n.toNat
 bay0), SBay.off (s.bays.getD n.toNat bay0), SBay.fin (s.bays.getD n.toNat bay0), SBay.zr (s.bays.getD n.toNat bay0), SBay.zx (s.bays.getD n.toNat bay0), Bz (SBay.links (s.bays.getD
 n.toNat bay0)), SBay.closed (s.bays.getD n.toNat bay0), SBay.ct (s.bays.getD n.toNat bay0), SBay.vt (s.bays.getD n.toNat bay0), SBay.sat (s.bays.getD n.toNat bay0), SBay.travel
 (s.bays.getD n.toNat bay0), ()) then (bif !rg (SBay.name (s.bays.getD n.toNat bay0), SBay.kind (s.bays.getD n.toNat bay0), SBay.off (s.bays.getD n.toNat bay0), SBay.fin
 (s.bays.getD n.toNat bay0), SBay.zr (s.bays.getD n.toNat bay0), SBay.zx (s.bays.getD n.toNat bay0), Bz (SBay.links (s.bays.getD n.toNat bay0)), SBay.closed (s.bays.getD n.toNat
 bay0), SBay.ct (s.bays.getD n.toNat bay0), SBay.vt (s.bays.getD n.toNat bay0), SBay.sat (s.bays.getD n.toNat bay0), SBay.travel (s.bays.getD n.toNat bay0), ()) then leI 2 else Rg
 rg okr ok lk s n g g 0) else none))) else (bif SBay.kind (s.bays.getD n.toNat bay0) == 2 then (bif decide (SBay.off (s.bays.getD n.toNat bay0) < 0) then leI 9 else (bif decide
 (SBay.off (s.bays.getD n.toNat bay0) >= (↑s.srcs.length : Int)) then leI 9 else (bif okr (SBay.name (s.bays.getD n.toNat bay0), SBay.kind (s.bays.getD n.toNat bay0), SBay.off
 (s.bays.getD n.toNat bay0), SBay.fin (s.bays.getD n.toNat bay0), SBay.zr (s.bays.getD n.toNat bay0), SBay.zx (s.bays.getD n.toNat bay0), Bz (SBay.links (s.bays.getD n.toNat bay0)),
 SBay.closed (s.bays.getD n.toNat bay0), SBay.ct (s.bays.getD n.toNat bay0), SBay.vt (s.bays.getD n.toNat bay0), SBay.sat (s.bays.getD n.toNat bay0), SBay.travel (s.bays.getD
 n.toNat bay0), ()) then (bif !rg (SBay.name (s.bays.getD n.toNat bay0), SBay.kind (s.bays.getD n.toNat bay0), SBay.off (s.bays.getD n.toNat bay0), SBay.fin (s.bays.getD n.toNat
 bay0), SBay.zr (s.bays.getD n.toNat bay0), SBay.zx (s.bays.getD n.toNat bay0), Bz (SBay.links (s.bays.getD n.toNat bay0)), SBay.closed (s.bays.getD n.toNat bay0), SBay.ct
 (s.bays.getD n.toNat bay0), SBay.vt (s.bays.getD n.toNat bay0), SBay.sat (s.bays.getD n.toNat bay0), SBay.travel (s.bays.getD n.toNat bay0), ()) then leI 2 else Rg rg okr ok lk s n
 g g 0) else none))) else (bif SBay.kind (s.bays.getD n.toNat bay0) == 3 then (bif SBay.off (s.bays.getD n.toNat bay0) != 0 then leI 9 else (bif okr (SBay.name (s.bays.getD n.toNat
 bay0), SBay.kind (s.bays.getD n.toNat bay0), SBay.off (s.bays.getD n.toNat bay0), SBay.fin (s.bays.getD n.toNat bay0), SBay.zr (s.bays.getD n.toNat bay0), SBay.zx (s.bays.getD
 n.toNat bay0), Bz (SBay.links (s.bays.getD n.toNat bay0)), SBay.closed (s.bays.getD n.toNat bay0), SBay.ct (s.bays.getD n.toNat bay0), SBay.vt (s.bays.getD n.toNat bay0), SBay.sat
 (s.bays.getD n.toNat bay0), SBay.travel (s.bays.getD n.toNat bay0), ()) then (bif !rg (SBay.name (s.bays.getD n.toNat bay0), SBay.kind (s.bays.getD n.toNat bay0), SBay.off
 (s.bays.getD n.toNat bay0), SBay.fin (s.bays.getD n.toNat bay0), SBay.zr (s.bays.getD n.toNat bay0), SBay.zx (s.bays.getD n.toNat bay0), Bz (SBay.links (s.bays.getD n.toNat bay0)),
 SBay.closed (s.bays.getD n.toNat bay0), SBay.ct (s.bays.getD n.toNat bay0), SBay.vt (s.bays.getD n.toNat bay0), SBay.sat (s.bays.getD n.toNat bay0), SBay.travel (s.bays.getD
 n.toNat bay0), ()) then leI 2 else Rg rg okr ok lk s n g g 0) else none)) else leI 10))) else none) := by kernel_rfl
theorem Aih (rg okr : RBay -> Bool) (ok : RSta -> RBay -> Bool) (lk : RSta -> RBay -> Int) (s : SSta) (n : Int) (g m : Nat) (i7 : Int) : Rg rg okr ok lk s n g (m + 1) i7 =
 (bif decide (i7 < n) then (bif SBay.kind (s.bays.getD n.toNat bay0) != 3 then (bif decide (0 <= i7) && decide (i7 < (↑s.bays.length : Int)) then (bif SBay.kind (s.bays.getD i7.toNat
 bay0) == SBay.kind (s.bays.getD n.toNat bay0) then (bif decide (0 <= i7) && decide (i7 < (↑s.bays.length : Int)) then (bif SBay.off (s.bays.getD i7.toNat bay0) == SBay.off
 (s.bays.getD n.toNat bay0) then (bif decide (0 <= i7) && decide (i7 < (↑s.bays.length : Int)) then (bif SBay.fin (s.bays.getD i7.toNat bay0) == SBay.fin (s.bays.getD n.toNat bay0)
 then leI 12 else Rg rg okr ok lk s n g m (IntKind.wrap .i64 (i7 + 1))) else none) else Rg rg okr ok lk s n g m (IntKind.wrap .i64 (i7 + 1))) else none) else Rg rg okr ok lk s n g m
 (IntKind.wrap .i64 (i7 + 1))) else none) else (bif ok (s.name, D.sl 1 s.buses.length fun i => busC (s.buses.getD i e0), D.sl 5 s.lines.length fun i => As (s.lines.getD i Af), D.sl
 6 s.srcs.length fun i => Ar (s.srcs.getD i src0), D.sl 12 s.bays.length fun i => bayC (s.bays.getD i bay0), ()) (SBay.name (s.bays.getD n.toNat bay0), SBay.kind (s.bays.getD
 n.toNat bay0), SBay.off (s.bays.getD n.toNat bay0), SBay.fin (s.bays.getD n.toNat bay0), SBay.zr (s.bays.getD n.toNat bay0), SBay.zx (s.bays.getD n.toNat bay0), D.sl 2 (SBay.links
 (s.bays.getD n.toNat bay0)).length fun i => Fg ((SBay.links (s.bays.getD n.toNat bay0)).getD i Ba), SBay.closed (s.bays.getD n.toNat bay0), SBay.ct (s.bays.getD n.toNat bay0),
 SBay.vt (s.bays.getD n.toNat bay0), SBay.sat (s.bays.getD n.toNat bay0), SBay.travel (s.bays.getD n.toNat bay0), ()) then leI (lk (s.name, D.sl 1 s.buses.length fun i => busC
 (s.buses.getD i e0), D.sl 5 s.lines.length fun i => As (s.lines.getD i Af), D.sl 6 s.srcs.length fun i => Ar (s.srcs.getD i src0), D.sl 12 s.bays.length fun i => bayC (s.bays.getD
 i bay0), ()) (SBay.name (s.bays.getD n.toNat bay0), SBay.kind (s.bays.getD n.toNat bay0), SBay.off (s.bays.getD n.toNat bay0), SBay.fin (s.bays.getD n.toNat bay0), SBay.zr
 (s.bays.getD n.toNat bay0), SBay.zx (s.bays.getD n.toNat bay0), D.sl 2 (SBay.links (s.bays.getD n.toNat bay0)).length fun i => Fg ((SBay.links (s.bays.getD n.toNat bay0)).getD i
 Ba), SBay.closed (s.bays.getD n.toNat bay0), SBay.ct (s.bays.getD n.toNat bay0), SBay.vt (s.bays.getD n.toNat bay0), SBay.sat (s.bays.getD n.toNat bay0), SBay.travel (s.bays.getD
 n.toNat bay0), ())) else none)) else (bif ok (s.name, D.sl 1 s.buses.length fun i => busC (s.buses.getD i e0), D.sl 5 s.lines.length fun i => As (s.lines.getD i Af), D.sl (6 : Nat)
 s.srcs.length fun i => Ar (s.srcs.getD i src0), D.sl 12 s.bays.length fun i => bayC (s.bays.getD i bay0), ()) (SBay.name (s.bays.getD n.toNat bay0), SBay.kind (s.bays.getD n.toNat
 bay0), SBay.off (s.bays.getD n.toNat bay0), SBay.fin (s.bays.getD n.toNat bay0), SBay.zr (s.bays.getD n.toNat bay0), SBay.zx (s.bays.getD n.toNat bay0), D.sl 2 (SBay.links
 (s.bays.getD n.toNat bay0)).length fun i => Fg ((SBay.links (s.bays.getD n.toNat bay0)).getD i Ba), SBay.closed (s.bays.getD n.toNat bay0), SBay.ct (s.bays.getD n.toNat bay0),
 SBay.vt (s.bays.getD n.toNat bay0), SBay.sat (s.bays.getD n.toNat bay0), SBay.travel (s.bays.getD n.toNat bay0), ()) then leI (lk (s.name, D.sl 1 s.buses.length fun i => busC
 (s.buses.getD i e0), D.sl 5 s.lines.length fun i => As (s.lines.getD i Af), D.sl (6 : Nat) s.srcs.length fun i => Ar (s.srcs.getD i src0), D.sl 12 s.bays.length fun i => bayC
 (s.bays.getD i bay0), ()) (SBay.name (s.bays.getD n.toNat bay0), SBay.kind (s.bays.getD n.toNat bay0), SBay.off (s.bays.getD n.toNat bay0), SBay.fin (s.bays.getD n.toNat bay0),
 SBay.zr (s.bays.getD n.toNat bay0), SBay.zx (s.bays.getD n.toNat bay0), D.sl 2 (SBay.links (s.bays.getD n.toNat bay0)).length fun i => Fg ((SBay.links (s.bays.getD n.toNat
 bay0)).getD i Ba), SBay.closed (s.bays.getD n.toNat bay0), SBay.ct (s.bays.getD n.toNat bay0), SBay.vt (s.bays.getD n.toNat bay0), SBay.sat (s.bays.getD n.toNat bay0), SBay.travel
 (s.bays.getD n.toNat bay0), ())) else none)) := by kernel_rfl
def o20 (nk : ByteArray -> Bool) (ok : D -> ByteArray -> Bool) (ix : D -> ByteArray -> Int) : Orc := Orc.cons 57 (ansP decS fun s => vB (nk s)) (Orc.cons 52 (ansD dDS (fun a => ok a.1.1 a.1.2.1) (fun a => vI (ix a.1.1 a.1.2.1)) fun _ => []) Orc.nil)
def Alw : Ann := A4 []
theorem b20 : f58.body = some (Ad f58) := by kernel_rfl
theorem ev20 (nk : ByteArray -> Bool) (ok : D -> ByteArray -> Bool) (ix : D -> ByteArray -> Int) (l : List ByteArray) (s : ByteArray) (g : Nat) : Al prog (o20 nk ok ix) Alw g f58 (Ad f58) [.c (.d (Ab l)), vS s] [] =
 (bif !nk s then leI 7 else (bif ok (Ab l) s then (bif decide (ix (Ab l) s >= 0) then leI 8 else leI 0) else none)) := by kernel_rfl
structure K8 where
 nk : ByteArray -> Bool
 okn : (RSta × Int × Int × Int × Int × Unit) -> Bool
 nm : (RSta × Int × Int × Int × Int × Unit) -> D
 okd : D -> ByteArray -> Bool
 nd : D -> ByteArray -> Int
 okb : RSta -> Int -> Bool
 be : RSta -> Int -> Int
def o8 (Z : K8) : Orc := Orc.cons 57 (ansP decS fun s => vB (Z.nk s)) (Orc.cons 59 (ansD dSI4 (fun a => Z.okn a.1) (fun a => .c (.d (Z.nm a.1))) fun _ => []) (Orc.cons 58 (ansD dDS (fun a => Z.okd a.1.1 a.1.2.1) (fun a => vI (Z.nd a.1.1 a.1.2.1)) fun _ => [])
 (Orc.cons 61 (inl prog oOh na 1 f61) (Orc.cons 62 (ansD dSI (fun a => Z.okb a.1.1 a.1.2.1) (fun a => vI (Z.be a.1.1 a.1.2.1)) fun _ => []) oOh))))
def ann8 : Ann := A4 [(7, ⟨[1, 3, 4, 5, 6, 7], []⟩), (13, ⟨[1, 3, 4, 5, 6, 9], []⟩), (21, ⟨[1, 4, 3, 5, 6, 11], []⟩), (29, ⟨[1, 5, 4, 3, 6, 13], []⟩)]
def L8_7 (Z : K8) (s : SSta) (g m : Nat) (i7 : Int) := LK prog (o8 Z) ann8 0 g f28 7 m ⟨frm [(1, .c (.ptr 0 0)), (3, iA (↑(List.length (SSta.buses s)) : Int)), (4, iA (↑(List.length (SSta.lines s)) : Int)), (5, iA (↑(List.length (SSta.srcs s)) : Int)), (6, iA (↑(List.length (SSta.bays s)) : Int)), (7, iA i7)] 0 f28.ntmps, [(0, Blk.cells [.d (.v (.string (SSta.name s))), C.d (D.sl 1 (List.length (SSta.buses s)) fun i => busC (List.getD (SSta.buses s) i e0)), C.d (D.sl 5 (List.length (SSta.lines s)) fun i => As (List.getD (SSta.lines s) i Af)), C.d (D.sl 6 (List.length (SSta.srcs s)) fun i => Ar (List.getD (SSta.srcs s) i src0)), C.d (D.sl 12 (List.length (SSta.bays s)) fun i => bayC (List.getD (SSta.bays s) i bay0))] 27)], 1⟩
def Tm (Z : K8) (s : SSta) (g m : Nat) (i9 : Int) := LK prog (o8 Z) ann8 0 g f28 13 m ⟨frm [(1, .c (.ptr 0 0)), (3, iA (↑(List.length (SSta.buses s)) : Int)), (4, iA (↑(List.length (SSta.lines s)) : Int)), (5, iA (↑(List.length (SSta.srcs s)) : Int)), (6, iA (↑(List.length (SSta.bays s)) : Int)), (9, iA i9)] 0 f28.ntmps, [(0, Blk.cells [.d (.v (.string (SSta.name s))), C.d (D.sl 1 (List.length (SSta.buses s)) fun i => busC (List.getD (SSta.buses s) i e0)), C.d (D.sl 5 (List.length (SSta.lines s)) fun i => As (List.getD (SSta.lines s) i Af)), C.d (D.sl 6 (List.length (SSta.srcs s)) fun i => Ar (List.getD (SSta.srcs s) i src0)), C.d (D.sl 12 (List.length (SSta.bays s)) fun i => bayC (List.getD (SSta.bays s) i bay0))] 27)], 1⟩
def Tl (Z : K8) (s : SSta) (g m : Nat) (i11 : Int) := LK prog (o8 Z) ann8 0 g f28 21 m ⟨frm [(1, .c (.ptr 0 0)), (3, iA (↑(List.length (SSta.buses s)) : Int)), (4, iA (↑(List.length (SSta.lines s)) : Int)), (5, iA (↑(List.length (SSta.srcs s)) : Int)), (6, iA (↑(List.length (SSta.bays s)) : Int)), (11, iA i11)] 0 f28.ntmps, [(0, Blk.cells [.d (.v (.string (SSta.name s))), C.d (D.sl 1 (List.length (SSta.buses s)) fun i => busC (List.getD (SSta.buses s) i e0)), C.d (D.sl 5 (List.length (SSta.lines s)) fun i => As (List.getD (SSta.lines s) i Af)), C.d (D.sl 6 (List.length (SSta.srcs s)) fun i => Ar (List.getD (SSta.srcs s) i src0)), C.d (D.sl 12 (List.length (SSta.bays s)) fun i => bayC (List.getD (SSta.bays s) i bay0))] 27)], 1⟩
def Rc (Z : K8) (s : SSta) (g m : Nat) (i13 : Int) := LK prog (o8 Z) ann8 0 g f28 29 m ⟨frm [(1, .c (.ptr 0 0)), (3, iA (↑(List.length (SSta.buses s)) : Int)), (4, iA (↑(List.length (SSta.lines s)) : Int)), (5, iA (↑(List.length (SSta.srcs s)) : Int)), (6, iA (↑(List.length (SSta.bays s)) : Int)), (13, iA i13)] 0 f28.ntmps, [(0, Blk.cells [.d (.v (.string (SSta.name s))), C.d (D.sl 1 (List.length (SSta.buses s)) fun i => busC (List.getD (SSta.buses s) i e0)), C.d (D.sl 5 (List.length (SSta.lines s)) fun i => As (List.getD (SSta.lines s) i Af)), C.d (D.sl 6 (List.length (SSta.srcs s)) fun i => Ar (List.getD (SSta.srcs s) i src0)), C.d (D.sl 12 (List.length (SSta.bays s)) fun i => bayC (List.getD (SSta.bays s) i bay0))] 27)], 1⟩
theorem b8 : f28.body = some (Ad f28) := by kernel_rfl
theorem ev8 (Z : K8) (s : SSta) (g : Nat) : Al prog (o8 Z) ann8 g f28 (Ad f28) [aSta s] [] =
 (bif !K8.nk Z s.name then leI 7 else (bif decide ((↑s.buses.length : Int) < 1) then leI 3 else (bif decide ((↑s.buses.length : Int) > 4) then leI 3 else (bif decide
 ((↑s.lines.length : Int) > 6) then leI 3 else (bif decide ((↑s.srcs.length : Int) > 4) then leI 3 else (bif decide ((↑s.bays.length : Int) > 16) then leI 3 else L8_7 Z s g g
 0)))))) := by kernel_rfl
theorem Aia (Z : K8) (s : SSta) (g m : Nat) (i7 : Int) : L8_7 Z s g (m + 1) i7 =
 (bif decide (i7 < (↑s.buses.length : Int)) then (bif K8.okn Z ((s.name, D.sl 1 s.buses.length fun i => busC (s.buses.getD i e0), D.sl 5 s.lines.length fun i => As (s.lines.getD i
 Af), D.sl 6 s.srcs.length fun i => Ar (s.srcs.getD i src0), D.sl 12 s.bays.length fun i => bayC (s.bays.getD i bay0), ()), i7, 0, 0, 0, ()) then (bif decide (0 <= i7) && decide (i7
 < (↑s.buses.length : Int)) then (bif K8.okd Z (K8.nm Z ((s.name, D.sl 1 s.buses.length fun i => busC (s.buses.getD i e0), D.sl 5 s.lines.length fun i => As (s.lines.getD i Af),
 D.sl 6 s.srcs.length fun i => Ar (s.srcs.getD i src0), D.sl 12 s.bays.length fun i => bayC (s.bays.getD i bay0), ()), i7, 0, 0, 0, ())) (s.buses.getD i7.toNat e0) then (bif K8.nd Z
 (K8.nm Z ((s.name, D.sl 1 s.buses.length fun i => busC (s.buses.getD i e0), D.sl 5 s.lines.length fun i => As (s.lines.getD i Af), D.sl 6 s.srcs.length fun i => Ar (s.srcs.getD i
 src0), D.sl 12 s.bays.length fun i => bayC (s.bays.getD i bay0), ()), i7, 0, 0, 0, ())) (s.buses.getD i7.toNat e0) != 0 then leI (K8.nd Z (K8.nm Z ((s.name, D.sl 1 s.buses.length
 fun i => busC (s.buses.getD i e0), D.sl 5 s.lines.length fun i => As (s.lines.getD i Af), D.sl 6 s.srcs.length fun i => Ar (s.srcs.getD i src0), D.sl 12 s.bays.length fun i => bayC
 (s.bays.getD i bay0), ()), i7, 0, 0, 0, ())) (s.buses.getD i7.toNat e0)) else L8_7 Z s g m (IntKind.wrap .i64 (i7 + 1))) else none) else none) else none) else Tm Z s g g 0) := by kernel_rfl
theorem Aet (Z : K8) (s : SSta) (g m : Nat) (i9 : Int) : Tm Z s g (m + 1) i9 =
 (bif decide (i9 < (↑s.lines.length : Int)) then (bif K8.okn Z ((s.name, D.sl 1 s.buses.length fun i => busC (s.buses.getD i e0), D.sl 5 s.lines.length fun i => As (s.lines.getD i
 Af), D.sl 6 s.srcs.length fun i => Ar (s.srcs.getD i src0), D.sl 12 s.bays.length fun i => bayC (s.bays.getD i bay0), ()), (↑s.buses.length : Int), i9, 0, 0, ()) then (bif decide
 (0 <= i9) && decide (i9 < (↑s.lines.length : Int)) then (bif K8.okd Z (K8.nm Z ((s.name, D.sl 1 s.buses.length fun i => busC (s.buses.getD i e0), D.sl 5 s.lines.length fun i => As
 (s.lines.getD i Af), D.sl 6 s.srcs.length fun i => Ar (s.srcs.getD i src0), D.sl 12 s.bays.length fun i => bayC (s.bays.getD i bay0), ()), (↑s.buses.length : Int), i9, 0, 0, ()))
 (SLine.name (s.lines.getD i9.toNat Af)) then (bif K8.nd Z (K8.nm Z ((s.name, D.sl 1 s.buses.length fun i => busC (s.buses.getD i e0), D.sl 5 s.lines.length fun i => As
 (s.lines.getD i Af), D.sl 6 s.srcs.length fun i => Ar (s.srcs.getD i src0), D.sl 12 s.bays.length fun i => bayC (s.bays.getD i bay0), ()), (↑s.buses.length : Int), i9, 0, 0, ()))
 (SLine.name (s.lines.getD i9.toNat Af)) == 0 then (bif decide (0 <= i9) && decide (i9 < (↑s.lines.length : Int)) then (bif decide (SLine.r1 (s.lines.getD i9.toNat Af) >= 0) then (bif
 decide (SLine.r1 (s.lines.getD i9.toNat Af) <= 1000) then (bif decide (SLine.x1 (s.lines.getD i9.toNat Af) >= 1) then (bif !decide (SLine.x1 (s.lines.getD i9.toNat Af) <= 1000) then
 leI 2 else (bif decide (0 <= i9) && decide (i9 < (↑s.lines.length : Int)) then (bif decide (SLine.r0 (s.lines.getD i9.toNat Af) >= 0) then (bif decide (SLine.r0 (s.lines.getD
 i9.toNat Af) <= 1000) then (bif decide (SLine.x0 (s.lines.getD i9.toNat Af) >= 1) then (bif !decide (SLine.x0 (s.lines.getD i9.toNat Af) <= 1000) then leI 2 else (bif K8.nd Z (K8.nm Z
 ((s.name, D.sl 1 s.buses.length fun i => busC (s.buses.getD i e0), D.sl 5 s.lines.length fun i => As (s.lines.getD i Af), D.sl 6 s.srcs.length fun i => Ar (s.srcs.getD i src0),
 D.sl 12 s.bays.length fun i => bayC (s.bays.getD i bay0), ()), (↑s.buses.length : Int), i9, 0, 0, ())) (SLine.name (s.lines.getD i9.toNat Af)) != 0 then leI (K8.nd Z (K8.nm Z
 ((s.name, D.sl 1 s.buses.length fun i => busC (s.buses.getD i e0), D.sl 5 s.lines.length fun i => As (s.lines.getD i Af), D.sl 6 s.srcs.length fun i => Ar (s.srcs.getD i src0),
 D.sl 12 s.bays.length fun i => bayC (s.bays.getD i bay0), ()), (↑s.buses.length : Int), i9, 0, 0, ())) (SLine.name (s.lines.getD i9.toNat Af))) else Tm Z s g m (IntKind.wrap .i64
 (i9 + 1)))) else leI 2) else leI 2) else leI 2) else none)) else leI 2) else leI 2) else leI 2) else none) else (bif K8.nd Z (K8.nm Z ((s.name, D.sl 1 s.buses.length fun i => busC
 (s.buses.getD i e0), D.sl 5 s.lines.length fun i => As (s.lines.getD i Af), D.sl 6 s.srcs.length fun i => Ar (s.srcs.getD i src0), D.sl 12 s.bays.length fun i => bayC (s.bays.getD
 i bay0), ()), (↑s.buses.length : Int), i9, 0, 0, ())) (SLine.name (s.lines.getD i9.toNat Af)) != 0 then leI (K8.nd Z (K8.nm Z ((s.name, D.sl 1 s.buses.length fun i => busC
 (s.buses.getD i e0), D.sl 5 s.lines.length fun i => As (s.lines.getD i Af), D.sl 6 s.srcs.length fun i => Ar (s.srcs.getD i src0), D.sl 12 s.bays.length fun i => bayC (s.bays.getD
 i bay0), ()), (↑s.buses.length : Int), i9, 0, 0, ())) (SLine.name (s.lines.getD i9.toNat Af))) else Tm Z s g m (IntKind.wrap .i64 (i9 + 1)))) else none) else none) else none) else
 Tl Z s g g 0) := by kernel_rfl
theorem Aes (Z : K8) (s : SSta) (g m : Nat) (i11 : Int) : Tl Z s g (m + 1) i11 =
 (bif decide (i11 < (↑s.srcs.length : Int)) then (bif K8.okn Z ((s.name, D.sl 1 s.buses.length fun i => busC (s.buses.getD i e0), D.sl 5 s.lines.length fun i => As (s.lines.getD i
 Af), D.sl 6 s.srcs.length fun i => Ar (s.srcs.getD i src0), D.sl 12 s.bays.length fun i => bayC (s.bays.getD i bay0), ()), (↑s.buses.length : Int), (↑s.lines.length : Int), i11, 0,
 ()) then (bif decide (0 <= i11) && decide (i11 < (↑s.srcs.length : Int)) then (bif K8.okd Z (K8.nm Z ((s.name, D.sl 1 s.buses.length fun i => busC (s.buses.getD i e0), D.sl 5
 s.lines.length fun i => As (s.lines.getD i Af), D.sl 6 s.srcs.length fun i => Ar (s.srcs.getD i src0), D.sl 12 s.bays.length fun i => bayC (s.bays.getD i bay0), ()),
 (↑s.buses.length : Int), (↑s.lines.length : Int), i11, 0, ())) (SSrc.name (s.srcs.getD i11.toNat src0)) then (bif K8.nd Z (K8.nm Z ((s.name, D.sl 1 s.buses.length fun i => busC
 (s.buses.getD i e0), D.sl 5 s.lines.length fun i => As (s.lines.getD i Af), D.sl 6 s.srcs.length fun i => Ar (s.srcs.getD i src0), D.sl 12 s.bays.length fun i => bayC (s.bays.getD
 i bay0), ()), (↑s.buses.length : Int), (↑s.lines.length : Int), i11, 0, ())) (SSrc.name (s.srcs.getD i11.toNat src0)) == 0 then (bif decide (0 <= i11) && decide (i11 <
 (↑s.srcs.length : Int)) then (bif decide (SSrc.emf (s.srcs.getD i11.toNat src0) >= 1) then (bif decide (SSrc.emf (s.srcs.getD i11.toNat src0) <= 1000000) then (bif decide (SSrc.r1
 (s.srcs.getD i11.toNat src0) >= 0) then (bif decide (SSrc.r1 (s.srcs.getD i11.toNat src0) <= 1000) then (bif decide (SSrc.x1 (s.srcs.getD i11.toNat src0) >= 1) then (bif decide
 (SSrc.x1 (s.srcs.getD i11.toNat src0) <= 1000) then (bif decide (SSrc.r0 (s.srcs.getD i11.toNat src0) >= 0) then (bif decide (SSrc.r0 (s.srcs.getD i11.toNat src0) <= 1000) then (bif
 decide (SSrc.x0 (s.srcs.getD i11.toNat src0) >= 1) then (bif !decide (SSrc.x0 (s.srcs.getD i11.toNat src0) <= 1000) then leI 2 else (bif K8.nd Z (K8.nm Z ((s.name, D.sl 1
 s.buses.length fun i => busC (s.buses.getD i e0), D.sl 5 s.lines.length fun i => As (s.lines.getD i Af), D.sl 6 s.srcs.length fun i => Ar (s.srcs.getD i src0), D.sl 12
 s.bays.length fun i => bayC (s.bays.getD i bay0), ()), (↑s.buses.length : Int), (↑s.lines.length : Int), i11, 0, ())) (SSrc.name (s.srcs.getD i11.toNat src0)) != 0 then leI (K8.nd
 Z (K8.nm Z ((s.name, D.sl 1 s.buses.length fun i => busC (s.buses.getD i e0), D.sl 5 s.lines.length fun i => As (s.lines.getD i Af), D.sl (6 : Nat) s.srcs.length fun i => Ar
 (s.srcs.getD i src0), D.sl 12 s.bays.length fun i => bayC (s.bays.getD i bay0), ()), (↑s.buses.length : Int), (↑s.lines.length : Int), i11, 0, ())) (SSrc.name (s.srcs.getD
 i11.toNat src0))) else Tl Z s g m (IntKind.wrap .i64 (i11 + 1)))) else leI 2) else leI 2) else leI 2) else leI 2) else leI 2) else leI 2) else leI 2) else leI 2) else leI 2) else
 none) else (bif K8.nd Z (K8.nm Z ((s.name, D.sl 1 s.buses.length fun i => busC (s.buses.getD i e0), D.sl 5 s.lines.length fun i => As (s.lines.getD i Af), D.sl 6 s.srcs.length fun
 i => Ar (s.srcs.getD i src0), D.sl 12 s.bays.length fun i => bayC (s.bays.getD i bay0), ()), (↑s.buses.length : Int), (↑s.lines.length : Int), i11, 0, ())) (SSrc.name (s.srcs.getD
 i11.toNat src0)) != 0 then leI (K8.nd Z (K8.nm Z ((s.name, D.sl 1 s.buses.length fun i => busC (s.buses.getD i e0), D.sl 5 s.lines.length fun i => As (s.lines.getD i Af), D.sl 6
 s.srcs.length fun i => Ar (s.srcs.getD i src0), D.sl 12 s.bays.length fun i => bayC (s.bays.getD i bay0), ()), (↑s.buses.length : Int), (↑s.lines.length : Int), i11, 0, ()))
 (SSrc.name (s.srcs.getD i11.toNat src0))) else Tl Z s g m (IntKind.wrap .i64 (i11 + 1)))) else none) else none) else none) else Rc Z s g g 0) := by kernel_rfl
theorem Aer (Z : K8) (s : SSta) (g m : Nat) (i13 : Int) : Rc Z s g (m + 1) i13 =
 (bif decide (i13 < (↑s.bays.length : Int)) then (bif K8.okn Z ((s.name, D.sl 1 s.buses.length fun i => busC (s.buses.getD i e0), D.sl 5 s.lines.length fun i => As (s.lines.getD i
 Af), D.sl 6 s.srcs.length fun i => Ar (s.srcs.getD i src0), D.sl 12 s.bays.length fun i => bayC (s.bays.getD i bay0), ()), (↑s.buses.length : Int), (↑s.lines.length : Int),
 (↑s.srcs.length : Int), i13, ()) then (bif decide (0 <= i13) && decide (i13 < (↑s.bays.length : Int)) then (bif K8.okd Z (K8.nm Z ((s.name, D.sl 1 s.buses.length fun i => busC
 (s.buses.getD i e0), D.sl 5 s.lines.length fun i => As (s.lines.getD i Af), D.sl 6 s.srcs.length fun i => Ar (s.srcs.getD i src0), D.sl 12 s.bays.length fun i => bayC (s.bays.getD
 i bay0), ()), (↑s.buses.length : Int), (↑s.lines.length : Int), (↑s.srcs.length : Int), i13, ())) (SBay.name (s.bays.getD i13.toNat bay0)) then (bif K8.nd Z (K8.nm Z ((s.name, D.sl
 1 s.buses.length fun i => busC (s.buses.getD i e0), D.sl 5 s.lines.length fun i => As (s.lines.getD i Af), D.sl 6 s.srcs.length fun i => Ar (s.srcs.getD i src0), D.sl (12 : Nat)
 s.bays.length fun i => bayC (s.bays.getD i bay0), ()), (↑s.buses.length : Int), (↑s.lines.length : Int), (↑s.srcs.length : Int), i13, ())) (SBay.name (s.bays.getD i13.toNat bay0))
 == 0 then (bif K8.okb Z (s.name, D.sl 1 s.buses.length fun i => busC (s.buses.getD i e0), D.sl 5 s.lines.length fun i => As (s.lines.getD i Af), D.sl 6 s.srcs.length fun i => Ar
 (s.srcs.getD i src0), D.sl 12 s.bays.length fun i => bayC (s.bays.getD i bay0), ()) i13 then (bif K8.be Z (s.name, D.sl 1 s.buses.length fun i => busC (s.buses.getD i e0), D.sl 5
 s.lines.length fun i => As (s.lines.getD i Af), D.sl 6 s.srcs.length fun i => Ar (s.srcs.getD i src0), D.sl 12 s.bays.length fun i => bayC (s.bays.getD i bay0), ()) i13 != 0 then
 leI (K8.be Z (s.name, D.sl 1 s.buses.length fun i => busC (s.buses.getD i e0), D.sl 5 s.lines.length fun i => As (s.lines.getD i Af), D.sl 6 s.srcs.length fun i => Ar (s.srcs.getD
 i src0), D.sl 12 s.bays.length fun i => bayC (s.bays.getD i bay0), ()) i13) else Rc Z s g m (IntKind.wrap IntKind.i64 (i13 + 1))) else none) else (bif K8.nd Z (K8.nm Z ((s.name,
 D.sl 1 s.buses.length fun i => busC (s.buses.getD i e0), D.sl 5 s.lines.length fun i => As (s.lines.getD i Af), D.sl 6 s.srcs.length fun i => Ar (s.srcs.getD i src0), D.sl 12
 s.bays.length fun i => bayC (s.bays.getD i bay0), ()), (↑s.buses.length : Int), (↑s.lines.length : Int), (↑s.srcs.length : Int), i13, ())) (SBay.name (s.bays.getD i13.toNat bay0))
 != 0 then leI (K8.nd Z (K8.nm Z ((s.name, D.sl 1 s.buses.length fun i => busC (s.buses.getD i e0), D.sl 5 s.lines.length fun i => As (s.lines.getD i Af), D.sl 6 s.srcs.length fun i
 => Ar (s.srcs.getD i src0), D.sl 12 s.bays.length fun i => bayC (s.bays.getD i bay0), ()), (↑s.buses.length : Int), (↑s.lines.length : Int), (↑s.srcs.length : Int), i13, ()))
 (SBay.name (s.bays.getD i13.toNat bay0))) else Rc Z s g m (IntKind.wrap .i64 (i13 + 1)))) else none) else none) else none) else leI 0) := by kernel_rfl
end Go.Proofs.YtbpndheehcbldaaGreatDoor.st
namespace Go.Proofs.YtbpndheehcbldaaGreatDoor.st
open Go.RowKit Go.Eb
def AdY : Ann := A4 [(3, ⟨[5, 4, 3, 2, 12, 11], []⟩), (7, ⟨[5, 4, 3, 13, 11], []⟩), (11, ⟨[5, 4, 14, 11], []⟩)]
def Aej (s : SSta) (nb nl ns nq : Int) (g m : Nat) (n1 : Nat) (f1 : RD) (i12 : Int) := LK prog Orc.nil AdY 0 g f59 3 m ⟨frm [(2, iA nl), (3, iA ns), (4, iA nq), (5, .c (.ptr 0 0)), (11, .c (.row 1 1 n1)), (12, iA i12)] 0 f59.ntmps, [(0, Blk.cells [.d (.v (.string (SSta.name s))), C.d (D.sl 1 (List.length (SSta.buses s)) fun i => busC (List.getD (SSta.buses s) i e0)), C.d (D.sl 5 (List.length (SSta.lines s)) fun i => As (List.getD (SSta.lines s) i Af)), C.d (D.sl 6 (List.length (SSta.srcs s)) fun i => Ar (List.getD (SSta.srcs s) i src0)), C.d (D.sl 12 (List.length (SSta.bays s)) fun i => bayC (List.getD (SSta.bays s) i bay0))] 27), (1, Blk.row n1 f1 1 9)], 2⟩
def Acv (s : SSta) (nb nl ns nq : Int) (g m : Nat) (n1 : Nat) (f1 : RD) (i13 : Int) := LK prog Orc.nil AdY 0 g f59 7 m ⟨frm [(3, iA ns), (4, iA nq), (5, .c (.ptr 0 0)), (11, .c (.row 1 1 n1)), (13, iA i13)] 0 f59.ntmps, [(0, Blk.cells [.d (.v (.string (SSta.name s))), C.d (D.sl 1 (List.length (SSta.buses s)) fun i => busC (List.getD (SSta.buses s) i e0)), C.d (D.sl 5 (List.length (SSta.lines s)) fun i => As (List.getD (SSta.lines s) i Af)), C.d (D.sl 6 (List.length (SSta.srcs s)) fun i => Ar (List.getD (SSta.srcs s) i src0)), C.d (D.sl 12 (List.length (SSta.bays s)) fun i => bayC (List.getD (SSta.bays s) i bay0))] 27), (1, Blk.row n1 f1 1 9)], 2⟩
def To (s : SSta) (nb nl ns nq : Int) (g m : Nat) (n1 : Nat) (f1 : RD) (i14 : Int) := LK prog Orc.nil AdY 0 g f59 11 m ⟨frm [(4, iA nq), (5, .c (.ptr 0 0)), (11, .c (.row 1 1 n1)), (14, iA i14)] 0 f59.ntmps, [(0, Blk.cells [.d (.v (.string (SSta.name s))), C.d (D.sl 1 (List.length (SSta.buses s)) fun i => busC (List.getD (SSta.buses s) i e0)), C.d (D.sl 5 (List.length (SSta.lines s)) fun i => As (List.getD (SSta.lines s) i Af)), C.d (D.sl 6 (List.length (SSta.srcs s)) fun i => Ar (List.getD (SSta.srcs s) i src0)), C.d (D.sl 12 (List.length (SSta.bays s)) fun i => bayC (List.getD (SSta.bays s) i bay0))] 27), (1, Blk.row n1 f1 1 9)], 2⟩
theorem b21 : f59.body = some (Ad f59) := by kernel_rfl
theorem ev21 (s : SSta) (nb nl ns nq : Int) (g : Nat) : Al prog Orc.nil AdY g f59 (Ad f59) [aSta s, vI nb, vI nl, vI ns, vI nq] [] =
 (bif decide (0 <= (↑(0 : Nat) : Int)) && decide ((↑(0 : Nat) : Int) <= nb) && decide (nb <= (↑s.buses.length : Int)) then (bif decide ((0 + (nb.toNat - Int.toNat (↑(0 : Nat) : Int)))
 * 16 <= 140737488355328) && decide (0 + (nb.toNat - Int.toNat (↑(0 : Nat) : Int)) <= 9223372036854775807) then Aej s nb nl ns nq g g (0 + (nb.toNat - Int.toNat (↑(0 : Nat) : Int)))
 (appF 0 (Au [] (0 + 1)) fun i => busC (s.buses.getD (Int.toNat (↑(0 : Nat) : Int) + i) e0)) 0 else none) else none) := by kernel_rfl
theorem AeB (s : SSta) (nb nl ns nq : Int) (g m : Nat) (n1 : Nat) (f1 : RD) (i12 : Int) : Aej s nb nl ns nq g (m + 1) n1 f1 i12 =
 (bif decide (i12 < nl) then (bif decide (0 <= i12) && decide (i12 < (↑s.lines.length : Int)) then (bif decide ((n1 + 1) * 16 <= (140737488355328 : Nat)) && decide (n1 + 1 <=
 9223372036854775807) then Aej s nb nl ns nq g m (n1 + 1) (appF n1 f1 (Au [dS (SLine.name (s.lines.getD i12.toNat Af))] (0 + 1))) (IntKind.wrap .i64 (i12 + 1)) else none) else none)
 else Acv s nb nl ns nq g g n1 f1 0) := by kernel_rfl
theorem AeA (s : SSta) (nb nl ns nq : Int) (g m : Nat) (n1 : Nat) (f1 : RD) (i13 : Int) : Acv s nb nl ns nq g (m + 1) n1 f1 i13 =
 (bif decide (i13 < ns) then (bif decide (0 <= i13) && decide (i13 < (↑s.srcs.length : Int)) then (bif decide ((n1 + 1) * 16 <= (140737488355328 : Nat)) && decide (n1 + 1 <=
 9223372036854775807) then Acv s nb nl ns nq g m (n1 + 1) (appF n1 f1 (Au [dS (SSrc.name (s.srcs.getD i13.toNat src0))] (0 + 1))) (IntKind.wrap .i64 (i13 + 1)) else none) else none)
 else To s nb nl ns nq g g n1 f1 0) := by kernel_rfl
theorem Zs (s : SSta) (nb nl ns nq : Int) (g m : Nat) (n1 : Nat) (f1 : RD) (i14 : Int) : To s nb nl ns nq g (m + 1) n1 f1 i14 =
 (bif decide (i14 < nq) then (bif decide (0 <= i14) && decide (i14 < (↑s.bays.length : Int)) then (bif decide ((n1 + 1) * 16 <= (140737488355328 : Nat)) && decide (n1 + 1 <=
 9223372036854775807) then To s nb nl ns nq g m (n1 + 1) (appF n1 f1 (Au [dS (SBay.name (s.bays.getD i14.toNat bay0))] (0 + 1))) (IntKind.wrap .i64 (i14 + 1)) else none) else none)
 else some (T.leaf (AV.c (C.row (0) (1) n1), [(0, Blk.row n1 f1 (1) (9))]))) := by kernel_rfl
end Go.Proofs.YtbpndheehcbldaaGreatDoor.st
namespace Go.Proofs.YtbpndheehcbldaaGreatDoor.st
open Go.RowKit Go.Eb
theorem b46 : f52.body = some (Ad f52) := by kernel_rfl
def idxF (s : ByteArray) : Nat -> List ByteArray -> Int
 | _, [] => -1
 | i, x :: r => bif x.toList == s.toList then (i : Int) else idxF s (i + 1) r
theorem Ael (a b : ByteArray) : (a.toList == b.toList) = (b.data.toList == a.data.toList) := by
 rw [ByteArray.toList_eq, ByteArray.toList_eq, Bool.beq_comm]
theorem Qw (s : ByteArray) : ∀ (l : List ByteArray) (i : Nat), decide (idxF s i l >= 0) = inB l s
 | [], i => rfl
 | x :: r, i => by
  have ih := Qw s r (i + 1)
  unfold inB at ih ⊢
  simp only [idxF, List.any_cons, Ael]
  cases (s.data.toList == x.data.toList) with
  | true => simp only [cond_true, Bool.true_or]; exact decide_eq_true (by omega)
  | false => simp only [cond_false, Bool.false_or]; exact ih
theorem lp46 (l : List ByteArray) (s : ByteArray) (g : Nat) (hl : l.length <= 9223372036854775807) : ∀ (m k : Nat), k <= l.length -> l.length - k < m -> L46 l s g m k = some (.leaf (vI (idxF s k (l.drop k)), []))
 | 0, k, _, h => by omega
 | m + 1, k, hk, h => by
  rw [st46]
  by_cases hlt : k < l.length
  ·have ih := lp46 l s g hl m (k + 1) (by omega) (by omega)
   rw [Am (d := e0) hlt]
   simp only [lt1 hlt, ge0, tn, Bool.and_self, cond_true, nx hlt hl, ih, idxF]
   cases ((l.getD k e0).toList == s.toList) <;> rfl
  ·rw [lt0 hlt, List.drop_of_length_le (by omega)]
   rfl
theorem c46 (l : List ByteArray) (s : ByteArray) (hl : l.length <= 9223372036854775807) : CX prog 52 [.c (.d (Ab l)), vS s] [] (vI (idxF s 0 l)) [] := by
 obtain ⟨g, hg⟩ : ∃ g, l.length < g := ⟨l.length + 1, by omega⟩
 exact Ax (Orc.nil_ok _) func52 b46 rfl ((ev46 l s g).trans (lp46 l s g hl g 0 (by omega) (by omega)))
def okDS (x : D) (_ : ByteArray) : Bool := okE Ab x && decide ((theE Ab x).length <= 9223372036854775807)
def ixDS (x : D) (s : ByteArray) : Int := idxF s 0 (theE Ab x)
theorem s20 : OrcS prog (o20 Ae okDS ixDS) := by
 refine .cons (.p Em c16) (.cons (.d fun a ha => ?_) .nil)
 unfold okDS at ha
 simp only [Bool.and_eq_true, decide_eq_true_eq] at ha
 exact (c46 (theE Ab a.1.1) a.1.2.1 ha.2).ge (.cons (Db ha.1) (.cons (.refl _) .nil)) (.refl _)
theorem c20 (l : List ByteArray) (s : ByteArray) (hl : l.length <= 9223372036854775807) : CX prog 58 [.c (.d (Ab l)), vS s] [] (vI (Bw l s)) [] := by
 refine Ax s20.ok func58 b20 rfl ((ev20 Ae okDS ixDS l s 1).trans ?_)
 have e1 : okDS (Ab l) s = true := by unfold okDS; rw [(Bk B9 l).1, (Bk B9 l).2]; simp [hl]
 have e2 : ixDS (Ab l) s = idxF s 0 l := by unfold ixDS; rw [(Bk B9 l).2]
 rw [e1, e2, Qw]
 unfold Bw
 cases Ae s <;> cases inB l s <;> rfl
theorem app_loop {α : Type} {nm : α -> ByteArray} {d0 : α} {l : List α} {q : Nat} {L : Nat -> Nat -> RD -> Int -> Option (T (AV × Hp))} {E : Nat -> RD -> Option (T (AV × Hp))} (hq : q <= l.length) (hq2 : q <= 900)
  (hst : ∀ (m k n : Nat) (f : RD), k < q -> n <= 9000 -> L (m + 1) n f k = L m (n + 1) (appF n f (Au (busC (nm (l.getD k d0))) 1)) ((k + 1 : Nat) : Int)) (hend : ∀ m n f, L (m + 1) n f q = E n f) :
  ∀ (m k n : Nat) (f : RD) (acc : List ByteArray), RL busC e0 n f acc -> k <= q -> q - k < m -> acc.length + (q - k) <= 9000 -> ∃ n' f', RL busC e0 n' f' (acc ++ ((l.take q).drop k).map nm) /\ L m n f k = E n' f'
 | 0, k, n, f, acc, _, _, h, _ => by omega
 | m + 1, k, n, f, acc, hr, hk, h, hb => by
  by_cases e : k = q
  ·subst e
   rw [hend, List.drop_of_length_le (by simp; omega)]
   exact ⟨n, f, by simpa using hr, rfl⟩
  ·have hlt : k < q := by omega
   rw [hst m k n f hlt (by have := hr.len; omega)]
   have ht : k < (l.take q).length := by simp; omega
   have hg : (l.take q).getD k d0 = l.getD k d0 := by simp [List.getD, hlt]
   rw [Am (d := d0) ht, hg]
   obtain ⟨n', f', h1, h2⟩ := app_loop hq hq2 hst hend m (k + 1) (n + 1) (appF n f (Au (busC (nm (l.getD k d0))) 1)) (acc ++ [nm (l.getD k d0)]) (hr.app' rfl) (by omega) (by omega) (by simp; omega)
   exact ⟨n', f', by simpa using h1, h2⟩
def Bs (s : SSta) (nb nl ns nq : Nat) : List ByteArray := s.buses.take nb ++ (s.lines.take nl).map SLine.name ++ (s.srcs.take ns).map SSrc.name ++ (s.bays.take nq).map SBay.name
theorem apOk {n : Nat} (h : n <= 9000) : (decide ((n + 1) * 16 <= 140737488355328) && decide (n + 1 <= 9223372036854775807)) = true := by
 rw [decide_eq_true (by omega), decide_eq_true (by omega)]; rfl
theorem c21 (s : SSta) (nb nl ns nq : Nat) (h1 : nb <= s.buses.length) (h2 : nl <= s.lines.length) (h3 : ns <= s.srcs.length) (h4 : nq <= s.bays.length) (g1 : nb <= 900) (g2 : nl <= 900) (g3 : ns <= 900) (g4 : nq <= 900) :
  CX prog 59 [aSta s, vI nb, vI nl, vI ns, vI nq] [] (.c (.d (Ab (Bs s nb nl ns nq)))) [] := by
 obtain ⟨g, hg⟩ : ∃ g, 900 < g := ⟨901, by omega⟩
 have lt1' : ∀ {k n : Nat}, k < n -> decide ((k : Int) < (n : Int)) = true := lt1
 have p4 := fun n f acc (hr : RL busC e0 n f acc) (hb : acc.length <= 8000) => app_loop (nm := SBay.name) (d0 := bay0) (l := s.bays) (q := nq) (L := fun m n f i => To s nb nl ns nq g m n f i) (E := fun n f => some (.leaf (.c (.row 0 1 n), [(0, .row n f 1 9)]))) h4 g4
  (fun m k n f hk hn => by
    rw [Zs]
    simp only [lt1 hk, lt1 (show k < s.bays.length by omega), ge0, tn, Bool.and_self, cond_true, nx hk (by omega), apOk hn]
    rfl)
  (fun m n f => by rw [Zs, lt0 (Nat.lt_irrefl _)]; rfl) g 0 n f acc hr (by omega) (by omega) (by omega)
 have p3 := fun n f acc (hr : RL busC e0 n f acc) (hb : acc.length <= 7000) => app_loop (nm := SSrc.name) (d0 := src0) (l := s.srcs) (q := ns) (L := fun m n f i => Acv s nb nl ns nq g m n f i) (E := fun n f => To s nb nl ns nq g g n f 0) h3 g3
  (fun m k n f hk hn => by
    rw [AeA]
    simp only [lt1 hk, lt1 (show k < s.srcs.length by omega), ge0, tn, Bool.and_self, cond_true, nx hk (by omega), apOk hn]
    rfl)
  (fun m n f => by rw [AeA, lt0 (Nat.lt_irrefl _)]; rfl) g 0 n f acc hr (by omega) (by omega) (by omega)
 have p2 := fun n f acc (hr : RL busC e0 n f acc) (hb : acc.length <= 6000) => app_loop (nm := SLine.name) (d0 := Af) (l := s.lines) (q := nl) (L := fun m n f i => Aej s nb nl ns nq g m n f i) (E := fun n f => Acv s nb nl ns nq g g n f 0) h2 g2
  (fun m k n f hk hn => by
    rw [AeB]
    simp only [lt1 hk, lt1 (show k < s.lines.length by omega), ge0, tn, Bool.and_self, cond_true, nx hk (by omega), apOk hn]
    rfl)
  (fun m n f => by rw [AeB, lt0 (Nat.lt_irrefl _)]; rfl) g 0 n f acc hr (by omega) (by omega) (by omega)
 have hr0 : RL busC e0 (0 + (Int.toNat (nb : Int) - Int.toNat ((0 : Nat) : Int))) (appF 0 (Au [] (0 + 1)) fun i => busC (s.buses.getD (Int.toNat ((0 : Nat) : Int) + i) e0)) (s.buses.take nb) := by
  have : RL busC e0 nb (fun i => busC (s.buses.getD (Int.toNat ((0 : Nat) : Int) + i) e0)) (s.buses.take nb) := .eq (by simp; omega) fun i hi => by
   have e : (s.buses.take nb).getD i e0 = s.buses.getD i e0 := by simp [List.getD, hi]
   rw [e]; simp
  have h := (RL.nil (c := busC) (d0 := e0) (Au [] (0 + 1))).cat this
  simpa using h
 obtain ⟨n2, f2, r2, q2⟩ := p2 _ _ _ hr0 (by simp; omega)
 obtain ⟨n3, f3, r3, q3⟩ := p3 _ _ _ r2 (by simp; omega)
 obtain ⟨n4, f4, r4, q4⟩ := p4 _ _ _ r3 (by simp; omega)
 have hev := ev21 s nb nl ns nq g
 have e1 : (decide ((0 : Int) <= ((0 : Nat) : Int)) && decide (((0 : Nat) : Int) <= (nb : Int)) && decide ((nb : Int) <= (s.buses.length : Int))) = true := by
  rw [decide_eq_true (by omega), decide_eq_true (by omega), decide_eq_true (by omega)]; rfl
 have e2 : (decide ((0 + (Int.toNat (nb : Int) - Int.toNat ((0 : Nat) : Int))) * 16 <= 140737488355328) && decide (0 + (Int.toNat (nb : Int) - Int.toNat ((0 : Nat) : Int)) <= 9223372036854775807)) = true := by
  rw [decide_eq_true (by omega), decide_eq_true (by omega)]; rfl
 rw [e1, e2] at hev
 simp only [cond_true] at hev
 have hc := M3 (Orc.nil_ok prog) func59 b21 rfl (hev.trans (q2.trans (q3.trans q4)))
 have hd := hc.data (y := .c (.d (.sl 1 n4 f4))) rfl
 refine (CX.of_cr func59 b21 hd).le ?_ (.refl _)
 have r4' : RL busC e0 n4 f4 (Bs s nb nl ns nq) := by unfold Bs; simpa using r4
 exact r4'.de
end Go.Proofs.YtbpndheehcbldaaGreatDoor.st
namespace Go.Proofs.YtbpndheehcbldaaGreatDoor.sg
open Go.RowKit Go.Eb Go.Proofs.YtbpndheehcbldaaGreatDoor.st
set_option maxRecDepth 100000
def w10 (t : TypeId) (k : Int) : ByteArray := ByteArray.mk #[(116 : UInt8), (114 : UInt8), (105 : UInt8), (112 : UInt8)] ++ M2 (1 : Nat) (some (Blk.cells [C.d (D.v (Value.int IntKind.u8 (IntKind.wrap IntKind.u8 (IntKind.wrap IntKind.i64 ((48 : Int) + k)))))] t))
def w16 (t : TypeId) (k : Int) : ByteArray := ByteArray.mk #[(116 : UInt8), (114 : UInt8), (105 : UInt8), (112 : UInt8), (49 : UInt8)] ++ M2 (1 : Nat) (some (Blk.cells [C.d (D.v (Value.int IntKind.u8 (IntKind.wrap IntKind.u8 (IntKind.wrap IntKind.i64 ((48 : Int) + k)))))] t))
def ck1 (t : TypeId) (k : Int) : Bool := Fu (1 : Nat) (some (Blk.cells [C.d (D.v (Value.int IntKind.u8 (IntKind.wrap IntKind.u8 (IntKind.wrap IntKind.i64 ((48 : Int) + k)))))] t))
theorem AfP (t : TypeId) (k : Nat) (h : k < 10) : ck1 t k = true /\ w10 t k = sgBus.getD k e0 := by
 have : k = 0 \/ k = 1 \/ k = 2 \/ k = 3 \/ k = 4 \/ k = 5 \/ k = 6 \/ k = 7 \/ k = 8 \/ k = 9 := by omega
 rcases this with rfl | rfl | rfl | rfl | rfl | rfl | rfl | rfl | rfl | rfl <;> exact ⟨rfl, rfl⟩
theorem AfO (t : TypeId) (k : Nat) (h : k < 6) : ck1 t k = true /\ w16 t k = sgBus.getD (10 + k) e0 := by
 have : k = 0 \/ k = 1 \/ k = 2 \/ k = 3 \/ k = 4 \/ k = 5 := by omega
 rcases this with rfl | rfl | rfl | rfl | rfl | rfl <;> exact ⟨rfl, rfl⟩
theorem Uy : sgBus.length = 16 := by simp [sgBus]
theorem Wq {n : Nat} {f : RD} (h : n < 16) (hr : RLe busC e0 n f (sgBus.take n)) {w : ByteArray} (hw : w = sgBus.getD n e0) : RLe busC e0 (n + 1) (appF n f (Au [D.v (Value.string w)] 1)) (sgBus.take (n + 1)) := by
 have := hr.app (x := sgBus.getD n e0) (sz := 1) (ds := [D.v (Value.string w)]) rfl (by rw [hw]; exact .refl _)
 rw [List.take_add_one, show sgBus[n]? = some (sgBus.getD n e0) by simp [List.getD, Uy, h]]
 exact this
theorem AaK (q : Int) (g : Nat) : ∀ (m k : Nat) (f : RD), k <= 6 -> 6 - k < m -> RLe busC e0 (10 + k) f (sgBus.take (10 + k)) -> ∃ f', RLe busC e0 16 f' sgBus /\ Ra q g m (10 + k) f k = lfR 16 f'
 | 0, k, f, _, h, _ => by omega
 | m + 1, k, f, hk, h, hr => by
  rw [AcA]
  by_cases hlt : k < 6
  ·obtain ⟨e2, e3⟩ := AfO 5 k hlt
   have hr' := Wq (by omega) hr e3
   obtain ⟨f', h1, h2⟩ := AaK q g m (k + 1) _ (by omega) (by omega) hr'
   refine ⟨f', h1, ?_⟩
   have e1 : decide ((k : Int) < 6) = true := decide_eq_true (by omega)
   unfold ck1 at e2
   rw [e1, e2, Fv (by omega), cond_true, cond_true, cond_true, show IntKind.wrap IntKind.i64 ((k : Int) + 1) = ((k + 1 : Nat) : Int) by rw [Fz (by omega) (by omega)]; omega, Nat.zero_add]
   exact h2
  ·obtain rfl : k = 6 := by omega
   rw [List.take_of_length_le (by rw [Uy]; omega)] at hr
   exact ⟨f, hr, rfl⟩
theorem AaL (q : Int) (g : Nat) (hg : 6 < g) : ∀ (m k : Nat) (f : RD), k <= 10 -> 10 - k < m -> RLe busC e0 k f (sgBus.take k) -> ∃ f', RLe busC e0 16 f' sgBus /\ Kv q g m k f k = lfR 16 f'
 | 0, k, f, _, h, _ => by omega
 | m + 1, k, f, hk, h, hr => by
  rw [AcB]
  by_cases hlt : k < 10
  ·obtain ⟨e2, e3⟩ := AfP 5 k hlt
   have hr' := Wq (by omega) hr e3
   obtain ⟨f', h1, h2⟩ := AaL q g hg m (k + 1) _ (by omega) (by omega) hr'
   refine ⟨f', h1, ?_⟩
   have e1 : decide ((k : Int) < 10) = true := decide_eq_true (by omega)
   unfold ck1 at e2
   rw [e1, e2, Fv (by omega), cond_true, cond_true, cond_true, show IntKind.wrap IntKind.i64 ((k : Int) + 1) = ((k + 1 : Nat) : Int) by rw [Fz (by omega) (by omega)]; omega, Nat.zero_add]
   exact h2
  ·obtain rfl : k = 10 := by omega
   have e1 : decide (((10 : Nat) : Int) < 10) = false := rfl
   rw [e1, cond_false]
   exact AaK q g g 0 f (by omega) (by omega) hr
theorem cRfi (k : Int) (h1 : 1 <= k) (h4 : k <= 4) : CX prog 53 [vI k] [] (rowS (Cg k)) (hpS (Cg k)) := by
 have : k = 1 \/ k = 2 \/ k = 3 \/ k = 4 := by omega
 have go : ∀ (k : Int) (l : List ByteArray), Al prog Orc.nil Wu 20 f53 (Ad f53) [vI k] [] = some (.leaf (.c (.row 0 1 l.length), [(0, .cells ((l.map dS).map .d) 9)])) ->
  CX prog 53 [vI k] [] (rowS l) (hpS l) := fun k l h =>
  CX.of_cr func53 brfi (CR.cellsRow (ds := l.map dS) (by simp) (fun i hi => by
   simp [busC, List.getD, hi]) (M3 (Orc.nil_ok _) func53 brfi rfl h))
 rcases this with rfl | rfl | rfl | rfl
 ·have e := Ads 1 20
  rw [show ((1 : Int) == 1) = true from rfl, cond_true] at e
  exact go 1 sgLine e
 ·have e := Ads 2 20
  rw [show ((2 : Int) == 1) = false from rfl, cond_false, show ((2 : Int) == 2) = true from rfl, cond_true, cond_true] at e
  exact go 2 sgSrc e
 ·have e := Ads 3 20
  rw [show ((3 : Int) == 1) = false from rfl, cond_false, show ((3 : Int) == 2) = false from rfl, cond_false, show ((3 : Int) == 3) = true from rfl, cond_true] at e
  exact go 3 sgSrc e
 ·obtain ⟨f', hr, he⟩ := AaL 4 20 (by omega) 20 0 (fun _ => []) (by omega) (by omega) (.nil _)
  have e := Ads 4 20
  rw [show ((4 : Int) == 1) = false from rfl, cond_false, show ((4 : Int) == 2) = false from rfl, cond_false, show ((4 : Int) == 3) = false from rfl, cond_false, show ((4 : Int) == 4) = true from rfl, cond_true] at e
  have he : Kv 4 20 20 0 (fun _ => []) 0 = _ := he
  have c := Ax (Orc.nil_ok _) func53 brfi rfl (e.trans he)
  show CX prog 53 [vI 4] [] (rowS sgBus) (hpS sgBus)
  unfold rowS hpS
  rw [Uy]
  exact c.le (.refl _) (.cons ⟨rfl, rfl, rfl, hr.le⟩ (.refl _))
theorem cROu (r : SRel) (h : FitR r) : CX prog 24 [aRel r] [] (rowS (outS r)) (hpS (outS r)) := by
 have ho : OrcS prog (oRu (okG eI1 k14) fun x => Cg (theT eI1 x)) :=
  .cons (.nt (enc := eI1) (c := k14) (r := fun k => rowS (Cg k)) (H' := fun k => hpS (Cg k)) fun k hk => by
   unfold k14 at hk
   simp only [Bool.and_eq_true, decide_eq_true_eq] at hk
   exact cRfi k hk.1 hk.2) .nil
 have hru := h.ru
 have hfl := Mv r.kind
 have e := Akv (okG eI1 k14) (fun x => Cg (theT eI1 x)) r (r.rules.length + 1)
 have k1 : okG eI1 k14 [AV.c (C.d (D.v (Value.int IntKind.i64 r.kind)))] = true := Aj Kk (c := k14) r.kind (by unfold k14; rw [decide_eq_true h.k1, decide_eq_true h.k4]; rfl)
 have k2 : theT eI1 [AV.c (C.d (D.v (Value.int IntKind.i64 r.kind)))] = r.kind := Ag Kk r.kind
 rw [k1, k2, cond_true] at e
 obtain ⟨f', h1, h2⟩ := app_loop (L := fun m n f i => W6 (okG eI1 k14) (fun x => Cg (theT eI1 x)) r (r.rules.length + 1) m n f i) (K := lfR) (l := r.rules) (d := Bb) (c := busC) (d0 := e0) (ch := fun x => [dS x.name]) (e := SRule.name) (sz := 1)
  (fun m k n f hk hn => by rw [Y6, lt1 hk, ge0, tn, nx hk (by omega), Fv (by omega), tt, cond_true, cond_true, cond_true, Nat.zero_add])
  (fun m n f => by rw [Y6, lt0 (Nat.lt_irrefl _)]; rfl) (fun _ => rfl) (fun k hk => .refl _) (r.rules.length + 1) 0 (Cg r.kind).length (fun i => busC ((Cg r.kind).getD i e0)) (Cg r.kind) (by omega) (by omega) (by omega) ⟨rfl, fun i _ => .refl _⟩
 simp only [Nat.sub_zero, List.drop_zero] at h1 h2
 have h1 : RLe busC e0 ((Cg r.kind).length + r.rules.length) f' (outS r) := h1
 refine (Ax ho.ok func24 brou rfl (e.trans h2)).le ?_ (.cons ⟨h1.len, rfl, rfl, h1.le⟩ (.refl _))
 unfold rowS
 rw [h1.len]
 exact .refl _
theorem cRIn (r : SRel) (h : FitR r) : CX prog 126 [aRel r] [] (.c (.d (Ab (inS r)))) [] := by
 have hl := h.su
 obtain ⟨f', h1, h2⟩ := app_loop (L := fun m n f i => Ta r (r.subs.length + 1) m n f i) (K := lfR) (l := r.subs) (d := sub0) (c := busC) (d0 := e0) (ch := fun x => [dS x.loc]) (e := SSub.loc) (sz := 1)
  (fun m k n f hk hn => by rw [Y8, lt1 hk, ge0, tn, nx hk (by omega), Fv (by omega), tt, cond_true, cond_true, cond_true, Nat.zero_add])
  (fun m n f => by rw [Y8, lt0 (Nat.lt_irrefl _)]; rfl) (fun _ => rfl) (fun k hk => .refl _) (r.subs.length + 1) 0 0 (fun _ => []) [] (by omega) (by omega) (by omega) (.nil _)
 simp only [Nat.sub_zero, Nat.zero_add, List.nil_append, List.drop_zero] at h1 h2
 have h2 : Ta r (r.subs.length + 1) (r.subs.length + 1) 0 (fun _ => []) 0 = lfR r.subs.length f' := h2
 have hc := (M3 (Orc.nil_ok _) func126 brin rfl ((Akx r (r.subs.length + 1)).trans h2)).data (y := .c (.d (.sl 1 r.subs.length f'))) rfl
 exact (CX.of_cr func126 brin hc).le (show DE _ _ from h1.de) (.refl _)
theorem cRrl (c : SCfg) (n : ByteArray) (h : Ak c.rels = true) : CX prog 54 [aCfg c, vS n] [] (vI (Cf c.rels n)) [] :=
 Ax (Orc.nil_ok _) func54 brrl rfl ((Akr c n (c.rels.length + 1)).trans (Jv (p := fun r : SRel => isT r.name n) (l := c.rels) (d0 := rel0) (L := fun m i => W3 c n (c.rels.length + 1) m i) (fun m k hk => by
  rw [Y4, lt1 hk, ge0, tn, nx hk (A7 h), tt, cond_true, cond_true]) (fun m => by rw [Y4, lt0 (Nat.lt_irrefl _)]; rfl) (c.rels.length + 1) 0 (by omega) (by omega)))
theorem cRse (r : SRel) (n : ByteArray) (h : Ak r.sets = true) : CX prog 55 [aRel r, vS n] [] (vI (A0 r n)) [] :=
 Ax (Orc.nil_ok _) func55 brse rfl ((Akq r n (r.sets.length + 1)).trans (Jv (p := fun s : SSet => isT s.name n) (l := r.sets) (d0 := set0) (L := fun m i => W2 r n (r.sets.length + 1) m i) (fun m k hk => by
  rw [Y3, lt1 hk, ge0, tn, nx hk (A7 h), tt, cond_true, cond_true]) (fun m => by rw [Y3, lt0 (Nat.lt_irrefl _)]; rfl) (r.sets.length + 1) 0 (by omega) (by omega)))
abbrev lB (b : Bool) : Option (T (AV × Hp)) := some (.leaf (vB b, []))
theorem cRpu (r : SRel) (n : ByteArray) (h : Ak r.pubs = true) : CX prog 56 [aRel r, vS n] [] (vB (r.pubs.any fun p => isT p.set n)) [] := by
 have e := E5 (p := fun p : SPub => isT p.set n) (l := r.pubs) (d0 := pub0) (L := fun m i => W4 r n (r.pubs.length + 1) m i) (A := lB true) (B := lB false) (fun m k hk => by
  rw [Y5, lt1 hk, ge0, tn, nx hk (A7 h), tt, cond_true, cond_true]) (fun m => by rw [Y5, lt0 (Nat.lt_irrefl _)]; rfl) (r.pubs.length + 1) 0 (by omega) (by omega)
 refine Ax (Orc.nil_ok _) func56 brpu rfl ((Aks r n (r.pubs.length + 1)).trans (Eq.trans e ?_))
 rw [List.drop_zero]
 cases (r.pubs.any fun p => isT p.set n) <;> rfl
theorem AeY (s : ByteArray) : ∀ (l : List ByteArray) (i : Nat), idxF s i l = idxP (fun x : ByteArray => isT x s) i l
 | [], i => rfl
 | x :: t, i => by
  unfold idxF idxP
  rw [AeY s t (i + 1)]
theorem cRix (l : List ByteArray) (n : ByteArray) (h : Ak l = true) : CX prog 52 [.c (.d (Ab l)), vS n] [] (vI (Bl l n)) [] := by
 have := c46 l n (A7 h)
 rw [AeY] at this
 exact this
abbrev eCS := en2 aCfg vS
theorem AbR : InjT eCS := Mw Wy Yq
def ZRf : KRf where
 okl := okG eCS fun a => Ak a.1.rels
 rl x := Cf (theT eCS x).1.rels (theT eCS x).2
 oks := okG eRS fun a => Ak a.1.sets && Ak a.1.pubs
 se x := A0 (theT eRS x).1 (theT eRS x).2
 pu x := (theT eRS x).1.pubs.any fun p => isT p.set (theT eRS x).2
 okx := okG eIx cIx
 ix x := Bl (theT eIx x).1 (theT eIx x).2
theorem sRf : OrcS prog (oRf ZRf) :=
 .cons (.t' (enc := eCS) (c := fun a => Ak a.1.rels) (r := fun a => vI (Cf a.1.rels a.2)) fun a h => cRrl a.1 a.2 h)
  (.cons (.t' (enc := eRS) (c := fun a => Ak a.1.sets && Ak a.1.pubs) (r := fun a => vI (A0 a.1 a.2)) fun a h => cRse a.1 a.2 (by simp only [Bool.and_eq_true] at h; exact h.1))
  (.cons (.t' (enc := eRS) (c := fun a => Ak a.1.sets && Ak a.1.pubs) (r := fun a => vB (a.1.pubs.any fun p => isT p.set a.2)) fun a h => cRpu a.1 a.2 (by simp only [Bool.and_eq_true] at h; exact h.2))
  (.cons (.t' (enc := eIx) (c := cIx) (r := fun a => vI (Bl a.1 a.2)) fun a h => cRix a.1 a.2 h) .nil)))
end Go.Proofs.YtbpndheehcbldaaGreatDoor.sg
namespace Go.Proofs.YtbpndheehcbldaaGreatDoor.sg
open Go.RowKit Go.Eb Go.Proofs.YtbpndheehcbldaaGreatDoor.st
set_option maxRecDepth 100000
theorem cRFi (c : SCfg) (i k : Nat) (hc : fitC c.rels = true) (hi : i < c.rels.length) (hk : k < (c.rels.getD i rel0).subs.length) : CX prog 25 [aCfg c, vI i, vI k] [] (aPl (Br c.rels i ((c.rels.getD i rel0).subs.getD k sub0))) [] := by
 obtain ⟨hn, hf, ho⟩ := B2 hc
 refine Ax sRf.ok func25 (by kernel_rfl) rfl ((evRf ZRf c i k).trans ?_)
 have t1 : decide ((i : Int) < 0) = false := decide_eq_false (by omega)
 have t2 : decide ((i : Int) >= (c.rels.length : Int)) = false := decide_eq_false (by omega)
 have t3 : decide ((k : Int) < 0) = false := decide_eq_false (by omega)
 have t4 : (decide ((0 : Int) <= i) && decide ((i : Int) < (c.rels.length : Int))) = true := by rw [decide_eq_true (by omega), decide_eq_true (by omega)]; rfl
 have t5 : decide ((k : Int) >= ((c.rels.getD i rel0).subs.length : Int)) = false := decide_eq_false (by omega)
 have t6 : (decide ((0 : Int) <= k) && decide ((k : Int) < ((c.rels.getD i rel0).subs.length : Int))) = true := by rw [decide_eq_true (by omega), decide_eq_true (by omega)]; rfl
 rw [t1, t2, t3, t4, tn i, t5, t6, tn k]
 simp only [cond_true, cond_false]
 generalize (c.rels.getD i rel0).subs.getD k sub0 = x
 have k1 : ZRf.okl [AV.agg (List.map C.d (cfgC c)), AV.c (C.d (D.v (Value.string x.dev)))] = true := Aj AbR (c := fun a => Ak a.1.rels) (c, x.dev) (by unfold Ak; exact decide_eq_true (by show c.rels.length <= _; omega))
 have s1 : theT eCS [AV.agg (List.map C.d (cfgC c)), AV.c (C.d (D.v (Value.string x.dev)))] = (c, x.dev) := Ag AbR (c, x.dev)
 have k2 : ZRf.rl [AV.agg (List.map C.d (cfgC c)), AV.c (C.d (D.v (Value.string x.dev)))] = Cf c.rels x.dev := by dsimp only [ZRf]; rw [s1]
 rw [k1, k2]
 simp only [cond_true]
 show _ = some (T.leaf (aPl (Gg c.rels i (Cf c.rels x.dev) x), ([] : Hp)))
 unfold Gg
 obtain ⟨dl, _⟩ := Jz c.rels x.dev
 generalize Cf c.rels x.dev = d at dl ⊢
 cases h1 : decide (d < 0) with
 | true => rfl
 | false =>
  have h1' : 0 <= d := by have := of_decide_eq_false h1; omega
  cases h2 : (d == (i : Int)) with
  | true => rfl
  | false =>
   have e1 : (decide (0 <= d) && decide (d < (c.rels.length : Int))) = true := by rw [decide_eq_true h1', decide_eq_true dl]; rfl
   have hr : B6 (c.rels.getD d.toNat rel0) = true := Dv ho rfl _
   generalize c.rels.getD d.toNat rel0 = r at hr ⊢
   obtain ⟨_, o2, o3, _, o5⟩ := Ga hr
   have k3 : ZRf.oks [AV.agg (List.map C.d (relC r)), AV.c (C.d (D.v (Value.string x.set)))] = true := Aj Gi (c := fun a => Ak a.1.sets && Ak a.1.pubs) (r, x.set) (by unfold Ak; rw [decide_eq_true o2, decide_eq_true o3]; rfl)
   have s2 : theT eRS [AV.agg (List.map C.d (relC r)), AV.c (C.d (D.v (Value.string x.set)))] = (r, x.set) := Ag Gi (r, x.set)
   have k4 : ZRf.se [AV.agg (List.map C.d (relC r)), AV.c (C.d (D.v (Value.string x.set)))] = A0 r x.set := by dsimp only [ZRf]; rw [s2]
   have k5 : ZRf.pu [AV.agg (List.map C.d (relC r)), AV.c (C.d (D.v (Value.string x.set)))] = r.pubs.any fun p => isT p.set x.set := by dsimp only [ZRf]; rw [s2]
   rw [e1, k3, k4, k5]
   simp only [cond_true, cond_false]
   unfold Yd
   cases h3 : decide (A0 r x.set < 0) with
   | true => rfl
   | false =>
    cases h4 : (r.pubs.any fun p => isT p.set x.set) with
    | false => rfl
    | true =>
     obtain ⟨j, hj, hje, _⟩ := De (p := fun s : SSet => isT s.name x.set) set0 (l := r.sets) (by have := of_decide_eq_false h3; show 0 <= A0 r x.set; omega)
     have hje : A0 r x.set = j := hje
     have e2 : (decide (0 <= A0 r x.set) && decide (A0 r x.set < (r.sets.length : Int))) = true := by rw [hje, decide_eq_true (by omega), decide_eq_true (by omega)]; rfl
     have hs : Jk (r.sets.getD (A0 r x.set).toNat set0) = true := Dv o5 rfl _
     generalize r.sets.getD (A0 r x.set).toNat set0 = q at hs ⊢
     have k6 : ZRf.okx [AV.c (C.d (Aa 1 busC e0 q.sigs)), AV.c (C.d (D.v (Value.string x.sig)))] = true := Aj Cv (c := cIx) (q.sigs, x.sig) hs
     have s3 : theT eIx [AV.c (C.d (Aa 1 busC e0 q.sigs)), AV.c (C.d (D.v (Value.string x.sig)))] = (q.sigs, x.sig) := Ag Cv (q.sigs, x.sig)
     have k7 : ZRf.ix [AV.c (C.d (Aa 1 busC e0 q.sigs)), AV.c (C.d (D.v (Value.string x.sig)))] = Bl q.sigs x.sig := by dsimp only [ZRf]; rw [s3]
     rw [e2, k6, k7]
     simp only [Bool.not_true, cond_true, cond_false]
     cases h5 : decide (Bl q.sigs x.sig < 0) <;> rfl
theorem AhN (l : List ByteArray) (x : ByteArray) : (l.any fun y => isT y x) = inB l x := by
 unfold inB
 congr 1
 funext y
 rw [Qu]
 show (x.toList == y.toList) = _
 rw [ByteArray.toList_eq, ByteArray.toList_eq]
theorem P6 (l : List ByteArray) (x : ByteArray) : decide (Bl l x >= 0) = inB l x := (Mp _ l 0).trans (AhN l x)
theorem AcE (l : List ByteArray) (x : ByteArray) : decide (Bl l x < 0) = !inB l x := by
 rw [<- P6, Bool.eq_iff_iff, Bool.not_eq_true', decide_eq_true_eq, decide_eq_false_iff_not]
 omega
theorem sTw : OrcS prog (oTw (okG eIx cIx) fun x => Bl (theT eIx x).1 (theT eIx x).2) := .cons (.t' (enc := eIx) (c := cIx) (r := fun a => vI (Bl a.1 a.2)) fun a h => cRix a.1 a.2 h) .nil
theorem AhX (l : List ByteArray) (k : Nat) (hk : k <= l.length) : RL busC e0 (Int.toNat (k : Int) - Int.toNat ((0 : Nat) : Int)) (fun i => busC (l.getD (Int.toNat ((0 : Nat) : Int) + i) e0)) (l.take k) := by
 have e : Int.toNat (k : Int) - Int.toNat ((0 : Nat) : Int) = k := by simp
 rw [e]
 refine .eq (by simp; omega) fun i hi => ?_
 have : Int.toNat ((0 : Nat) : Int) + i = i := by simp
 rw [this, List.getD_eq_getElem?_getD, List.getD_eq_getElem?_getD, List.getElem?_take, if_pos hi]
theorem Yt (l : List ByteArray) (k : Nat) (x : ByteArray) (hk : k <= l.length) (hl : l.length <= 9223372036854775807) :
  okG eIx cIx [AV.c (C.d (D.sl 1 (Int.toNat (k : Int) - Int.toNat ((0 : Nat) : Int)) fun i => busC (l.getD (Int.toNat ((0 : Nat) : Int) + i) e0))), AV.c (C.d (D.v (Value.string x)))] = true /\
  theT eIx [AV.c (C.d (D.sl 1 (Int.toNat (k : Int) - Int.toNat ((0 : Nat) : Int)) fun i => busC (l.getD (Int.toNat ((0 : Nat) : Int) + i) e0))), AV.c (C.d (D.v (Value.string x)))] = (l.take k, x) := by
 obtain ⟨h1, h2⟩ := AeX (AhX l k hk) x
 exact ⟨R2 Cv h1 h2 (by unfold cIx Ak; exact decide_eq_true (by simp; omega)), J8 Cv h1 h2⟩
theorem Ri {l : List ByteArray} {k : Nat} (h : k < l.length) : l.take (k + 1) = l.take k ++ [l.getD k e0] := by
 rw [List.take_add_one, show l[k]? = some (l.getD k e0) by simp [List.getD, h]]
 rfl
theorem Aiz (l : List ByteArray) (g : Nat) (hb : l.length <= 9223372036854775807) : ∀ (m k : Nat), k <= l.length -> l.length - k < m -> Wz (okG eIx cIx) (fun x => Bl (theT eIx x).1 (theT eIx x).2) l g m k = some (.leaf (vB (repS (l.take k) (l.drop k)), []))
 | 0, k, _, h => by omega
 | m + 1, k, hk, h => by
  rw [AfT]
  by_cases hlt : k < l.length
  ·obtain ⟨k1, k2⟩ := Yt l k (l.getD k e0) hk hb
   have e1 : (decide ((0 : Int) <= ((0 : Nat) : Int)) && decide (((0 : Nat) : Int) <= (k : Int)) && decide ((k : Int) <= (l.length : Int))) = true := by rw [decide_eq_true (by omega), decide_eq_true (by omega), decide_eq_true (by omega)]; rfl
   rw [e1, lt1 hlt, ge0, nx hlt hb, Aiz l g hb m (k + 1) (by omega) (by omega), tt]
   have k1' : okG eIx cIx [AV.c (C.d (D.sl 1 (Int.toNat (k : Int) - Int.toNat ((0 : Nat) : Int)) fun i => busC (l.getD (Int.toNat ((0 : Nat) : Int) + i) e0))), AV.c (C.d (D.v (Value.string (l.getD (Int.toNat (k : Int)) e0))))] = true := k1
   have k2' : theT eIx [AV.c (C.d (D.sl 1 (Int.toNat (k : Int) - Int.toNat ((0 : Nat) : Int)) fun i => busC (l.getD (Int.toNat ((0 : Nat) : Int) + i) e0))), AV.c (C.d (D.v (Value.string (l.getD (Int.toNat (k : Int)) e0))))] = (l.take k, l.getD k e0) := k2
   rw [k1', k2', P6, Am (d := e0) hlt, Ri hlt]
   simp only [cond_true, repS]
   cases inB (l.take k) (l.getD k e0) <;> rfl
  ·rw [lt0 hlt, List.drop_of_length_le (by omega)]
   rfl
theorem cTwi (l : List ByteArray) (h : Ak l = true) : CX prog 125 [.c (.d (Ab l))] [] (vB (repS [] l)) [] :=
 Ax sTw.ok func125 btwi rfl ((Akj _ _ l (l.length + 1)).trans (Aiz l (l.length + 1) (A7 h) (l.length + 1) 0 (by omega) (by omega)))
def eFk (c : SCfg) (a : Int × Int) : List AV := [aCfg c, vI a.1, vI a.2]
theorem Fk (c : SCfg) : InjT (eFk c) := fun a b h => by
 obtain ⟨x1, h⟩ := Ai (Ai h).2
 obtain ⟨x2, h⟩ := Ai h
 exact Prod.ext (Jd _ _ x1) (Jd _ _ x2)
def cFk (c : SCfg) (a : Int × Int) : Bool := (decide (0 <= a.1) && decide (a.1 < c.rels.length)) && (decide (0 <= a.2) && decide (a.2 < (c.rels.getD a.1.toNat rel0).subs.length))
def fiS (c : SCfg) (a : Int × Int) : Plc := Br c.rels a.1 ((c.rels.getD a.1.toNat rel0).subs.getD a.2.toNat sub0)
def ZRo (c : SCfg) : KRo where
 oko := okG eR1 fitR
 ou x := outS (theT eR1 x)
 inn x := inS (theT eR1 x)
 okt := okG eBu Ak
 tw x := repS [] (theT eBu x)
 okx := okG eIx cIx
 ix x := Bl (theT eIx x).1 (theT eIx x).2
 oks := okG eRS fun a => Ak a.1.sets
 se x := A0 (theT eRS x).1 (theT eRS x).2
 okf := okG (eFk c) (cFk c)
 fi x := fiS c (theT (eFk c) x)
theorem Pq {c : SCfg} {a : Int × Int} (h : cFk c a = true) : ∃ i k : Nat, a = ((i : Int), (k : Int)) /\ i < c.rels.length /\ k < (c.rels.getD i rel0).subs.length := by
 unfold cFk at h
 simp only [Bool.and_eq_true, decide_eq_true_eq] at h
 obtain ⟨⟨h1, h2⟩, h3, h4⟩ := h
 obtain ⟨x, y⟩ := a
 obtain ⟨i, rfl⟩ := Int.eq_ofNat_of_zero_le h1
 obtain ⟨k, rfl⟩ := Int.eq_ofNat_of_zero_le h3
 refine ⟨i, k, rfl, by simpa using h2, ?_⟩
 have h4 : (k : Int) < ((c.rels.getD (Int.toNat (i : Int)) rel0).subs.length : Int) := h4
 rw [Int.toNat_natCast] at h4
 omega
theorem Pr {c : SCfg} {i k : Nat} (hi : i < c.rels.length) (hk : k < (c.rels.getD i rel0).subs.length) : cFk c ((i : Int), (k : Int)) = true := by
 unfold cFk
 simp only [Bool.and_eq_true, decide_eq_true_eq]
 refine ⟨⟨by omega, by omega⟩, by omega, ?_⟩
 show (k : Int) < ((c.rels.getD (Int.toNat (i : Int)) rel0).subs.length : Int)
 rw [Int.toNat_natCast]
 omega
theorem sRo (c : SCfg) (h : fitC c.rels = true) : OrcS prog (oRo (ZRo c)) :=
 .cons (.nt (enc := eR1) (c := fitR) (r := fun r => rowS (outS r)) (H' := fun r => hpS (outS r)) fun r h => cROu r (Av h)) (.cons (.t' (enc := eR1) (c := fitR) (r := fun r => .c (.d (Ab (inS r)))) fun r h => cRIn r (Av h))
  (.cons (.lt (enc := eBu) (c := Ak) (r := fun l => vB (repS [] l)) func125 btwi (fun _ => rfl) fun l h => cTwi l h)
  (.cons (.lt (enc := eIx) (c := cIx) (r := fun a => vI (Bl a.1 a.2)) func52 b46 (fun _ => rfl) fun a h => cRix a.1 a.2 h)
  (.cons (.t' (enc := eRS) (c := fun a => Ak a.1.sets) (r := fun a => vI (A0 a.1 a.2)) fun a h => cRse a.1 a.2 h)
  (.cons (.t' (enc := eFk c) (c := cFk c) (r := fun a => aPl (fiS c a)) fun a ha => by
    obtain ⟨i, k, rfl, hi, hk⟩ := Pq ha
    have := cRFi c i k h hi hk
    exact this) .nil)))))
theorem AeT (c : SCfg) (i : Nat) (r : SRel) (er : c.rels.getD i rel0 = r) (hr : fitR r = true) (g mo : Nat) (a : Nat) (ha : a < r.sets.length) : ∀ (m j : Nat), j <= (r.sets.getD a set0).sigs.length -> (r.sets.getD a set0).sigs.length - j < m ->
  Td (ZRo c) c i g mo m a j = bif D0 (outS r) ((r.sets.getD a set0).sigs.take j) ((r.sets.getD a set0).sigs.drop j) != 0 then lN (D0 (outS r) ((r.sets.getD a set0).sigs.take j) ((r.sets.getD a set0).sigs.drop j)) else P0 (ZRo c) c i g mo (IntKind.wrap IntKind.i64 ((a : Int) + 1))
 | 0, j, _, h => by omega
 | m + 1, j, hj, h => by
  have hF := Av hr
  have ol := Dj r
  have hru := hF.ru
  have hs := hF.sg _ (A3 set0 ha)
  have e0' : (decide ((0 : Int) <= (a : Int)) && decide ((a : Int) < (r.sets.length : Int))) = true := by rw [decide_eq_true (by omega), decide_eq_true (by omega)]; rfl
  rw [Agc, tn i, er, tn a, e0']
  by_cases hlt : j < (r.sets.getD a set0).sigs.length
  ·have k1 : (ZRo c).oko [AV.agg (List.map C.d (relC r))] = true := Aj By (c := fitR) r hr
   have t1 : theT eR1 [AV.agg (List.map C.d (relC r))] = r := Ag By r
   have k2 : (ZRo c).ou [AV.agg (List.map C.d (relC r))] = outS r := by dsimp only [ZRo]; rw [t1]
   have ih := AeT c i r er hr g mo a ha m (j + 1) (by omega) (by omega)
   rw [Ri hlt] at ih
   rw [Am (d := e0) hlt]
   generalize hL : (r.sets.getD a set0).sigs = L at *
   have e1 : (decide ((0 : Int) <= ((0 : Nat) : Int)) && decide (((0 : Nat) : Int) <= (j : Int)) && decide ((j : Int) <= (L.length : Int))) = true := by rw [decide_eq_true (by omega), decide_eq_true (by omega), decide_eq_true (by omega)]; rfl
   have e2 : (decide ((0 : Int) <= (j : Int)) && decide ((j : Int) < (L.length : Int))) = true := by rw [decide_eq_true (by omega), decide_eq_true (by omega)]; rfl
   obtain ⟨k5, t5⟩ := Yt L j (L.getD j e0) hj (by omega)
   have k3 : (ZRo c).okx [AV.c (C.d (Aa 1 busC e0 (outS r))), AV.c (C.d (D.v (Value.string (L.getD j e0))))] = true := Aj Cv (c := cIx) (outS r, L.getD j e0) (by unfold cIx Ak; exact decide_eq_true (by show (outS r).length <= _; omega))
   have t3 : theT eIx [AV.c (C.d (Aa 1 busC e0 (outS r))), AV.c (C.d (D.v (Value.string (L.getD j e0))))] = (outS r, L.getD j e0) := Ag Cv (outS r, L.getD j e0)
   have k4 : (ZRo c).ix [AV.c (C.d (Aa 1 busC e0 (outS r))), AV.c (C.d (D.v (Value.string (L.getD j e0))))] = Bl (outS r) (L.getD j e0) := by dsimp only [ZRo]; rw [t3]
   have k5' : (ZRo c).okx [AV.c (C.d (D.sl 1 (Int.toNat (j : Int) - Int.toNat ((0 : Nat) : Int)) fun i => busC (L.getD (Int.toNat ((0 : Nat) : Int) + i) e0))), AV.c (C.d (D.v (Value.string (L.getD j e0))))] = true := k5
   have k6 : (ZRo c).ix [AV.c (C.d (D.sl 1 (Int.toNat (j : Int) - Int.toNat ((0 : Nat) : Int)) fun i => busC (L.getD (Int.toNat ((0 : Nat) : Int) + i) e0))), AV.c (C.d (D.v (Value.string (L.getD j e0))))] = Bl (L.take j) (L.getD j e0) := by dsimp only [ZRo]; rw [t5]
   have e3 : IntKind.wrap IntKind.i64 ((j : Int) + 1) = ((j + 1 : Nat) : Int) := nx hlt (by omega)
   rw [e1, e2, lt1 hlt, e3, ih, k1, k2]
   have q1 : L.getD (Int.toNat (j : Int)) e0 = L.getD j e0 := rfl
   rw [q1, k3, k4, k5', k6, P6, AcE]
   simp only [cond_true]
   simp only [D0]
   cases inB (outS r) (L.getD j e0) with
   | false => rfl
   | true => cases inB (L.take j) (L.getD j e0) <;> rfl
  ·rw [lt0 hlt, List.drop_of_length_le (by omega)]
   rfl
theorem AeU (c : SCfg) (i : Nat) (r : SRel) (er : c.rels.getD i rel0 = r) (hr : fitR r = true) (g : Nat) (hg : 1000 < g) : ∀ (m k : Nat), k <= r.sets.length -> r.sets.length - k < m ->
  P0 (ZRo c) c i g m k = bif Cp (outS r) (r.sets.drop k) != 0 then lN (Cp (outS r) (r.sets.drop k)) else K0 (ZRo c) c i g g 0
 | 0, k, _, h => by omega
 | m + 1, k, hk, h => by
  have hF := Av hr
  rw [Agd, tn i, er]
  by_cases hlt : k < r.sets.length
  ·have hs := hF.sg _ (A3 set0 hlt)
   have e : Td (ZRo c) c i g m g k ((0 : Nat) : Int) = _ := AeT c i r er hr g m k hlt g 0 (by omega) (by omega)
   rw [nx hlt (by have := hF.se; omega), AeU c i r er hr g hg m (k + 1) (by omega) (by omega), List.drop_zero, List.take_zero] at e
   rw [Am (d := set0) hlt, lt1 hlt, cond_true]
   refine e.trans ?_
   simp only [Cp]
   cases hz : (D0 (outS r) [] (r.sets.getD k set0).sigs != 0) with
   | true => simp only [cond_true, hz]
   | false => rfl
  ·rw [lt0 hlt, List.drop_of_length_le (by omega)]
   rfl
theorem AaQ (c : SCfg) (i : Nat) (r : SRel) (er : c.rels.getD i rel0 = r) (hr : fitR r = true) (g : Nat) : ∀ (m k : Nat), k <= r.pubs.length -> r.pubs.length - k < m -> K0 (ZRo c) c i g m k = bif D4 r (r.pubs.drop k) != 0 then lN (D4 r (r.pubs.drop k)) else Kz (ZRo c) c i g g 0
 | 0, k, _, h => by omega
 | m + 1, k, hk, h => by
  have hF := Av hr
  rw [AcK, tn i, er]
  by_cases hlt : k < r.pubs.length
  ·rw [Am (d := pub0) hlt, lt1 hlt, ge0, tn k, nx hlt (by have := hF.pu; omega), AaQ c i r er hr g m (k + 1) (by omega) (by omega), tt, cond_true, cond_true]
   generalize r.pubs.getD k pub0 = p
   have k1 : (ZRo c).oks [AV.agg (List.map C.d (relC r)), AV.c (C.d (D.v (Value.string p.set)))] = true := Aj Gi (c := fun a => Ak a.1.sets) (r, p.set) (by unfold Ak; exact decide_eq_true (by have := hF.se; show r.sets.length <= _; omega))
   have t1 : theT eRS [AV.agg (List.map C.d (relC r)), AV.c (C.d (D.v (Value.string p.set)))] = (r, p.set) := Ag Gi (r, p.set)
   have k2 : (ZRo c).se [AV.agg (List.map C.d (relC r)), AV.c (C.d (D.v (Value.string p.set)))] = A0 r p.set := by dsimp only [ZRo]; rw [t1]
   rw [k1, k2, cond_true]
   simp only [D4]
   cases decide (A0 r p.set < 0) <;> rfl
  ·rw [lt0 hlt, List.drop_of_length_le (by omega)]
   rfl
theorem AaP (c : SCfg) (i : Nat) (r : SRel) (er : c.rels.getD i rel0 = r) (hi : i < c.rels.length) (hr : fitR r = true) (g : Nat) : ∀ (m k : Nat), k <= r.subs.length -> r.subs.length - k < m -> Kz (ZRo c) c i g m k = lN (Dy c.rels i (r.subs.drop k))
 | 0, k, _, h => by omega
 | m + 1, k, hk, h => by
  have hF := Av hr
  rw [AcJ, tn i, er]
  by_cases hlt : k < r.subs.length
  ·rw [Am (d := sub0) hlt, lt1 hlt, nx hlt (by have := hF.su; omega), AaP c i r er hi hr g m (k + 1) (by omega) (by omega), cond_true]
   have k1 : (ZRo c).okf [AV.agg (List.map C.d (cfgC c)), AV.c (C.d (D.v (Value.int IntKind.i64 (i : Int)))), AV.c (C.d (D.v (Value.int IntKind.i64 (k : Int))))] = true := Aj (Fk c) (c := cFk c) ((i : Int), (k : Int)) (Pr hi (by rw [er]; exact hlt))
   have k2 : (ZRo c).fi [AV.agg (List.map C.d (cfgC c)), AV.c (C.d (D.v (Value.int IntKind.i64 (i : Int)))), AV.c (C.d (D.v (Value.int IntKind.i64 (k : Int))))] = Br c.rels i (r.subs.getD k sub0) := by
    dsimp only [ZRo]
    rw [show theT (eFk c) [AV.agg (List.map C.d (cfgC c)), AV.c (C.d (D.v (Value.int IntKind.i64 (i : Int)))), AV.c (C.d (D.v (Value.int IntKind.i64 (k : Int))))] = ((i : Int), (k : Int)) from Ag (Fk c) ((i : Int), (k : Int))]
    unfold fiS
    simp only [Int.toNat_natCast]
    rw [er]
   rw [k1, k2, cond_true]
   simp only [Dy]
   cases hz : ((Br c.rels i (r.subs.getD k sub0)).err != 0) with
   | true => simp only [cond_true, hz]
   | false => rfl
  ·rw [lt0 hlt, List.drop_of_length_le (by omega)]
   rfl
theorem cOne (c : SCfg) (i : Nat) (hc : fitC c.rels = true) (hi : i < c.rels.length) : CX prog 64 [aCfg c, vI i] [] (vI (D2 c.rels i (c.rels.getD i rel0))) [] := by
 obtain ⟨hn, hf, ho⟩ := B2 hc
 have hr := hf _ (A3 rel0 hi)
 obtain ⟨r, er⟩ : ∃ r, c.rels.getD i rel0 = r := ⟨_, rfl⟩
 rw [er] at hr ⊢
 have hF := Av hr
 have ol := Dj r
 have hru := hF.ru
 have hsu := hF.su
 obtain ⟨g, hg⟩ : ∃ g, 2000 < g := ⟨2001, by omega⟩
 refine Ax (sRo c hc).ok func64 bone rfl ((AkA (ZRo c) c i g).trans ?_)
 have e0' : (decide ((0 : Int) <= (i : Int)) && decide ((i : Int) < (c.rels.length : Int))) = true := by rw [decide_eq_true (by omega), decide_eq_true (by omega)]; rfl
 have k1 : (ZRo c).oko [AV.agg (List.map C.d (relC r))] = true := Aj By (c := fitR) r hr
 have t1 : theT eR1 [AV.agg (List.map C.d (relC r))] = r := Ag By r
 have k2 : (ZRo c).ou [AV.agg (List.map C.d (relC r))] = outS r := by dsimp only [ZRo]; rw [t1]
 have k4 : (ZRo c).inn [AV.agg (List.map C.d (relC r))] = inS r := by dsimp only [ZRo]; rw [t1]
 have hcat := RL.cat (c := busC) (d0 := e0) (RL.data (outS r)) (RL.data (inS r))
 have hin : (inS r).length = r.subs.length := by simp [inS]
 have a1 : Asle [AV.c (C.d (D.sl 1 ((outS r).length + (inS r).length) (appF (outS r).length (fun i => busC ((outS r).getD i e0)) fun i => busC ((inS r).getD i e0))))] (eBu (outS r ++ inS r)) := .cons (show DE _ _ from hcat.de (sz := 1)) .nil
 have a2 : Asle (eBu (outS r ++ inS r)) [AV.c (C.d (D.sl 1 ((outS r).length + (inS r).length) (appF (outS r).length (fun i => busC ((outS r).getD i e0)) fun i => busC ((inS r).getD i e0))))] := .cons (show DE _ _ from hcat.ed (sz := 1)) .nil
 have k7 : (ZRo c).okt [AV.c (C.d (D.sl 1 ((outS r).length + (inS r).length) (appF (outS r).length (fun i => busC ((outS r).getD i e0)) fun i => busC ((inS r).getD i e0))))] = true :=
  R2 Km (a := outS r ++ inS r) a1 a2 (by unfold Ak; exact decide_eq_true (by rw [List.length_append]; omega))
 have k8 : (ZRo c).tw [AV.c (C.d (D.sl 1 ((outS r).length + (inS r).length) (appF (outS r).length (fun i => busC ((outS r).getD i e0)) fun i => busC ((inS r).getD i e0))))] = repS [] (outS r ++ inS r) := by
  dsimp only [ZRo]
  rw [J8 Km (a := outS r ++ inS r) a1 a2]
 have k9 : (decide (((outS r).length + (inS r).length) * 16 <= 140737488355328) && decide ((outS r).length + (inS r).length <= 9223372036854775807)) = true := by
  rw [decide_eq_true (by omega), decide_eq_true (by omega)]; rfl
 rw [e0', tn i, er, k1, k2, k4, k7, k8, k9]
 simp only [cond_true]
 unfold D2 D6
 cases hrep : repS [] (outS r ++ inS r) with
 | true => rfl
 | false =>
  rw [cond_false]
  have l2 : P0 (ZRo c) c i g g ((0 : Nat) : Int) = _ := AeU c i r er hr g (by omega) g 0 (by omega) (by have := hF.se; omega)
  have l3 : K0 (ZRo c) c i g g ((0 : Nat) : Int) = _ := AaQ c i r er hr g g 0 (by omega) (by have := hF.pu; omega)
  have l4 : Kz (ZRo c) c i g g ((0 : Nat) : Int) = _ := AaP c i r er hi hr g g 0 (by omega) (by omega)
  rw [List.drop_zero] at l2 l3 l4
  refine Eq.trans l2 ?_
  cases hz : (Cp (outS r) r.sets != 0) with
  | true => simp only [cond_true, cond_false, hz]
  | false =>
   simp only [cond_true, cond_false]
   refine Eq.trans l3 ?_
   cases hy : (D4 r r.pubs != 0) with
   | true => rfl
   | false => exact l4
def eCi (c : SCfg) (i : Int) : List AV := [aCfg c, vI i]
theorem AbQ (c : SCfg) : InjT (eCi c) := fun a b h => Jd _ _ (Ai (Ai h).2).1
def cCi (c : SCfg) (i : Int) : Bool := decide (0 <= i) && decide (i < c.rels.length)
theorem sRc (c : SCfg) (h : fitC c.rels = true) : OrcS prog (oRc (okG (eCi c) (cCi c)) fun x => D2 c.rels (theT (eCi c) x) (c.rels.getD (theT (eCi c) x).toNat rel0)) :=
 .cons (.t' (enc := eCi c) (c := cCi c) (r := fun i => vI (D2 c.rels i (c.rels.getD i.toNat rel0))) fun i hi => by
  unfold cCi at hi
  simp only [Bool.and_eq_true, decide_eq_true_eq] at hi
  obtain ⟨k, rfl⟩ := Int.eq_ofNat_of_zero_le hi.1
  have := cOne c k h (by omega)
  exact this) .nil
theorem AiC (c : SCfg) (g : Nat) (hc : fitC c.rels = true) : ∀ (m k : Nat), k <= c.rels.length -> c.rels.length - k < m -> W7 (okG (eCi c) (cCi c)) (fun x => D2 c.rels (theT (eCi c) x) (c.rels.getD (theT (eCi c) x).toNat rel0)) c g m k = lE (C4 c.rels k (c.rels.drop k))
 | 0, k, _, h => by omega
 | m + 1, k, hk, h => by
  rw [Agb]
  by_cases hlt : k < c.rels.length
  ·have hn := (B2 hc).1
   have k1 : okG (eCi c) (cCi c) [AV.agg (List.map C.d (cfgC c)), AV.c (C.d (D.v (Value.int IntKind.i64 (k : Int))))] = true := Aj (AbQ c) (c := cCi c) (k : Int) (by unfold cCi; rw [decide_eq_true (by omega), decide_eq_true (by omega)]; rfl)
   have t1 : theT (eCi c) [AV.agg (List.map C.d (cfgC c)), AV.c (C.d (D.v (Value.int IntKind.i64 (k : Int))))] = (k : Int) := Ag (AbQ c) (k : Int)
   rw [Am (d := rel0) hlt, lt1 hlt, nx hlt (by omega), AiC c g hc m (k + 1) (by omega) (by omega), k1, t1, tn k, cond_true, cond_true]
   simp only [C4]
   cases hz : (D2 c.rels k (c.rels.getD k rel0) != 0) with
   | true => rfl
   | false => rfl
  ·rw [lt0 hlt, List.drop_of_length_le (by omega)]
   rfl
theorem cRck (c : SCfg) (h : fitC c.rels = true) : CX prog 30 [aCfg c] [] (vQ (C4 c.rels 0 c.rels)) [] :=
 Ax (sRc c h).ok func30 brck rfl ((Aky _ _ c (c.rels.length + 1)).trans (AiC c (c.rels.length + 1) h (c.rels.length + 1) 0 (by omega) (by omega)))
end Go.Proofs.YtbpndheehcbldaaGreatDoor.sg
namespace Go.Proofs.YtbpndheehcbldaaGreatDoor.tb
open Go.RowKit Go.Eb Go.Proofs.YtbpndheehcbldaaGreatDoor.st
set_option maxRecDepth 100000
open Go.Proofs.YtbpndheehcbldaaGreatDoor.sg (fitR FitR Av fitC B2 eR1 By cOuD cSix Dj eFd Kl cFd Jz AdM aPl cFk Pq Pr eFk Fk fiS)
theorem Gv {α β ρ : Type} {c : β -> List D} {d0 : β} {L : Nat -> Nat -> RD -> Int -> ρ} {K : Nat -> RD -> ρ} {l : List α} {d : α} {ch : α -> List D} {e : α -> β} {sz : Nat}
  (hst : ∀ (m k n : Nat) (f : RD), k < l.length -> n <= 5000 -> L (m + 1) n f k = L m (n + 1) (appF n f (Au (ch (l.getD k d)) sz)) ((k + 1 : Nat) : Int))
  (hend : ∀ (m n : Nat) (f : RD), L (m + 1) n f (l.length : Int) = K n f) (hs : ∀ x, (ch x).length = sz) (hch : ∀ k, k < l.length -> DEs (ch (l.getD k d)) (c (e (l.getD k d))) /\ DEs (c (e (l.getD k d))) (ch (l.getD k d))) :
  ∀ (m k n : Nat) (f : RD) (bef : List β), k <= l.length -> l.length - k < m -> n + (l.length - k) <= 5000 -> RL c d0 n f bef ->
   ∃ f', RL c d0 (n + (l.length - k)) f' (bef ++ (l.drop k).map e) /\ L m n f k = K (n + (l.length - k)) f' := by
 intro m
 induction m with
 | zero => intro k n f bef _ h; omega
 | succ m ih =>
  intro k n f bef hk hm hn hr
  by_cases hlt : k < l.length
  ·rw [hst m k n f hlt (by omega)]
   obtain ⟨f', h1, h2⟩ := ih (k + 1) (n + 1) _ (bef ++ [e (l.getD k d)]) (by omega) (by omega) (by omega) (hr.app (hs _) (hch k hlt).1 (hch k hlt).2)
   have e1 : n + 1 + (l.length - (k + 1)) = n + (l.length - k) := by omega
   rw [e1] at h1 h2
   refine ⟨f', ?_, h2⟩
   rw [Am (d := d) hlt]
   simpa using h1
  ·obtain rfl : k = l.length := by omega
   rw [hend]
   refine ⟨f, ?_, by rw [Nat.sub_self, Nat.add_zero]⟩
   simpa using hr
def eIp (a : List SSet × SPub) : List AV × Hp := ([.c (.d (J9 a.1)), .c (.fn 47 [] [.ptr 0 0])], HP a.2)
theorem AbN : InjY eIp := fun a b h1 h2 => Prod.ext (At (sz := 2) (d0 := set0) Gx _ _ (H7 (Ai h1).1))
 (Ji _ _ (Ng (x := pubC a.2) (y := pubC b.2) (J3 (G4 h2 0 (a := .cells ((pubC a.2).map .d) 122) (b := .cells ((pubC b.2).map .d) 122) rfl rfl))))
theorem AiE (l : List SSet) (p : SPub) (g : Nat) (hb : l.length <= 9223372036854775807) : ∀ (m k : Nat), k <= l.length -> l.length - k < m ->
  Xa l p g m k = some (.leaf (vI (idxP (fun s : SSet => isT s.name p.set) k (l.drop k)), HP p))
 | 0, k, _, h => by omega
 | m + 1, k, hk, h => by
  rw [Agf]
  by_cases hlt : k < l.length
  ·rw [Am (d := set0) hlt, lt1 hlt, ge0, tn, nx hlt hb, AiE l p g hb m (k + 1) (by omega) (by omega), tt, cond_true, cond_true]
   simp only [idxP]
   show (bif isT (l.getD k set0).name p.set then _ else _) = _
   cases isT (l.getD k set0).name p.set <;> rfl
  ·rw [lt0 hlt, List.drop_of_length_le (by omega)]
   rfl
theorem cisn (l : List SSet) (p : SPub) (hb : l.length <= 9223372036854775807) :
  CX prog 46 [.c (.d (J9 l)), .c (.fn 47 [] [.ptr 0 0])] (HP p) (vI (idxP (fun s : SSet => isT s.name p.set) 0 l)) (HP p) := by
 have ho : Dh prog (Orc.cons 47 (inl prog Orc.nil na 1 f47) Orc.nil) := (OrcS.cons (.inl .nil func47 (by kernel_rfl)) .nil).ok
 exact Ax ho func46 bisn rfl ((AkH l p (l.length + 1)).trans (AiE l p (l.length + 1) hb (l.length + 1) 0 (by omega) (by omega)))
def ZSn : KSn where
 oko := okG eR1 fitR
 ou x := outS (theT eR1 x)
 oki := okZ eIp fun a => Ak a.1
 ix x H := idxP (fun s : SSet => isT s.name (theY eIp x H).2.set) 0 (theY eIp x H).1
 pb x H := (theY eIp x H).2
 okx := okG eIx cIx
 sx x := Bl (theT eIx x).1 (theT eIx x).2
theorem sSn : OrcS prog (oSn ZSn) :=
 .cons (.t' (enc := eR1) (c := fitR) (r := fun r => .c (.d (Ab (outS r)))) fun r h => cOuD r (Av h))
  (.cons (.m (enc := eIp) (c := fun a => Ak a.1) (r := fun a => vI (idxP (fun s : SSet => isT s.name a.2.set) 0 a.1)) (H' := fun a => HP a.2) fun a h => cisn a.1 a.2 (A7 h))
  (.cons (.t' (enc := eIx) (c := cIx) (r := fun a => vI (Bl a.1 a.2)) fun a h => cSix a.1 a.2 h) (.cons (.inl .nil func49 (by kernel_rfl)) .nil)))
theorem zSn {r : SRel} (h : FitR r) (p : SPub) : ZSn.oki [AV.c (C.d (Aa 2 setC set0 r.sets)), AV.c (C.fn 47 [] [Rf.ptr 0 0])] [(0, Blk.cells (List.map C.d (pubC p)) 122)] = true /\
  ZSn.ix [AV.c (C.d (Aa 2 setC set0 r.sets)), AV.c (C.fn 47 [] [Rf.ptr 0 0])] [(0, Blk.cells (List.map C.d (pubC p)) 122)] = A0 r p.set /\
  ZSn.pb [AV.c (C.d (Aa 2 setC set0 r.sets)), AV.c (C.fn 47 [] [Rf.ptr 0 0])] [(0, Blk.cells (List.map C.d (pubC p)) 122)] = p := by
 have t : theY eIp [AV.c (C.d (Aa 2 setC set0 r.sets)), AV.c (C.fn 47 [] [Rf.ptr 0 0])] [(0, Blk.cells (List.map C.d (pubC p)) 122)] = (r.sets, p) := E6 AbN (r.sets, p)
 refine ⟨Hs AbN (c := fun a => Ak a.1) (r.sets, p) (by unfold Ak; exact decide_eq_true (by have := h.se; show r.sets.length <= _; omega)), ?_, ?_⟩
 ·dsimp only [ZSn]; rw [t]; rfl
 ·dsimp only [ZSn]; rw [t]
theorem zSx {r : SRel} (h : FitR r) (x : ByteArray) : ZSn.okx [AV.c (C.d (Aa 1 busC e0 (outS r))), AV.c (C.d (D.v (Value.string x)))] = true /\ ZSn.sx [AV.c (C.d (Aa 1 busC e0 (outS r))), AV.c (C.d (D.v (Value.string x)))] = Bl (outS r) x := by
 have t : theT eIx [AV.c (C.d (Aa 1 busC e0 (outS r))), AV.c (C.d (D.v (Value.string x)))] = (outS r, x) := Ag Cv (outS r, x)
 refine ⟨Aj Cv (c := cIx) (outS r, x) (by unfold cIx Ak; exact decide_eq_true (by have := Dj r; have := h.ru; show (outS r).length <= _; omega)), ?_⟩
 dsimp only [ZSn]; rw [t]
theorem zSo {r : SRel} (h : fitR r = true) : ZSn.oko [AV.agg (List.map C.d (relC r))] = true /\ ZSn.ou [AV.agg (List.map C.d (relC r))] = outS r := by
 have t : theT eR1 [AV.agg (List.map C.d (relC r))] = r := Ag By r
 refine ⟨Aj By (c := fitR) r h, ?_⟩
 dsimp only [ZSn]; rw [t]
theorem ap8 {n : Nat} (h : n <= 9000) : (decide ((n + 1) * 8 <= 140737488355328) && decide (n + 1 <= 9223372036854775807)) = true := by
 rw [decide_eq_true (by omega), decide_eq_true (by omega)]; rfl
theorem ap56 {n : Nat} (h : n <= 9000) : (decide ((n + 1) * 56 <= 140737488355328) && decide (n + 1 <= 9223372036854775807)) = true := by
 rw [decide_eq_true (by omega), decide_eq_true (by omega)]; rfl
theorem inb {k n : Nat} (h : k < n) : (decide ((0 : Int) <= (k : Int)) && decide ((k : Int) < (n : Int))) = true := by rw [decide_eq_true (by omega), decide_eq_true (by omega)]; rfl
theorem Vw {n : Nat} {f : RD} {ps : List Pbl} (h : RL pblC pbl0 n f ps) (p : Pbl) {m : Nat} {g : RD} (hs : RL nC 0 m g p.sigs) :
  RL pblC pbl0 (n + 1) (appF n f (Au [D.v (Value.int IntKind.i64 p.rel), D.v (Value.int IntKind.i64 p.set), D.v (Value.int IntKind.i64 p.fst), D.v (Value.int IntKind.i64 p.max), D.sl 1 m g] 5)) (ps ++ [p]) := by
 have one : ∀ {a b : D}, DE a b -> DEs [a] [b] := fun h => ⟨rfl, fun j d e hd he => by
  match j with
  | 0 => simp at hd he; subst hd he; exact h
  | j + 1 => simp at hd⟩
 refine h.app rfl ?_ ?_
 ·exact DEs.app (a := [dI p.rel, dI p.set, dI p.fst, dI p.max]) (a' := [dI p.rel, dI p.set, dI p.fst, dI p.max]) (.refl _) (one hs.de)
 ·exact DEs.app (a := [dI p.rel, dI p.set, dI p.fst, dI p.max]) (a' := [dI p.rel, dI p.set, dI p.fst, dI p.max]) (.refl _) (one hs.ed)
abbrev aTb (l : List ByteArray) (h s : Nat) : AV := .agg [.d (Ab l), .row h 1 s, .d (.v (.slice none 0 0))]
def HB0 (c : SCfg) (mp : MV) (n : Nat) (f : RD) (d : Nat) (e : RD) (s : Nat) (t : RD) : Hp := HKB c mp n f d e ++ [(4, .row s t 1 3)]
def HB1 (c : SCfg) (mp : MV) (n : Nat) (f : RD) (d : Nat) (e : RD) (s : Nat) (t : RD) : Hp := [(0, .cells ((cfgC c).map .d ++ [.mp 1, .row 4 5 n, .row 3 3 d]) 81), (1, .map 4 mp), (2, .dead), (3, .row d e 3 51), (4, .row n f 5 70), (5, .row s t 1 3)]
def HA0 (c : SCfg) (n : Nat) (f : RD) (d : Nat) (e : RD) (s : Nat) (t : RD) : Hp := HKA c n f d e ++ [(3, .row s t 1 3)]
def HA1 (c : SCfg) (mp : MV) (n : Nat) (f : RD) (d : Nat) (e : RD) (s : Nat) (t : RD) : Hp := [(0, .cells ((cfgC c).map .d ++ [.mp 3, .row 4 5 n, .row 2 3 d]) 81), (1, .dead), (2, .row d e 3 51), (3, .map 4 mp), (4, .row n f 5 70), (5, .row s t 1 3)]
def nums (a n : Nat) : List Int := (List.range n).map fun j => ((a + j : Nat) : Int)
theorem Gc (a n : Nat) : nums a (n + 1) = (a : Int) :: nums (a + 1) n := by
 unfold nums
 rw [List.range_succ_eq_map]
 simp only [List.map_cons, List.map_map, Nat.add_zero]
 congr 1
 apply List.map_congr_left
 intro j _
 show ((a + (j + 1) : Nat) : Int) = ((a + 1 + j : Nat) : Int)
 congr 1; omega
theorem in_b (c : SCfg) (mp0 : MV) (np0 : Nat) (fp0 : RD) (nd0 : Nat) (fd0 : RD) (i : Nat) (r : SRel) (er : c.rels.getD i rel0 = r) (hr : fitR r = true) (g mo : Nat) (hg : 1000 < g) (mp : MV) (n : Nat) (f : RD) (d : Nat) (e : RD) (s : Nat) (t : RD) (k : Nat) (hk : k < r.pubs.length) (p : SPub) (ep : r.pubs.getD k pub0 = p) (ix : Nat)
  (hix : A0 r p.set = ix) (hlt : ix < r.sets.length) (hn : n <= 9000) (hs : s <= 9000) :
  ∃ f9, RL nC 0 (r.sets.getD ix set0).sigs.length f9 ((r.sets.getD ix set0).sigs.map (Bl (outS r))) /\ S4 ZSn c mp0 np0 fp0 nd0 fd0 i g mo g mp n f d e s t 0 (fun _ => []) (ix : Int) (k : Int) ((r.sets.getD ix set0).sigs.length : Nat) 0 (ix : Int) p.fst p.max =
   Ee ZSn c mp0 np0 fp0 nd0 fd0 i g mo ((kPr i ix, Value.int IntKind.i64 (dlen mp : Nat)) :: mp) d e (n + 1) (appF n f (Au [D.v (Value.int IntKind.i64 i), D.v (Value.int IntKind.i64 ix), D.v (Value.int IntKind.i64 p.fst), D.v (Value.int IntKind.i64 p.max), D.sl 1 (r.sets.getD ix set0).sigs.length f9] 5)) (s + 1) (appF s t (Au [D.v (Value.int IntKind.i64 (dlen mp : Nat))] 1)) ((k + 1 : Nat) : Int) := by
 have hF := Av hr
 have hsg := hF.sg _ (A3 set0 hlt)
 obtain ⟨o1, o2⟩ := zSo hr
 obtain ⟨z1, z2, z3⟩ := zSn hF p
 rw [hix] at z2
 obtain ⟨f9, h1, h2⟩ := Gv (L := fun m n9 f9 j => S4 ZSn c mp0 np0 fp0 nd0 fd0 i g mo m mp n f d e s t n9 f9 (ix : Int) (k : Int) ((r.sets.getD ix set0).sigs.length : Nat) j (ix : Int) p.fst p.max)
  (K := fun n9 f9 => Ee ZSn c mp0 np0 fp0 nd0 fd0 i g mo ((kPr i ix, Value.int IntKind.i64 (dlen mp : Nat)) :: mp) d e (n + 1) (appF n f (Au [D.v (Value.int IntKind.i64 i), D.v (Value.int IntKind.i64 ix), D.v (Value.int IntKind.i64 p.fst), D.v (Value.int IntKind.i64 p.max), D.sl 1 n9 f9] 5)) (s + 1) (appF s t (Au [D.v (Value.int IntKind.i64 (dlen mp : Nat))] 1)) ((k + 1 : Nat) : Int)) (l := (r.sets.getD ix set0).sigs) (d := e0) (c := nC) (d0 := (0 : Int)) (ch := fun x => [D.v (Value.int IntKind.i64 (Bl (outS r) x))]) (e := Bl (outS r)) (sz := 1)
  (fun m j n9 f9 hj hn9 => by
    obtain ⟨x1, x2⟩ := zSx hF ((r.sets.getD ix set0).sigs.getD j e0)
    rw [Yx, tn i, er, tn k, ep, z2, tn ix, tn j, lt1 hj, ge0, o2, x1, x2, ap8 (n := n9) (by omega), nx hj (by omega), tt, cond_true, cond_true, cond_true, cond_true, Nat.zero_add])
  (fun m n9 f9 => by
    rw [Yx, lt0 (Nat.lt_irrefl _), ap8 (n := s) (by omega), ap56 (n := n) (by omega), nx hk (by have := hF.pu; omega), cond_false, cond_true, cond_true, Nat.zero_add, show (4 : Nat) + 1 = 5 from rfl]
    rfl)
  (fun _ => rfl) (fun j hj => ⟨.refl _, .refl _⟩) g 0 0 (fun _ => []) [] (by omega) (by omega) (by omega) (.nil _)
 simp only [Nat.sub_zero, Nat.zero_add, List.nil_append, List.drop_zero] at h1 h2
 exact ⟨f9, h1, h2⟩
theorem sp_b (c : SCfg) (mp0 : MV) (np0 : Nat) (fp0 : RD) (nd0 : Nat) (fd0 : RD) (i : Nat) (r : SRel) (er : c.rels.getD i rel0 = r) (hr : fitR r = true) (hx : ∀ p ∈ r.pubs, 0 <= A0 r p.set) (g m : Nat) (hg : 1000 < g) (mp : MV) (n : Nat) (f : RD) (d : Nat) (e : RD) (s : Nat) (t : RD) (k : Nat) (hk : k < r.pubs.length)
  (ps : List Pbl) (sn : List Int) (hP : RL pblC pbl0 n f ps) (hS : RL nC 0 s t sn) (hn : n <= 9000) (hs : s <= 9000) :
  ∃ f' t', RL pblC pbl0 (n + 1) f' (ps ++ [Be i r (r.pubs.getD k pub0)]) /\ RL nC 0 (s + 1) t' (sn ++ [(dlen mp : Int)]) /\ Acp ZSn c mp0 np0 fp0 nd0 fd0 i g (m + 1) mp n f d e s t (k : Int) =
   Ee ZSn c mp0 np0 fp0 nd0 fd0 i g m ((kPr i (A0 r (r.pubs.getD k pub0).set), Value.int IntKind.i64 (dlen mp : Nat)) :: mp) d e (n + 1) f' (s + 1) t' ((k + 1 : Nat) : Int) := by
 have hF := Av hr
 obtain ⟨p, ep⟩ : ∃ p, r.pubs.getD k pub0 = p := ⟨_, rfl⟩
 have hp := hx _ (A3 pub0 hk)
 rw [ep] at hp ⊢
 obtain ⟨ix, hlt, hix, _⟩ := De set0 hp
 have hix : A0 r p.set = ix := hix
 obtain ⟨o1, o2⟩ := zSo hr
 obtain ⟨z1, z2, z3⟩ := zSn hF p
 rw [hix] at z2
 obtain ⟨f9, h1, h2⟩ := in_b c mp0 np0 fp0 nd0 fd0 i r er hr g m hg mp n f d e s t k hk p ep ix hix hlt hn hs
 have e1 : (Be i r p).sigs = (r.sets.getD ix set0).sigs.map (Bl (outS r)) := by
  show (r.sets.getD (A0 r p.set).toNat set0).sigs.map _ = _
  rw [hix, Int.toNat_natCast]
 have g1 := Vw hP (Be i r p) (m := (r.sets.getD ix set0).sigs.length) (g := f9) (by rw [e1]; exact h1)
 have e2 : (Be i r p).set = (ix : Int) := hix
 rw [e2] at g1
 refine ⟨_, _, g1, hS.app (x := (dlen mp : Int)) (sz := 1) (ds := [D.v (Value.int IntKind.i64 (dlen mp : Nat))]) rfl (.refl _) (.refl _), ?_⟩
 rw [Yy, tn i, er, tn k, ep, z1, z2, z3, inb hk, inb hlt, lt1 hk, tn ix, cond_true, cond_true, cond_true, cond_true, hix]
 exact h2
theorem Akf (c : SCfg) (mp0 : MV) (np0 : Nat) (fp0 : RD) (nd0 : Nat) (fd0 : RD) (i : Nat) (r : SRel) (er : c.rels.getD i rel0 = r) (hr : fitR r = true) (g mo : Nat) (hg : 1000 < g) (mp : MV) (n : Nat) (f : RD) (d : Nat) (e : RD) (s : Nat) (t : RD) (k : Nat) (hk : k < r.pubs.length) (p : SPub) (ep : r.pubs.getD k pub0 = p) (ix : Nat)
  (hix : A0 r p.set = ix) (hlt : ix < r.sets.length) (hn : n <= 9000) (hs : s <= 9000) :
  ∃ f9, RL nC 0 (r.sets.getD ix set0).sigs.length f9 ((r.sets.getD ix set0).sigs.map (Bl (outS r))) /\ Ni ZSn c mp0 np0 fp0 nd0 fd0 i g mo g mp d e n f s t 0 (fun _ => []) (ix : Int) (k : Int) ((r.sets.getD ix set0).sigs.length : Nat) 0 (ix : Int) p.fst p.max =
   Ee ZSn c mp0 np0 fp0 nd0 fd0 i g mo ((kPr i ix, Value.int IntKind.i64 (dlen mp : Nat)) :: mp) d e (n + 1) (appF n f (Au [D.v (Value.int IntKind.i64 i), D.v (Value.int IntKind.i64 ix), D.v (Value.int IntKind.i64 p.fst), D.v (Value.int IntKind.i64 p.max), D.sl 1 (r.sets.getD ix set0).sigs.length f9] 5)) (s + 1) (appF s t (Au [D.v (Value.int IntKind.i64 (dlen mp : Nat))] 1)) ((k + 1 : Nat) : Int) := by
 have hF := Av hr
 have hsg := hF.sg _ (A3 set0 hlt)
 obtain ⟨o1, o2⟩ := zSo hr
 obtain ⟨z1, z2, z3⟩ := zSn hF p
 rw [hix] at z2
 obtain ⟨f9, h1, h2⟩ := Gv (L := fun m n9 f9 j => Ni ZSn c mp0 np0 fp0 nd0 fd0 i g mo m mp d e n f s t n9 f9 (ix : Int) (k : Int) ((r.sets.getD ix set0).sigs.length : Nat) j (ix : Int) p.fst p.max)
  (K := fun n9 f9 => Ee ZSn c mp0 np0 fp0 nd0 fd0 i g mo ((kPr i ix, Value.int IntKind.i64 (dlen mp : Nat)) :: mp) d e (n + 1) (appF n f (Au [D.v (Value.int IntKind.i64 i), D.v (Value.int IntKind.i64 ix), D.v (Value.int IntKind.i64 p.fst), D.v (Value.int IntKind.i64 p.max), D.sl 1 n9 f9] 5)) (s + 1) (appF s t (Au [D.v (Value.int IntKind.i64 (dlen mp : Nat))] 1)) ((k + 1 : Nat) : Int)) (l := (r.sets.getD ix set0).sigs) (d := e0) (c := nC) (d0 := (0 : Int)) (ch := fun x => [D.v (Value.int IntKind.i64 (Bl (outS r) x))]) (e := Bl (outS r)) (sz := 1)
  (fun m j n9 f9 hj hn9 => by
    obtain ⟨x1, x2⟩ := zSx hF ((r.sets.getD ix set0).sigs.getD j e0)
    rw [Vb, tn i, er, tn k, ep, z2, tn ix, tn j, lt1 hj, ge0, o2, x1, x2, ap8 (n := n9) (by omega), nx hj (by omega), tt, cond_true, cond_true, cond_true, cond_true, Nat.zero_add])
  (fun m n9 f9 => by
    rw [Vb, lt0 (Nat.lt_irrefl _), ap8 (n := s) (by omega), ap56 (n := n) (by omega), nx hk (by have := hF.pu; omega), cond_false, cond_true, cond_true, Nat.zero_add, show (4 : Nat) + 1 = 5 from rfl]
    rfl)
  (fun _ => rfl) (fun j hj => ⟨.refl _, .refl _⟩) g 0 0 (fun _ => []) [] (by omega) (by omega) (by omega) (.nil _)
 simp only [Nat.sub_zero, Nat.zero_add, List.nil_append, List.drop_zero] at h1 h2
 exact ⟨f9, h1, h2⟩
theorem AjS (c : SCfg) (mp0 : MV) (np0 : Nat) (fp0 : RD) (nd0 : Nat) (fd0 : RD) (i : Nat) (r : SRel) (er : c.rels.getD i rel0 = r) (hr : fitR r = true) (hx : ∀ p ∈ r.pubs, 0 <= A0 r p.set) (g m : Nat) (hg : 1000 < g) (mp : MV) (n : Nat) (f : RD) (d : Nat) (e : RD) (s : Nat) (t : RD) (k : Nat) (hk : k < r.pubs.length)
  (ps : List Pbl) (sn : List Int) (hP : RL pblC pbl0 n f ps) (hS : RL nC 0 s t sn) (hn : n <= 9000) (hs : s <= 9000) :
  ∃ f' t', RL pblC pbl0 (n + 1) f' (ps ++ [Be i r (r.pubs.getD k pub0)]) /\ RL nC 0 (s + 1) t' (sn ++ [(dlen mp : Int)]) /\ Ee ZSn c mp0 np0 fp0 nd0 fd0 i g (m + 1) mp d e n f s t (k : Int) =
   Ee ZSn c mp0 np0 fp0 nd0 fd0 i g m ((kPr i (A0 r (r.pubs.getD k pub0).set), Value.int IntKind.i64 (dlen mp : Nat)) :: mp) d e (n + 1) f' (s + 1) t' ((k + 1 : Nat) : Int) := by
 have hF := Av hr
 obtain ⟨p, ep⟩ : ∃ p, r.pubs.getD k pub0 = p := ⟨_, rfl⟩
 have hp := hx _ (A3 pub0 hk)
 rw [ep] at hp ⊢
 obtain ⟨ix, hlt, hix, _⟩ := De set0 hp
 have hix : A0 r p.set = ix := hix
 obtain ⟨o1, o2⟩ := zSo hr
 obtain ⟨z1, z2, z3⟩ := zSn hF p
 rw [hix] at z2
 obtain ⟨f9, h1, h2⟩ := Akf c mp0 np0 fp0 nd0 fd0 i r er hr g m hg mp n f d e s t k hk p ep ix hix hlt hn hs
 have e1 : (Be i r p).sigs = (r.sets.getD ix set0).sigs.map (Bl (outS r)) := by
  show (r.sets.getD (A0 r p.set).toNat set0).sigs.map _ = _
  rw [hix, Int.toNat_natCast]
 have g1 := Vw hP (Be i r p) (m := (r.sets.getD ix set0).sigs.length) (g := f9) (by rw [e1]; exact h1)
 have e2 : (Be i r p).set = (ix : Int) := hix
 rw [e2] at g1
 refine ⟨_, _, g1, hS.app (x := (dlen mp : Int)) (sz := 1) (ds := [D.v (Value.int IntKind.i64 (dlen mp : Nat))]) rfl (.refl _) (.refl _), ?_⟩
 rw [Vc, tn i, er, tn k, ep, z1, z2, z3, inb hk, inb hlt, lt1 hk, tn ix, cond_true, cond_true, cond_true, cond_true, hix]
 exact h2
theorem in_a (c : SCfg) (np0 : Nat) (fp0 : RD) (nd0 : Nat) (fd0 : RD) (i : Nat) (r : SRel) (er : c.rels.getD i rel0 = r) (hr : fitR r = true) (g mo : Nat) (hg : 1000 < g) (n : Nat) (f : RD) (d : Nat) (e : RD) (s : Nat) (t : RD) (k : Nat) (hk : k < r.pubs.length) (p : SPub) (ep : r.pubs.getD k pub0 = p) (ix : Nat)
  (hix : A0 r p.set = ix) (hlt : ix < r.sets.length) (hn : n <= 9000) (hs : s <= 9000) :
  ∃ f9, RL nC 0 (r.sets.getD ix set0).sigs.length f9 ((r.sets.getD ix set0).sigs.map (Bl (outS r))) /\ S5 ZSn c np0 fp0 nd0 fd0 i g mo g n f d e s t 0 (fun _ => []) (ix : Int) (k : Int) ((r.sets.getD ix set0).sigs.length : Nat) 0 (ix : Int) p.fst p.max =
   Ef ZSn c np0 fp0 nd0 fd0 i g mo d e ((kPr i ix, Value.int IntKind.i64 (dlen [] : Nat)) :: []) (n + 1) (appF n f (Au [D.v (Value.int IntKind.i64 i), D.v (Value.int IntKind.i64 ix), D.v (Value.int IntKind.i64 p.fst), D.v (Value.int IntKind.i64 p.max), D.sl 1 (r.sets.getD ix set0).sigs.length f9] 5)) (s + 1) (appF s t (Au [D.v (Value.int IntKind.i64 (dlen [] : Nat))] 1)) ((k + 1 : Nat) : Int) := by
 have hF := Av hr
 have hsg := hF.sg _ (A3 set0 hlt)
 obtain ⟨o1, o2⟩ := zSo hr
 obtain ⟨z1, z2, z3⟩ := zSn hF p
 rw [hix] at z2
 obtain ⟨f9, h1, h2⟩ := Gv (L := fun m n9 f9 j => S5 ZSn c np0 fp0 nd0 fd0 i g mo m n f d e s t n9 f9 (ix : Int) (k : Int) ((r.sets.getD ix set0).sigs.length : Nat) j (ix : Int) p.fst p.max)
  (K := fun n9 f9 => Ef ZSn c np0 fp0 nd0 fd0 i g mo d e ((kPr i ix, Value.int IntKind.i64 (dlen [] : Nat)) :: []) (n + 1) (appF n f (Au [D.v (Value.int IntKind.i64 i), D.v (Value.int IntKind.i64 ix), D.v (Value.int IntKind.i64 p.fst), D.v (Value.int IntKind.i64 p.max), D.sl 1 n9 f9] 5)) (s + 1) (appF s t (Au [D.v (Value.int IntKind.i64 (dlen [] : Nat))] 1)) ((k + 1 : Nat) : Int)) (l := (r.sets.getD ix set0).sigs) (d := e0) (c := nC) (d0 := (0 : Int)) (ch := fun x => [D.v (Value.int IntKind.i64 (Bl (outS r) x))]) (e := Bl (outS r)) (sz := 1)
  (fun m j n9 f9 hj hn9 => by
    obtain ⟨x1, x2⟩ := zSx hF ((r.sets.getD ix set0).sigs.getD j e0)
    rw [Yz, tn i, er, tn k, ep, z2, tn ix, tn j, lt1 hj, ge0, o2, x1, x2, ap8 (n := n9) (by omega), nx hj (by omega), tt, cond_true, cond_true, cond_true, cond_true, Nat.zero_add])
  (fun m n9 f9 => by
    rw [Yz, lt0 (Nat.lt_irrefl _), ap8 (n := s) (by omega), ap56 (n := n) (by omega), nx hk (by have := hF.pu; omega), cond_false, cond_true, cond_true, Nat.zero_add, show (4 : Nat) + 1 = 5 from rfl]
    rfl)
  (fun _ => rfl) (fun j hj => ⟨.refl _, .refl _⟩) g 0 0 (fun _ => []) [] (by omega) (by omega) (by omega) (.nil _)
 simp only [Nat.sub_zero, Nat.zero_add, List.nil_append, List.drop_zero] at h1 h2
 exact ⟨f9, h1, h2⟩
theorem sp_a (c : SCfg) (np0 : Nat) (fp0 : RD) (nd0 : Nat) (fd0 : RD) (i : Nat) (r : SRel) (er : c.rels.getD i rel0 = r) (hr : fitR r = true) (hx : ∀ p ∈ r.pubs, 0 <= A0 r p.set) (g m : Nat) (hg : 1000 < g) (n : Nat) (f : RD) (d : Nat) (e : RD) (s : Nat) (t : RD) (k : Nat) (hk : k < r.pubs.length)
  (ps : List Pbl) (sn : List Int) (hP : RL pblC pbl0 n f ps) (hS : RL nC 0 s t sn) (hn : n <= 9000) (hs : s <= 9000) :
  ∃ f' t', RL pblC pbl0 (n + 1) f' (ps ++ [Be i r (r.pubs.getD k pub0)]) /\ RL nC 0 (s + 1) t' (sn ++ [(dlen [] : Int)]) /\ Acq ZSn c np0 fp0 nd0 fd0 i g (m + 1) n f d e s t (k : Int) =
   Ef ZSn c np0 fp0 nd0 fd0 i g m d e ((kPr i (A0 r (r.pubs.getD k pub0).set), Value.int IntKind.i64 (dlen [] : Nat)) :: []) (n + 1) f' (s + 1) t' ((k + 1 : Nat) : Int) := by
 have hF := Av hr
 obtain ⟨p, ep⟩ : ∃ p, r.pubs.getD k pub0 = p := ⟨_, rfl⟩
 have hp := hx _ (A3 pub0 hk)
 rw [ep] at hp ⊢
 obtain ⟨ix, hlt, hix, _⟩ := De set0 hp
 have hix : A0 r p.set = ix := hix
 obtain ⟨o1, o2⟩ := zSo hr
 obtain ⟨z1, z2, z3⟩ := zSn hF p
 rw [hix] at z2
 obtain ⟨f9, h1, h2⟩ := in_a c np0 fp0 nd0 fd0 i r er hr g m hg n f d e s t k hk p ep ix hix hlt hn hs
 have e1 : (Be i r p).sigs = (r.sets.getD ix set0).sigs.map (Bl (outS r)) := by
  show (r.sets.getD (A0 r p.set).toNat set0).sigs.map _ = _
  rw [hix, Int.toNat_natCast]
 have g1 := Vw hP (Be i r p) (m := (r.sets.getD ix set0).sigs.length) (g := f9) (by rw [e1]; exact h1)
 have e2 : (Be i r p).set = (ix : Int) := hix
 rw [e2] at g1
 refine ⟨_, _, g1, hS.app (x := (dlen [] : Int)) (sz := 1) (ds := [D.v (Value.int IntKind.i64 (dlen [] : Nat))]) rfl (.refl _) (.refl _), ?_⟩
 rw [Y0, tn i, er, tn k, ep, z1, z2, z3, inb hk, inb hlt, lt1 hk, tn ix, cond_true, cond_true, cond_true, cond_true, hix]
 exact h2
theorem Akg (c : SCfg) (np0 : Nat) (fp0 : RD) (nd0 : Nat) (fd0 : RD) (i : Nat) (r : SRel) (er : c.rels.getD i rel0 = r) (hr : fitR r = true) (g mo : Nat) (hg : 1000 < g) (mp : MV) (n : Nat) (f : RD) (d : Nat) (e : RD) (s : Nat) (t : RD) (k : Nat) (hk : k < r.pubs.length) (p : SPub) (ep : r.pubs.getD k pub0 = p) (ix : Nat)
  (hix : A0 r p.set = ix) (hlt : ix < r.sets.length) (hn : n <= 9000) (hs : s <= 9000) :
  ∃ f9, RL nC 0 (r.sets.getD ix set0).sigs.length f9 ((r.sets.getD ix set0).sigs.map (Bl (outS r))) /\ Nj ZSn c np0 fp0 nd0 fd0 i g mo g d e mp n f s t 0 (fun _ => []) (ix : Int) (k : Int) ((r.sets.getD ix set0).sigs.length : Nat) 0 (ix : Int) p.fst p.max =
   Ef ZSn c np0 fp0 nd0 fd0 i g mo d e ((kPr i ix, Value.int IntKind.i64 (dlen mp : Nat)) :: mp) (n + 1) (appF n f (Au [D.v (Value.int IntKind.i64 i), D.v (Value.int IntKind.i64 ix), D.v (Value.int IntKind.i64 p.fst), D.v (Value.int IntKind.i64 p.max), D.sl 1 (r.sets.getD ix set0).sigs.length f9] 5)) (s + 1) (appF s t (Au [D.v (Value.int IntKind.i64 (dlen mp : Nat))] 1)) ((k + 1 : Nat) : Int) := by
 have hF := Av hr
 have hsg := hF.sg _ (A3 set0 hlt)
 obtain ⟨o1, o2⟩ := zSo hr
 obtain ⟨z1, z2, z3⟩ := zSn hF p
 rw [hix] at z2
 obtain ⟨f9, h1, h2⟩ := Gv (L := fun m n9 f9 j => Nj ZSn c np0 fp0 nd0 fd0 i g mo m d e mp n f s t n9 f9 (ix : Int) (k : Int) ((r.sets.getD ix set0).sigs.length : Nat) j (ix : Int) p.fst p.max)
  (K := fun n9 f9 => Ef ZSn c np0 fp0 nd0 fd0 i g mo d e ((kPr i ix, Value.int IntKind.i64 (dlen mp : Nat)) :: mp) (n + 1) (appF n f (Au [D.v (Value.int IntKind.i64 i), D.v (Value.int IntKind.i64 ix), D.v (Value.int IntKind.i64 p.fst), D.v (Value.int IntKind.i64 p.max), D.sl 1 n9 f9] 5)) (s + 1) (appF s t (Au [D.v (Value.int IntKind.i64 (dlen mp : Nat))] 1)) ((k + 1 : Nat) : Int)) (l := (r.sets.getD ix set0).sigs) (d := e0) (c := nC) (d0 := (0 : Int)) (ch := fun x => [D.v (Value.int IntKind.i64 (Bl (outS r) x))]) (e := Bl (outS r)) (sz := 1)
  (fun m j n9 f9 hj hn9 => by
    obtain ⟨x1, x2⟩ := zSx hF ((r.sets.getD ix set0).sigs.getD j e0)
    rw [Vd, tn i, er, tn k, ep, z2, tn ix, tn j, lt1 hj, ge0, o2, x1, x2, ap8 (n := n9) (by omega), nx hj (by omega), tt, cond_true, cond_true, cond_true, cond_true, Nat.zero_add])
  (fun m n9 f9 => by
    rw [Vd, lt0 (Nat.lt_irrefl _), ap8 (n := s) (by omega), ap56 (n := n) (by omega), nx hk (by have := hF.pu; omega), cond_false, cond_true, cond_true, Nat.zero_add, show (4 : Nat) + 1 = 5 from rfl]
    rfl)
  (fun _ => rfl) (fun j hj => ⟨.refl _, .refl _⟩) g 0 0 (fun _ => []) [] (by omega) (by omega) (by omega) (.nil _)
 simp only [Nat.sub_zero, Nat.zero_add, List.nil_append, List.drop_zero] at h1 h2
 exact ⟨f9, h1, h2⟩
theorem AjT (c : SCfg) (np0 : Nat) (fp0 : RD) (nd0 : Nat) (fd0 : RD) (i : Nat) (r : SRel) (er : c.rels.getD i rel0 = r) (hr : fitR r = true) (hx : ∀ p ∈ r.pubs, 0 <= A0 r p.set) (g m : Nat) (hg : 1000 < g) (mp : MV) (n : Nat) (f : RD) (d : Nat) (e : RD) (s : Nat) (t : RD) (k : Nat) (hk : k < r.pubs.length)
  (ps : List Pbl) (sn : List Int) (hP : RL pblC pbl0 n f ps) (hS : RL nC 0 s t sn) (hn : n <= 9000) (hs : s <= 9000) :
  ∃ f' t', RL pblC pbl0 (n + 1) f' (ps ++ [Be i r (r.pubs.getD k pub0)]) /\ RL nC 0 (s + 1) t' (sn ++ [(dlen mp : Int)]) /\ Ef ZSn c np0 fp0 nd0 fd0 i g (m + 1) d e mp n f s t (k : Int) =
   Ef ZSn c np0 fp0 nd0 fd0 i g m d e ((kPr i (A0 r (r.pubs.getD k pub0).set), Value.int IntKind.i64 (dlen mp : Nat)) :: mp) (n + 1) f' (s + 1) t' ((k + 1 : Nat) : Int) := by
 have hF := Av hr
 obtain ⟨p, ep⟩ : ∃ p, r.pubs.getD k pub0 = p := ⟨_, rfl⟩
 have hp := hx _ (A3 pub0 hk)
 rw [ep] at hp ⊢
 obtain ⟨ix, hlt, hix, _⟩ := De set0 hp
 have hix : A0 r p.set = ix := hix
 obtain ⟨o1, o2⟩ := zSo hr
 obtain ⟨z1, z2, z3⟩ := zSn hF p
 rw [hix] at z2
 obtain ⟨f9, h1, h2⟩ := Akg c np0 fp0 nd0 fd0 i r er hr g m hg mp n f d e s t k hk p ep ix hix hlt hn hs
 have e1 : (Be i r p).sigs = (r.sets.getD ix set0).sigs.map (Bl (outS r)) := by
  show (r.sets.getD (A0 r p.set).toNat set0).sigs.map _ = _
  rw [hix, Int.toNat_natCast]
 have g1 := Vw hP (Be i r p) (m := (r.sets.getD ix set0).sigs.length) (g := f9) (by rw [e1]; exact h1)
 have e2 : (Be i r p).set = (ix : Int) := hix
 rw [e2] at g1
 refine ⟨_, _, g1, hS.app (x := (dlen mp : Int)) (sz := 1) (ds := [D.v (Value.int IntKind.i64 (dlen mp : Nat))]) rfl (.refl _) (.refl _), ?_⟩
 rw [Ve, tn i, er, tn k, ep, z1, z2, z3, inb hk, inb hlt, lt1 hk, tn ix, cond_true, cond_true, cond_true, cond_true, hix]
 exact h2
theorem AjZ (c : SCfg) (mp0 : MV) (np0 : Nat) (fp0 : RD) (nd0 : Nat) (fd0 : RD) (i : Nat) (r : SRel) (er : c.rels.getD i rel0 = r) (hr : fitR r = true) (hx : ∀ p ∈ r.pubs, 0 <= A0 r p.set) (g : Nat) (hg : 1000 < g) (d : Nat) (e : RD) : ∀ (m k n : Nat) (f : RD) (s : Nat) (t : RD) (ps : List Pbl) (sn : List Int),
  k <= r.pubs.length -> r.pubs.length - k < m -> RL pblC pbl0 n f ps -> RL nC 0 s t sn -> ((ps ++ (r.pubs.drop k).map (Be i r)).map pkey).Nodup -> n + (r.pubs.length - k) <= 8000 -> s + (r.pubs.length - k) <= 8000 ->
  ∃ f' t', RL pblC pbl0 (n + (r.pubs.length - k)) f' (ps ++ (r.pubs.drop k).map (Be i r)) /\ RL nC 0 (s + (r.pubs.length - k)) t' (sn ++ nums ps.length (r.pubs.length - k)) /\
   Ee ZSn c mp0 np0 fp0 nd0 fd0 i g m (Bu ps) d e n f s t (k : Int) = some (.leaf (aTb (outS r) 5 (s + (r.pubs.length - k)), HB1 c (Bu (ps ++ (r.pubs.drop k).map (Be i r))) (n + (r.pubs.length - k)) f' d e (s + (r.pubs.length - k)) t')) := by
 intro m
 induction m with
 | zero => intro k n f s t ps sn _ h; omega
 | succ m ih =>
  intro k n f s t ps sn hk hm hP hS hN hn hs
  by_cases hlt : k < r.pubs.length
  ·have hd : r.pubs.length - k = r.pubs.length - (k + 1) + 1 := by omega
   have hNp : (ps.map pkey).Nodup := by rw [List.map_append, List.nodup_append] at hN; exact hN.1
   obtain ⟨f1, t1, g1, g2, g3⟩ := AjS c mp0 np0 fp0 nd0 fd0 i r er hr hx g m hg (Bu ps) n f d e s t k hlt ps sn hP hS (by omega) (by omega)
   rw [Am (d := pub0) hlt, List.map_cons] at hN ⊢
   rw [Ur hNp] at g2 g3
   have em : (kPr i (A0 r (r.pubs.getD k pub0).set), Value.int IntKind.i64 (ps.length : Nat)) :: Bu ps = Bu (ps ++ [Be i r (r.pubs.getD k pub0)]) := (Jn ps (Be i r (r.pubs.getD k pub0))).symm
   rw [em] at g3
   obtain ⟨f2, t2, k1, k2, k3⟩ := ih (k + 1) (n + 1) f1 (s + 1) t1 (ps ++ [Be i r (r.pubs.getD k pub0)]) (sn ++ [(ps.length : Int)]) (by omega) (by omega) g1 g2 (by rw [List.append_assoc]; exact hN) (by omega) (by omega)
   rw [List.append_assoc] at k1 k3
   rw [show n + 1 + (r.pubs.length - (k + 1)) = n + (r.pubs.length - k) by omega] at k1 k3
   rw [show s + 1 + (r.pubs.length - (k + 1)) = s + (r.pubs.length - k) by omega] at k2 k3
   rw [List.length_append, List.length_singleton, List.append_assoc] at k2
   refine ⟨f2, t2, k1, ?_, g3.trans k3⟩
   rw [hd, Gc]
   rw [hd] at k2
   exact k2
  ·obtain rfl : k = r.pubs.length := by omega
   obtain ⟨o1, o2⟩ := zSo hr
   refine ⟨f, t, ?_, ?_, ?_⟩
   ·simpa using hP
   ·simpa [nums] using hS
   ·rw [Vc, tn i, er, lt0 (Nat.lt_irrefl _), o2, cond_false, Nat.sub_self, Nat.add_zero, Nat.add_zero, List.drop_of_length_le (Nat.le_refl _), List.map_nil, List.append_nil]
    rfl
theorem Aka (c : SCfg) (np0 : Nat) (fp0 : RD) (nd0 : Nat) (fd0 : RD) (i : Nat) (r : SRel) (er : c.rels.getD i rel0 = r) (hr : fitR r = true) (hx : ∀ p ∈ r.pubs, 0 <= A0 r p.set) (g : Nat) (hg : 1000 < g) (d : Nat) (e : RD) : ∀ (m k n : Nat) (f : RD) (s : Nat) (t : RD) (ps : List Pbl) (sn : List Int),
  k <= r.pubs.length -> r.pubs.length - k < m -> RL pblC pbl0 n f ps -> RL nC 0 s t sn -> ((ps ++ (r.pubs.drop k).map (Be i r)).map pkey).Nodup -> n + (r.pubs.length - k) <= 8000 -> s + (r.pubs.length - k) <= 8000 ->
  ∃ f' t', RL pblC pbl0 (n + (r.pubs.length - k)) f' (ps ++ (r.pubs.drop k).map (Be i r)) /\ RL nC 0 (s + (r.pubs.length - k)) t' (sn ++ nums ps.length (r.pubs.length - k)) /\
   Ef ZSn c np0 fp0 nd0 fd0 i g m d e (Bu ps) n f s t (k : Int) = some (.leaf (aTb (outS r) 5 (s + (r.pubs.length - k)), HA1 c (Bu (ps ++ (r.pubs.drop k).map (Be i r))) (n + (r.pubs.length - k)) f' d e (s + (r.pubs.length - k)) t')) := by
 intro m
 induction m with
 | zero => intro k n f s t ps sn _ h; omega
 | succ m ih =>
  intro k n f s t ps sn hk hm hP hS hN hn hs
  by_cases hlt : k < r.pubs.length
  ·have hd : r.pubs.length - k = r.pubs.length - (k + 1) + 1 := by omega
   have hNp : (ps.map pkey).Nodup := by rw [List.map_append, List.nodup_append] at hN; exact hN.1
   obtain ⟨f1, t1, g1, g2, g3⟩ := AjT c np0 fp0 nd0 fd0 i r er hr hx g m hg (Bu ps) n f d e s t k hlt ps sn hP hS (by omega) (by omega)
   rw [Am (d := pub0) hlt, List.map_cons] at hN ⊢
   rw [Ur hNp] at g2 g3
   have em : (kPr i (A0 r (r.pubs.getD k pub0).set), Value.int IntKind.i64 (ps.length : Nat)) :: Bu ps = Bu (ps ++ [Be i r (r.pubs.getD k pub0)]) := (Jn ps (Be i r (r.pubs.getD k pub0))).symm
   rw [em] at g3
   obtain ⟨f2, t2, k1, k2, k3⟩ := ih (k + 1) (n + 1) f1 (s + 1) t1 (ps ++ [Be i r (r.pubs.getD k pub0)]) (sn ++ [(ps.length : Int)]) (by omega) (by omega) g1 g2 (by rw [List.append_assoc]; exact hN) (by omega) (by omega)
   rw [List.append_assoc] at k1 k3
   rw [show n + 1 + (r.pubs.length - (k + 1)) = n + (r.pubs.length - k) by omega] at k1 k3
   rw [show s + 1 + (r.pubs.length - (k + 1)) = s + (r.pubs.length - k) by omega] at k2 k3
   rw [List.length_append, List.length_singleton, List.append_assoc] at k2
   refine ⟨f2, t2, k1, ?_, g3.trans k3⟩
   rw [hd, Gc]
   rw [hd] at k2
   exact k2
  ·obtain rfl : k = r.pubs.length := by omega
   obtain ⟨o1, o2⟩ := zSo hr
   refine ⟨f, t, ?_, ?_, ?_⟩
   ·simpa using hP
   ·simpa [nums] using hS
   ·rw [Ve, tn i, er, lt0 (Nat.lt_irrefl _), o2, cond_false, Nat.sub_self, Nat.add_zero, Nat.add_zero, List.drop_of_length_le (Nat.le_refl _), List.map_nil, List.append_nil]
    rfl
end Go.Proofs.YtbpndheehcbldaaGreatDoor.tb
namespace Go.Proofs.YtbpndheehcbldaaGreatDoor.tb
open Go.RowKit Go.Eb Go.Proofs.YtbpndheehcbldaaGreatDoor.st
set_option maxRecDepth 100000
open Go.Proofs.YtbpndheehcbldaaGreatDoor.sg (fitR FitR Av fitC B2 eR1 By cOuD cSix Dj eFd Kl cFd Jz AdM aPl cFk Pq Pr eFk Fk fiS)
def psAt (rels : List SRel) (k : Nat) : List Pbl := pbls 0 (rels.take k)
theorem Qf : ∀ (a b : List SRel) (i : Nat), pbls i (a ++ b) = pbls i a ++ pbls (i + a.length) b
 | [], b, i => by simp [pbls]
 | r :: t, b, i => by
  show Bc i r ++ pbls (i + 1) (t ++ b) = (Bc i r ++ pbls (i + 1) t) ++ pbls (i + (t.length + 1)) b
  rw [Qf t b (i + 1), List.append_assoc, show i + 1 + t.length = i + (t.length + 1) by omega]
theorem F8 (rels : List SRel) {k : Nat} (h : k < rels.length) : psAt rels (k + 1) = psAt rels k ++ Bc k (rels.getD k rel0) := by
 unfold psAt
 rw [List.take_add_one, show rels[k]? = some (rels.getD k rel0) by simp [List.getD, h], Qf]
 congr 1
 rw [Nat.zero_add, List.length_take, Nat.min_eq_left (by omega)]
 show Bc k _ ++ [] = _
 rw [List.append_nil]
theorem Fc (rels : List SRel) : psAt rels rels.length = pbls 0 rels := by unfold psAt; rw [List.take_length]
theorem AcW (rels : List SRel) (k : Nat) : ∃ t, pbls 0 rels = psAt rels k ++ t := by
 refine ⟨pbls (0 + (rels.take k).length) (rels.drop k), ?_⟩
 unfold psAt
 rw [<- Qf, List.take_append_drop]
theorem Qe (rels : List SRel) : ∀ (k : Nat), k <= rels.length -> (psAt rels k).length = offs rels k
 | 0, _ => rfl
 | k + 1, h => by
  rw [F8 rels (by omega), List.length_append, Qe rels k (by omega)]
  simp [offs, Bc]
structure OkC (c : SCfg) : Prop where
 fit : fitC c.rels = true
 sig : (C4 c.rels 0 c.rels).2 = 0
 uq : ∀ r ∈ c.rels, Uq r
 len : c.rels.length <= 20
 pub : ∀ r ∈ c.rels, r.pubs.length <= 8
section
variable {c : SCfg} (h : OkC c)
include h
theorem OkC.nd : ((pbls 0 c.rels).map pkey).Nodup := (Kc c.rels 0 (Yr h.sig h.uq)).1
theorem OkC.ndk (k : Nat) : ((psAt c.rels k).map pkey).Nodup := by
 obtain ⟨t, e⟩ := AcW c.rels k
 have := h.nd
 rw [e, List.map_append, List.nodup_append] at this
 exact this.1
theorem OkC.offs : ∀ (k : Nat), k <= c.rels.length -> offs c.rels k <= 8 * k
 | 0, _ => Nat.le_refl _
 | k + 1, hk => by
  have h1 := OkC.offs k (by omega)
  have h2 := h.pub _ (A3 rel0 (show k < c.rels.length by omega))
  show Go.Eb.offs c.rels k + _ <= _
  omega
theorem OkC.plen (k : Nat) (hk : k <= c.rels.length) : (psAt c.rels k).length <= 160 := by
 rw [Qe c.rels k hk]
 have := h.offs k hk
 have := h.len
 omega
theorem OkC.fr {k : Nat} (hk : k < c.rels.length) : fitR (c.rels.getD k rel0) = true := (B2 h.fit).2.1 _ (A3 rel0 hk)
theorem OkC.px {k : Nat} (hk : k < c.rels.length) : ∀ p ∈ (c.rels.getD k rel0).pubs, 0 <= A0 (c.rels.getD k rel0) p.set := (Yr h.sig h.uq _ (A3 rel0 hk)).2
end
abbrev fP (ps : List Pbl) : RD := fun j => pblC (ps.getD j pbl0)
abbrev fN (l : List Int) : RD := fun j => nC (l.getD j 0)
theorem Ql (a n : Nat) : (nums a n).length = n := by simp [nums]
theorem csB {c : SCfg} (h : OkC c) {k : Nat} (hk : k < c.rels.length) {n : Nat} {f : RD} (hP : RL pblC pbl0 n f (psAt c.rels k)) (d : Nat) (e : RD) :
  ((c.rels.getD k rel0).pubs = [] -> CX prog 21 [.c (.ptr 0 0), vI k] (HKB c (Bu (psAt c.rels k)) n f d e) (aTb (outS (c.rels.getD k rel0)) 4 0) (HB0 c (Bu (psAt c.rels k)) n f d e 0 fun _ => [])) /\
  ((c.rels.getD k rel0).pubs ≠ [] -> CX prog 21 [.c (.ptr 0 0), vI k] (HKB c (Bu (psAt c.rels k)) n f d e) (aTb (outS (c.rels.getD k rel0)) 5 (c.rels.getD k rel0).pubs.length)
    (HB1 c (Bu (psAt c.rels (k + 1))) (psAt c.rels (k + 1)).length (fP (psAt c.rels (k + 1))) d e (c.rels.getD k rel0).pubs.length (fN (nums (psAt c.rels k).length (c.rels.getD k rel0).pubs.length)))) := by
 have hr := h.fr hk
 have hx := h.px hk
 obtain ⟨o1, o2⟩ := zSo hr
 have hF := Av hr
 have hpu := hF.pu
 have hps := h.plen k (by omega)
 have hnd := h.ndk (k + 1)
 rw [F8 c.rels hk] at hnd ⊢
 obtain ⟨r, er⟩ : ∃ r, c.rels.getD k rel0 = r := ⟨_, rfl⟩
 rw [er] at hr hx o1 o2 hF hpu hnd ⊢
 obtain ⟨g, hg⟩ : ∃ g, 2000 < g := ⟨2001, by omega⟩
 have ev := Akk ZSn c (Bu (psAt c.rels k)) n f d e k (g + 1)
 rw [inb hk, tn k, er, o1, cond_true, cond_true] at ev
 have hlen := hP.len
 refine ⟨fun he => ?_, fun he => ?_⟩
 ·refine Ax sSn.ok func21 bsnb rfl (ev.trans ?_)
  rw [Yy, tn k, er, he, o2]
  rfl
 ·have h0 : 0 < r.pubs.length := List.length_pos_iff.2 he
  obtain ⟨f1, t1, g1, g2, g3⟩ := sp_b c (Bu (psAt c.rels k)) n f d e k r er hr hx (g + 1) g (by omega) (Bu (psAt c.rels k)) n f d e 0 (fun _ => []) 0 h0 (psAt c.rels k) [] hP (.nil _) (by omega) (by omega)
  have hdr : Bc k r = Be k r (r.pubs.getD 0 pub0) :: (r.pubs.drop 1).map (Be k r) := by
   show r.pubs.map _ = _
   have := Am (T := r.pubs) (d := pub0) h0
   rw [List.drop_zero] at this
   conv => lhs; rw [this]
   rfl
  have hd0 : dlen (Bu (psAt c.rels k)) = (psAt c.rels k).length := Ur (h.ndk k)
  rw [hd0] at g2 g3
  have em : (kPr k (A0 r (r.pubs.getD 0 pub0).set), Value.int IntKind.i64 ((psAt c.rels k).length : Nat)) :: Bu (psAt c.rels k) = Bu (psAt c.rels k ++ [Be k r (r.pubs.getD 0 pub0)]) := (Jn (psAt c.rels k) (Be k r (r.pubs.getD 0 pub0))).symm
  rw [em] at g3
  obtain ⟨f2, t2, k1, k2, k3⟩ := AjZ c (Bu (psAt c.rels k)) n f d e k r er hr hx (g + 1) (by omega) d e g 1 (n + 1) f1 (0 + 1) t1 (psAt c.rels k ++ [Be k r (r.pubs.getD 0 pub0)]) ([] ++ [((psAt c.rels k).length : Int)]) (by omega) (by omega) g1 g2
   (by rw [List.append_assoc]; show ((psAt c.rels k ++ (Be k r (r.pubs.getD 0 pub0) :: (r.pubs.drop 1).map (Be k r))).map pkey).Nodup; rw [<- hdr]; exact hnd) (by omega) (by omega)
  have q1 : psAt c.rels k ++ [Be k r (r.pubs.getD 0 pub0)] ++ (r.pubs.drop 1).map (Be k r) = psAt c.rels k ++ Bc k r := by
   rw [List.append_assoc, hdr]
   rfl
  have q2 : [] ++ [((psAt c.rels k).length : Int)] ++ nums (psAt c.rels k ++ [Be k r (r.pubs.getD 0 pub0)]).length (r.pubs.length - 1) = nums (psAt c.rels k).length r.pubs.length := by
   rw [List.length_append, List.length_singleton]
   conv => rhs; rw [show r.pubs.length = r.pubs.length - 1 + 1 by omega, Gc]
   rfl
  rw [q1] at k1 k3
  rw [q2] at k2
  have e1 := k1.len
  have e2 := k2.len
  rw [Ql] at e2
  rw [e1, e2] at k3
  rw [e1] at k1
  rw [e2] at k2
  have cc := Ax sSn.ok func21 bsnb rfl (ev.trans (g3.trans k3))
  refine cc.le (.refl _) ?_
  have b1 : Ble (.row (psAt c.rels k ++ Bc k r).length f2 5 70) (.row (psAt c.rels k ++ Bc k r).length (fP (psAt c.rels k ++ Bc k r)) 5 70) := k1.ble
  have b2 : Ble (.row r.pubs.length t2 1 3) (.row r.pubs.length (fN (nums (psAt c.rels k).length r.pubs.length)) 1 3) := ⟨rfl, rfl, rfl, k2.le⟩
  exact .cons (.refl _) (.cons (.refl _) (.cons (.refl _) (.cons (.refl _) (.cons b1 (.cons b2 (.refl _))))))
theorem csA {c : SCfg} (h : OkC c) {k : Nat} (hk : k < c.rels.length) (h0 : psAt c.rels k = []) {n : Nat} {f : RD} (hP : RL pblC pbl0 n f []) (d : Nat) (e : RD) :
  ((c.rels.getD k rel0).pubs = [] -> CX prog 21 [.c (.ptr 0 0), vI k] (HKA c n f d e) (aTb (outS (c.rels.getD k rel0)) 3 0) (HA0 c n f d e 0 fun _ => [])) /\
  ((c.rels.getD k rel0).pubs ≠ [] -> CX prog 21 [.c (.ptr 0 0), vI k] (HKA c n f d e) (aTb (outS (c.rels.getD k rel0)) 5 (c.rels.getD k rel0).pubs.length)
    (HA1 c (Bu (psAt c.rels (k + 1))) (psAt c.rels (k + 1)).length (fP (psAt c.rels (k + 1))) d e (c.rels.getD k rel0).pubs.length (fN (nums (psAt c.rels k).length (c.rels.getD k rel0).pubs.length)))) := by
 have hr := h.fr hk
 have hx := h.px hk
 obtain ⟨o1, o2⟩ := zSo hr
 have hF := Av hr
 have hpu := hF.pu
 have hnd := h.ndk (k + 1)
 rw [F8 c.rels hk, h0] at hnd ⊢
 obtain ⟨r, er⟩ : ∃ r, c.rels.getD k rel0 = r := ⟨_, rfl⟩
 rw [er] at hr hx o1 o2 hF hpu hnd ⊢
 obtain ⟨g, hg⟩ : ∃ g, 2000 < g := ⟨2001, by omega⟩
 have ev := Akl ZSn c n f d e k (g + 1)
 rw [inb hk, tn k, er, o1, cond_true, cond_true] at ev
 have hlen := hP.len
 refine ⟨fun he => ?_, fun he => ?_⟩
 ·refine Ax sSn.ok func21 bsna rfl (ev.trans ?_)
  rw [Y0, tn k, er, he, o2]
  rfl
 ·have h0 : 0 < r.pubs.length := List.length_pos_iff.2 he
  have hlen : n = 0 := hlen
  obtain ⟨f1, t1, g1, g2, g3⟩ := sp_a c n f d e k r er hr hx (g + 1) g (by omega) n f d e 0 (fun _ => []) 0 h0 [] [] hP (.nil _) (by omega) (by omega)
  have hdr : Bc k r = Be k r (r.pubs.getD 0 pub0) :: (r.pubs.drop 1).map (Be k r) := by
   show r.pubs.map _ = _
   have := Am (T := r.pubs) (d := pub0) h0
   rw [List.drop_zero] at this
   conv => lhs; rw [this]
   rfl
  have hd0 : dlen ([] : MV) = ([] : List Pbl).length := rfl
  rw [hd0] at g2 g3
  have em : (kPr k (A0 r (r.pubs.getD 0 pub0).set), Value.int IntKind.i64 (([] : List Pbl).length : Nat)) :: [] = Bu ([] ++ [Be k r (r.pubs.getD 0 pub0)]) := (Jn [] (Be k r (r.pubs.getD 0 pub0))).symm
  rw [em] at g3
  obtain ⟨f2, t2, k1, k2, k3⟩ := Aka c n f d e k r er hr hx (g + 1) (by omega) d e g 1 (n + 1) f1 (0 + 1) t1 ([] ++ [Be k r (r.pubs.getD 0 pub0)]) ([] ++ [(([] : List Pbl).length : Int)]) (by omega) (by omega) g1 g2
   (by rw [List.append_assoc]; show (([] ++ (Be k r (r.pubs.getD 0 pub0) :: (r.pubs.drop 1).map (Be k r))).map pkey).Nodup; rw [<- hdr]; exact hnd) (by omega) (by omega)
  have q1 : [] ++ [Be k r (r.pubs.getD 0 pub0)] ++ (r.pubs.drop 1).map (Be k r) = [] ++ Bc k r := by
   rw [List.append_assoc, hdr]
   rfl
  have q2 : [] ++ [(([] : List Pbl).length : Int)] ++ nums ([] ++ [Be k r (r.pubs.getD 0 pub0)]).length (r.pubs.length - 1) = nums ([] : List Pbl).length r.pubs.length := by
   conv => rhs; rw [show r.pubs.length = r.pubs.length - 1 + 1 by omega, Gc]
   rfl
  rw [q1] at k1 k3
  rw [q2] at k2
  have e1 := k1.len
  have e2 := k2.len
  rw [Ql] at e2
  rw [e1, e2] at k3
  rw [e1] at k1
  rw [e2] at k2
  have cc := Ax sSn.ok func21 bsna rfl (ev.trans (g3.trans k3))
  refine cc.le (.refl _) ?_
  have b1 : Ble (.row ([] ++ Bc k r).length f2 5 70) (.row ([] ++ Bc k r).length (fP ([] ++ Bc k r)) 5 70) := k1.ble
  have b2 : Ble (.row r.pubs.length t2 1 3) (.row r.pubs.length (fN (nums ([] : List Pbl).length r.pubs.length)) 1 3) := ⟨rfl, rfl, rfl, k2.le⟩
  exact .cons (.refl _) (.cons (.refl _) (.cons (.refl _) (.cons (.refl _) (.cons b1 (.cons b2 (.refl _))))))
def eIr (a : List SRel × SSub) : List AV × Hp := ([.c (.d (Cq a.1)), .c (.fn 112 [] [.ptr 0 0])], sg.HSb a.2)
theorem AbM : InjY eIr := fun a b h1 h2 => Prod.ext (At (sz := 53) (d0 := rel0) Jh _ _ (H7 (Ai h1).1))
 (E7 _ _ (Ng (x := subC a.2) (y := subC b.2) (J3 (G4 h2 0 (a := .cells ((subC a.2).map .d) 68) (b := .cells ((subC b.2).map .d) 68) rfl rfl))))
theorem AiF (l : List SRel) (x : SSub) (g : Nat) (hb : l.length <= 9223372036854775807) : ∀ (m k : Nat), k <= l.length -> l.length - k < m ->
  Xb l x g m k = some (.leaf (vI (idxP (fun r : SRel => isT r.name x.dev) k (l.drop k)), sg.HSb x))
 | 0, k, _, h => by omega
 | m + 1, k, hk, h => by
  rw [Agg]
  by_cases hlt : k < l.length
  ·rw [Am (d := rel0) hlt, lt1 hlt, ge0, tn, nx hlt hb, AiF l x g hb m (k + 1) (by omega) (by omega), tt, cond_true, cond_true]
   simp only [idxP]
   show (bif isT (l.getD k rel0).name x.dev then _ else _) = _
   cases isT (l.getD k rel0).name x.dev <;> rfl
  ·rw [lt0 hlt, List.drop_of_length_le (by omega)]
   rfl
theorem cirx (l : List SRel) (x : SSub) (hb : l.length <= 9223372036854775807) :
  CX prog 111 [.c (.d (Cq l)), .c (.fn 112 [] [.ptr 0 0])] (sg.HSb x) (vI (Cf l x.dev)) (sg.HSb x) := by
 have ho : Dh prog (Orc.cons 112 (inl prog Orc.nil na 1 f112) Orc.nil) := (OrcS.cons (.inl .nil func112 (by kernel_rfl)) .nil).ok
 exact Ax ho func111 birx rfl ((AkI l x (l.length + 1)).trans (AiF l x (l.length + 1) hb (l.length + 1) 0 (by omega) (by omega)))
def ZFn (c : SCfg) : KFn where
 oki := okZ eIr fun a => Ak a.1
 ix x H := Cf (theY eIr x H).1 (theY eIr x H).2.dev
 sb x H := (theY eIr x H).2
 okf := okG (eFd c) (cFd c.rels)
 fi x := Gg c.rels (theT (eFd c) x).1 (theT (eFd c) x).2.1 (theT (eFd c) x).2.2
theorem sFn (c : SCfg) (h : fitC c.rels = true) : OrcS prog (oFn (ZFn c)) :=
 .cons (.m (enc := eIr) (c := fun a => Ak a.1) (r := fun a => vI (Cf a.1 a.2.dev)) (H' := fun a => sg.HSb a.2) fun a h => cirx a.1 a.2 (A7 h))
  (.cons (.t' (enc := eFd c) (c := cFd c.rels) (r := fun a => aPl (Gg c.rels a.1 a.2.1 a.2.2)) fun a ha => AdM c a.1 a.2.1 a.2.2 (by unfold cFd at ha; simpa using ha) (B2 h).2.2) .nil)
theorem cFnd (c : SCfg) (hc : fitC c.rels = true) (i k : Nat) (hi : i < c.rels.length) (hk : k < (c.rels.getD i rel0).subs.length) : CX prog 50 [aCfg c, vI i, vI k] [] (aPl (fiS c (i, k))) [] := by
 have hn := (B2 hc).1
 refine Ax (sFn c hc).ok func50 (by kernel_rfl) rfl ((evFn (ZFn c) c i k).trans ?_)
 have t1 : decide ((i : Int) < 0) = false := decide_eq_false (by omega)
 have t2 : decide ((i : Int) >= (c.rels.length : Int)) = false := decide_eq_false (by omega)
 have t3 : decide ((k : Int) < 0) = false := decide_eq_false (by omega)
 have t5 : decide ((k : Int) >= ((c.rels.getD i rel0).subs.length : Int)) = false := decide_eq_false (by omega)
 have e0 : fiS c ((i : Int), (k : Int)) = Br c.rels i ((c.rels.getD i rel0).subs.getD k sub0) := by unfold fiS; simp only [Int.toNat_natCast]
 rw [t1, t2, t3, inb hi, tn i, t5, inb hk, tn k, e0]
 simp only [cond_true, cond_false]
 generalize (c.rels.getD i rel0).subs.getD k sub0 = x
 have s1 : theY eIr [AV.c (C.d (Aa 53 relC rel0 c.rels)), AV.c (C.fn 112 [] [Rf.ptr 0 0])] [(0, Blk.cells (List.map C.d (subC x)) 68)] = (c.rels, x) := E6 AbM (c.rels, x)
 have k1 : (ZFn c).oki [AV.c (C.d (Aa 53 relC rel0 c.rels)), AV.c (C.fn 112 [] [Rf.ptr 0 0])] [(0, Blk.cells (List.map C.d (subC x)) 68)] = true := Hs AbM (c := fun a => Ak a.1) (c.rels, x) (by unfold Ak; exact decide_eq_true (by show c.rels.length <= _; omega))
 have k2 : (ZFn c).ix [AV.c (C.d (Aa 53 relC rel0 c.rels)), AV.c (C.fn 112 [] [Rf.ptr 0 0])] [(0, Blk.cells (List.map C.d (subC x)) 68)] = Cf c.rels x.dev := by dsimp only [ZFn]; rw [s1]
 have k3 : (ZFn c).sb [AV.c (C.d (Aa 53 relC rel0 c.rels)), AV.c (C.fn 112 [] [Rf.ptr 0 0])] [(0, Blk.cells (List.map C.d (subC x)) 68)] = x := by dsimp only [ZFn]; rw [s1]
 obtain ⟨dl, _⟩ := Jz c.rels x.dev
 have s2 : theT (eFd c) [AV.agg (List.map C.d (cfgC c)), AV.c (C.d (D.v (Value.int IntKind.i64 (i : Int)))), AV.c (C.d (D.v (Value.int IntKind.i64 (Cf c.rels x.dev)))), AV.agg (List.map C.d (subC x))] = ((i : Int), Cf c.rels x.dev, x) := Ag (Kl c) ((i : Int), Cf c.rels x.dev, x)
 have k4 : (ZFn c).okf [AV.agg (List.map C.d (cfgC c)), AV.c (C.d (D.v (Value.int IntKind.i64 (i : Int)))), AV.c (C.d (D.v (Value.int IntKind.i64 (Cf c.rels x.dev)))), AV.agg (List.map C.d (subC x))] = true := Aj (Kl c) (c := cFd c.rels) ((i : Int), Cf c.rels x.dev, x) (by unfold cFd; exact decide_eq_true dl)
 have k5 : (ZFn c).fi [AV.agg (List.map C.d (cfgC c)), AV.c (C.d (D.v (Value.int IntKind.i64 (i : Int)))), AV.c (C.d (D.v (Value.int IntKind.i64 (Cf c.rels x.dev)))), AV.agg (List.map C.d (subC x))] = Br c.rels i x := by dsimp only [ZFn]; rw [s2]; rfl
 rw [k1, k2, k3, k4, k5]
 rfl
def Hw (rels : List SRel) (i : Nat) : List (Int × Int) := (rels.getD i rel0).subs.map fun x => (Jj (pbls 0 rels) (Br rels i x).rel (Br rels i x).set, (Br rels i x).item)
abbrev fI (l : List (Int × Int)) : RD := fun j => inC (l.getD j (0, 0))
theorem sIn (c : SCfg) (h : fitC c.rels = true) : OrcS prog (oIn (okG (eFk c) (cFk c)) fun x => fiS c (theT (eFk c) x)) :=
 .cons (.t' (enc := eFk c) (c := cFk c) (r := fun a => aPl (fiS c a)) fun a ha => by
  obtain ⟨i, k, rfl, hi, hk⟩ := Pq ha
  exact cFnd c h i k hi hk) (.cons (.inl .nil func51 (by kernel_rfl)) .nil)
theorem ciB {c : SCfg} (h : OkC c) {k : Nat} (hk : k < c.rels.length) (n : Nat) (f : RD) (d : Nat) (e : RD) :
  CX prog 22 [.c (.ptr 0 0), vI k] (HKB c (Bu (pbls 0 c.rels)) n f d e) (.c (.row 4 2 (Hw c.rels k).length)) (HKB c (Bu (pbls 0 c.rels)) n f d e ++ [(4, .row (Hw c.rels k).length (fI (Hw c.rels k)) 2 66)]) := by
 have hF := Av (h.fr hk)
 have hsu := hF.su
 obtain ⟨r, er⟩ : ∃ r, c.rels.getD k rel0 = r := ⟨_, rfl⟩
 rw [er] at hsu
 have hil : (Hw c.rels k).length = r.subs.length := by unfold Hw; rw [er, List.length_map]
 have ev := AkK (okG (eFk c) (cFk c)) (fun x => fiS c (theT (eFk c) x)) c (Bu (pbls 0 c.rels)) n f d e k (r.subs.length + 1)
 rw [inb hk, cond_true] at ev
 have key : ∀ j, j < r.subs.length -> Nw 4 (A2 (Bu (pbls 0 c.rels)) (kPr (Br c.rels k (r.subs.getD j sub0)).rel (Br c.rels k (r.subs.getD j sub0)).set)) = .int .i64 (Jj (pbls 0 c.rels) (Br c.rels k (r.subs.getD j sub0)).rel (Br c.rels k (r.subs.getD j sub0)).set) := fun j hj => by
  obtain ⟨n0, d0, it, o, I⟩ := AiW h.sig h.uq hk (x := r.subs.getD j sub0) (by rw [er]; exact A3 sub0 hj)
  have := AdS h.nd I.hn
  rw [I.hr, I.hs, <- I.hf] at this
  rw [this, I.hx]
  rfl
 obtain ⟨f', h1, h2⟩ := Gv (L := fun m n4 f4 j => Xd (okG (eFk c) (cFk c)) (fun x => fiS c (theT (eFk c) x)) c (Bu (pbls 0 c.rels)) n f d e k (r.subs.length + 1) m (Bu (pbls 0 c.rels)) n f d e n4 f4 j)
  (K := fun n4 f4 => some (T.leaf (AV.c (C.row 4 2 n4), HKB c (Bu (pbls 0 c.rels)) n f d e ++ [(4, .row n4 f4 2 66)]))) (l := r.subs) (d := sub0) (c := inC) (d0 := ((0, 0) : Int × Int))
  (ch := fun x => [D.v (Nw 4 (A2 (Bu (pbls 0 c.rels)) (kPr (Br c.rels k x).rel (Br c.rels k x).set))), dI (Br c.rels k x).item])
  (e := fun x => (Jj (pbls 0 c.rels) (Br c.rels k x).rel (Br c.rels k x).set, (Br c.rels k x).item)) (sz := 2)
  (fun m j n4 f4 hj hn4 => by
    have k1 : okG (eFk c) (cFk c) [AV.agg (List.map C.d (cfgC c)), AV.c (C.d (D.v (Value.int IntKind.i64 (k : Int)))), AV.c (C.d (D.v (Value.int IntKind.i64 (j : Int))))] = true := Aj (Fk c) (c := cFk c) ((k : Int), (j : Int)) (Pr hk (by rw [er]; exact hj))
    have k2 : theT (eFk c) [AV.agg (List.map C.d (cfgC c)), AV.c (C.d (D.v (Value.int IntKind.i64 (k : Int)))), AV.c (C.d (D.v (Value.int IntKind.i64 (j : Int))))] = ((k : Int), (j : Int)) := Ag (Fk c) ((k : Int), (j : Int))
    have k3 : fiS c ((k : Int), (j : Int)) = Br c.rels k (r.subs.getD j sub0) := by unfold fiS; simp only [Int.toNat_natCast]; rw [er]
    rw [Zj, tn k, er, lt1 hj, k1, k2, k3, Fv (n := n4) (by omega), nx hj (by omega), cond_true, cond_true, cond_true]
    rfl)
  (fun m n4 f4 => by
    rw [Zj, tn k, er, lt0 (Nat.lt_irrefl _)]
    rfl) (fun _ => rfl) (fun j hj => by rw [key j hj]; exact ⟨.refl _, .refl _⟩) (r.subs.length + 1) 0 0 (fun _ => []) [] (by omega) (by omega) (by omega) (.nil _)
 simp only [Nat.sub_zero, Nat.zero_add, List.nil_append, List.drop_zero] at h1 h2
 have e1 : r.subs.map (fun x => (Jj (pbls 0 c.rels) (Br c.rels k x).rel (Br c.rels k x).set, (Br c.rels k x).item)) = Hw c.rels k := by unfold Hw; rw [er]
 rw [e1] at h1
 rw [hil]
 refine (Ax (sIn c h.fit).ok func22 binb rfl (ev.trans h2)).le (.refl _) ?_
 exact .cons (.refl _) (.cons (.refl _) (.cons (.refl _) (.cons (.refl _) (.cons ⟨rfl, rfl, rfl, h1.le⟩ (.refl _)))))
theorem ciA {c : SCfg} (h : OkC c) {k : Nat} (hk : k < c.rels.length) (h0 : (c.rels.getD k rel0).subs = []) (n : Nat) (f : RD) (d : Nat) (e : RD) :
  CX prog 22 [.c (.ptr 0 0), vI k] (HKA c n f d e) (.c (.row 3 2 0)) (HKA c n f d e ++ [(3, .row 0 (fun _ => []) 2 66)]) := by
 have ev := AkL (okG (eFk c) (cFk c)) (fun x => fiS c (theT (eFk c) x)) c n f d e k 1
 rw [inb hk, cond_true] at ev
 refine Ax (sIn c h.fit).ok func22 bina rfl (ev.trans ?_)
 rw [Agi, tn k, h0]
 rfl
end Go.Proofs.YtbpndheehcbldaaGreatDoor.tb
namespace Go.Proofs.YtbpndheehcbldaaGreatDoor.tb
open Go.RowKit Go.Eb Go.Proofs.YtbpndheehcbldaaGreatDoor.st
set_option maxRecDepth 100000
def U3 {A : Type} (d : Dec (List AV × Hp) A) (c e : A -> Bool) (r1 : A -> AV) (H1 : A -> Hp) (r2 : A -> AV) (H2 : A -> Hp) (g : (R : Type) -> List AV -> Hp -> (AV -> Hp -> Option (T R)) -> Option (T R)) : (R : Type) -> List AV -> Hp -> (AV -> Hp -> Option (T R)) -> Option (T R) := fun R args H k =>
 match d.dec (args, H) with
 | some a => bif c a then (bif e a then k (r1 a) (H1 a) else k (r2 a) (H2 a)) else none
 | none => g R args H k
def AhP : (R : Type) -> List AV -> Hp -> (AV -> Hp -> Option (T R)) -> Option (T R) := fun _ _ _ _ => none
abbrev AB := (Unit × Int × Unit) × ((ByteArray × D × D × D × D × D × Unit × Nat × Nat × Unit) × List (Value × Value) × (Nat × RD) × (Nat × RD) × Unit)
abbrev AA := (Unit × Int × Unit) × ((ByteArray × D × D × D × D × D × D × Nat × Nat × Unit) × (Nat × RD) × (Nat × RD) × Unit)
def dKB : Dec (List AV × Hp) AB := .pair (.cons (.c (.ptr 0 0)) (.cons (.c .i64) .nil)) (.cons (.blk 0 (.cells 81 (.cons .str (.cons .data (.cons .data (.cons .data (.cons .data (.cons .data (.cons (.mp 1) (.cons (.row 2 5) (.cons (.row 3 3) .nil))))))))))) (.cons (.blk 1 (.mapB 4)) (.cons (.blk 2 (.rowB 5 70)) (.cons (.blk 3 (.rowB 3 51)) .nil))))
def dKA : Dec (List AV × Hp) AA := .pair (.cons (.c (.ptr 0 0)) (.cons (.c .i64) .nil)) (.cons (.blk 0 (.cells 81 (.cons .str (.cons .data (.cons .data (.cons .data (.cons .data (.cons .data (.cons .data (.cons (.row 1 5) (.cons (.row 2 3) .nil))))))))))) (.cons (.blk 1 (.rowB 5 70)) (.cons (.blk 2 (.rowB 3 51)) .nil)))
def cfB (a : AB) : List C := [.d (dS a.2.1.1), .d a.2.1.2.1, .d a.2.1.2.2.1, .d a.2.1.2.2.2.1, .d a.2.1.2.2.2.2.1, .d a.2.1.2.2.2.2.2.1]
def cfA (a : AA) : List C := [.d (dS a.2.1.1), .d a.2.1.2.1, .d a.2.1.2.2.1, .d a.2.1.2.2.2.1, .d a.2.1.2.2.2.2.1, .d a.2.1.2.2.2.2.2.1]
def shB (a : AB) : Int × List (Value × Value) × (Nat × RD) × (Nat × RD) := (a.1.2.1, a.2.2.1, a.2.2.2.1, a.2.2.2.2.1)
def shA (a : AA) : Int × (Nat × RD) × (Nat × RD) := (a.1.2.1, a.2.2.1, a.2.2.2.1)
structure KCo where
 okc : LB
 chk : LI
 okB : AB -> Bool
 emB : Int -> Bool
 ouB : Int -> List ByteArray
 mpB : Int -> List (Value × Value)
 nB : Int -> Nat
 fB : Int -> RD
 sB : Int -> Nat
 tB : Int -> RD
 okA : AA -> Bool
 okI : AB -> Bool
 okJ : AA -> Bool
 iN : Int -> Nat
 iF : Int -> RD
abbrev aTb' (l : List ByteArray) (h s : Nat) : AV := .agg [.d (Ab l), .row h 1 s, .d (.v (.slice none 0 0))]
def hB0 (a : AB) : Hp := [(0, .cells (cfB a ++ [.mp 1, .row 2 5 (shB a).2.2.1.1, .row 3 3 (shB a).2.2.2.1]) 81), (1, .map 4 (shB a).2.1), (2, .row (shB a).2.2.1.1 (shB a).2.2.1.2 5 70), (3, .row (shB a).2.2.2.1 (shB a).2.2.2.2 3 51)]
def hA0 (a : AA) : Hp := [(0, .cells (cfA a ++ [.d (.v (.map none)), .row 1 5 (shA a).2.1.1, .row 2 3 (shA a).2.2.1]) 81), (1, .row (shA a).2.1.1 (shA a).2.1.2 5 70), (2, .row (shA a).2.2.1 (shA a).2.2.2 3 51)]
def hB1 (a : AB) (mp : MV) (n : Nat) (f : RD) (s : Nat) (t : RD) : Hp := [(0, .cells (cfB a ++ [.mp 1, .row 4 5 n, .row 3 3 (shB a).2.2.2.1]) 81), (1, .map 4 mp), (2, .dead), (3, .row (shB a).2.2.2.1 (shB a).2.2.2.2 3 51), (4, .row n f 5 70), (5, .row s t 1 3)]
def hA1 (a : AA) (mp : MV) (n : Nat) (f : RD) (s : Nat) (t : RD) : Hp := [(0, .cells (cfA a ++ [.mp 3, .row 4 5 n, .row 2 3 (shA a).2.2.1]) 81), (1, .dead), (2, .row (shA a).2.2.1 (shA a).2.2.2 3 51), (3, .map 4 mp), (4, .row n f 5 70), (5, .row s t 1 3)]
def oCo (Z : KCo) : Orc := Orc.cons 13 (ansG Z.okc fun x => vI (Z.chk x)) (Orc.cons 21
  (U3 dKB Z.okB (fun a => Z.emB (shB a).1) (fun a => aTb' (Z.ouB (shB a).1) 4 0) (fun a => hB0 a ++ [(4, .row 0 (fun _ => []) 1 3)]) (fun a => aTb' (Z.ouB (shB a).1) 5 (Z.sB (shB a).1)) (fun a => hB1 a (Z.mpB (shB a).1) (Z.nB (shB a).1) (Z.fB (shB a).1) (Z.sB (shB a).1) (Z.tB (shB a).1))
  (U3 dKA Z.okA (fun a => Z.emB (shA a).1) (fun a => aTb' (Z.ouB (shA a).1) 3 0) (fun a => hA0 a ++ [(3, .row 0 (fun _ => []) 1 3)]) (fun a => aTb' (Z.ouB (shA a).1) 5 (Z.sB (shA a).1)) (fun a => hA1 a (Z.mpB (shA a).1) (Z.nB (shA a).1) (Z.fB (shA a).1) (Z.sB (shA a).1) (Z.tB (shA a).1)) AhP))
 (Orc.cons 22 (U3 dKB Z.okI (fun _ => true) (fun a => .c (.row 4 2 (Z.iN (shB a).1))) (fun a => hB0 a ++ [(4, .row (Z.iN (shB a).1) (Z.iF (shB a).1) 2 66)]) (fun _ => .u) (fun _ => [])
   (U3 dKA Z.okJ (fun _ => true) (fun _ => .c (.row 3 2 0)) (fun a => hA0 a ++ [(3, .row 0 (fun _ => []) 2 66)]) (fun _ => .u) (fun _ => []) AhP)) Orc.nil))
def Pw : Ann := A4 [(6, ⟨[5, 2, 19, 20], [(5, 7, 5, 70), (5, 8, 3, 51)]⟩), (11, ⟨[5, 2, 36, 37], [(5, 7, 5, 70), (5, 8, 3, 51)]⟩)]
def Ti (Z : KCo) (c : SCfg) (g m : Nat) (n2 : Nat) (f2 : RD) (n3 : Nat) (f3 : RD) (i20 : Int) := LK prog (oCo Z) Pw 0 g f9 6 m ⟨frm [(2, .c (.ptr 0 0)), (5, .c (.ptr 1 0)), (19, iA (↑(List.length (SCfg.rels c)) : Int)), (20, iA i20)] 0 f9.ntmps, [(0, Blk.cells [.d (.v (.slice none 0 0)), .d (.v (.slice none 0 0))] 36), (1, Blk.cells [.d (.v (.string (SSta.name (SCfg.sta c)))), C.d (Aa 1 busC e0 (SSta.buses (SCfg.sta c))), C.d (Aa 5 As Af (SSta.lines (SCfg.sta c))), C.d (Aa 6 Ar src0 (SSta.srcs (SCfg.sta c))), C.d (Aa 12 bayC bay0 (SSta.bays (SCfg.sta c))), C.d (Aa 53 relC rel0 (SCfg.rels c)), C.d (D.v (Value.map none)), C.row 2 5 n2, C.row 3 3 n3] 81), (2, Blk.row n2 f2 5 70), (3, Blk.row n3 f3 3 51)], 4⟩
def Nq (Z : KCo) (c : SCfg) (g m : Nat) (n2 : Nat) (f2 : RD) (n3 : Nat) (f3 : RD) (i37 : Int) := LK prog (oCo Z) Pw 0 g f9 11 m ⟨frm [(2, .c (.ptr 0 0)), (5, .c (.ptr 1 0)), (36, iA (↑(List.length (SCfg.rels c)) : Int)), (37, iA i37)] 0 f9.ntmps, [(0, Blk.cells [.d (.v (.slice none 0 0)), .d (.v (.slice none 0 0))] 36), (1, Blk.cells [.d (.v (.string (SSta.name (SCfg.sta c)))), C.d (Aa 1 busC e0 (SSta.buses (SCfg.sta c))), C.d (Aa 5 As Af (SSta.lines (SCfg.sta c))), C.d (Aa 6 Ar src0 (SSta.srcs (SCfg.sta c))), C.d (Aa 12 bayC bay0 (SSta.bays (SCfg.sta c))), C.d (Aa 53 relC rel0 (SCfg.rels c)), C.d (D.v (Value.map none)), C.row 2 5 n2, C.row 3 3 n3] 81), (2, Blk.row n2 f2 5 70), (3, Blk.row n3 f3 3 51)], 4⟩
def Np (Z : KCo) (c : SCfg) (g m : Nat) (l2 : MV) (n3 : Nat) (f3 : RD) (n4 : Nat) (f4 : RD) (i20 : Int) := LK prog (oCo Z) Pw 0 g f9 6 m ⟨frm [(2, .c (.ptr 0 0)), (5, .c (.ptr 1 0)), (19, iA (↑(List.length (SCfg.rels c)) : Int)), (20, iA i20)] 0 f9.ntmps, [(0, Blk.cells [.d (.v (.slice none 0 0)), .d (.v (.slice none 0 0))] 36), (1, Blk.cells [.d (.v (.string (SSta.name (SCfg.sta c)))), C.d (Aa 1 busC e0 (SSta.buses (SCfg.sta c))), C.d (Aa 5 As Af (SSta.lines (SCfg.sta c))), C.d (Aa 6 Ar src0 (SSta.srcs (SCfg.sta c))), C.d (Aa 12 bayC bay0 (SSta.bays (SCfg.sta c))), C.d (Aa 53 relC rel0 (SCfg.rels c)), C.mp 2, C.row 3 5 n3, C.row 4 3 n4] 81), (2, Blk.map 4 l2), (3, Blk.row n3 f3 5 70), (4, Blk.row n4 f4 3 51)], 5⟩
def G8 (Z : KCo) (c : SCfg) (g m : Nat) (l2 : MV) (n3 : Nat) (f3 : RD) (n4 : Nat) (f4 : RD) (i37 : Int) := LK prog (oCo Z) Pw 0 g f9 11 m ⟨frm [(2, .c (.ptr 0 0)), (5, .c (.ptr 1 0)), (36, iA (↑(List.length (SCfg.rels c)) : Int)), (37, iA i37)] 0 f9.ntmps, [(0, Blk.cells [.d (.v (.slice none 0 0)), .d (.v (.slice none 0 0))] 36), (1, Blk.cells [.d (.v (.string (SSta.name (SCfg.sta c)))), C.d (Aa 1 busC e0 (SSta.buses (SCfg.sta c))), C.d (Aa 5 As Af (SSta.lines (SCfg.sta c))), C.d (Aa 6 Ar src0 (SSta.srcs (SCfg.sta c))), C.d (Aa 12 bayC bay0 (SSta.bays (SCfg.sta c))), C.d (Aa 53 relC rel0 (SCfg.rels c)), C.mp 2, C.row 3 5 n3, C.row 4 3 n4] 81), (2, Blk.map 4 l2), (3, Blk.row n3 f3 5 70), (4, Blk.row n4 f4 3 51)], 5⟩
theorem bcmp : f9.body = some (Ad f9) := by kernel_rfl
theorem Aja (Z : KCo) (c : SCfg) (g : Nat) : Al prog (oCo Z) Pw g f9 (Ad f9) [aCfg c] [] =
 (bif KCo.okc Z [gA (cfgC c)] then (bif KCo.chk Z [gA (cfgC c)] != 0 then some (T.leaf (AV.tup [(true, [C.d (D.v (Value.slice none (0 : Nat)
 0)), C.d (.v (.slice none 0 0))]), (false, [C.d (iD (KCo.chk Z [gA (cfgC c)]))])], [])) else Ti Z c g g 0 (fun x => []) 0 (fun x => []) 0) else none) := by kernel_rfl
end Go.Proofs.YtbpndheehcbldaaGreatDoor.tb
namespace Go.Proofs.YtbpndheehcbldaaGreatDoor.tb
open Go.RowKit Go.Eb Go.Proofs.YtbpndheehcbldaaGreatDoor.st
set_option maxRecDepth 100000
def xA (c : SCfg) (i : Int) (n : Nat) (f : RD) (d : Nat) (e : RD) : AA := (((), i, ()), (c.sta.name, Ab c.sta.buses, Aa 5 As Af c.sta.lines, Aa 6 Ar src0 c.sta.srcs, Aa 12 bayC bay0 c.sta.bays, Cq c.rels, D.v (Value.map none), n, d, ()), (n, f), (d, e), ())
def xB (c : SCfg) (i : Int) (mp : MV) (n : Nat) (f : RD) (d : Nat) (e : RD) : AB := (((), i, ()), (c.sta.name, Ab c.sta.buses, Aa 5 As Af c.sta.lines, Aa 6 Ar src0 c.sta.srcs, Aa 12 bayC bay0 c.sta.bays, Cq c.rels, (), n, d, ()), mp, (n, f), (d, e), ())
abbrev Yj (d : Nat) : Bool := decide ((d + 1) * 72 <= 140737488355328) && decide (d + 1 <= 9223372036854775807)
abbrev nilS : D := .v (.slice none 0 0)
theorem stA6 (Z : KCo) (c : SCfg) (g m : Nat) (n : Nat) (f : RD) (d : Nat) (e : RD) (i : Int) : Ti Z c g (m + 1) n f d e i =
 (bif decide (i < (c.rels.length : Int)) then (bif Z.okA (xA c i n f d e) then (bif Z.emB i then (bif Yj d then (bif Nat.beq d d then Ti Z c g m n f (d + 1) (appF d e (Au [Ab (Z.ouB
 i), .sl 1 0 (fun _ => []), nilS] 3)) (IntKind.wrap .i64 (i + 1)) else none) else none) else (bif Yj d then (bif Nat.beq d d then Np Z c g m (Z.mpB i) (Z.nB i) (Z.fB i) (d + 1)
 (appF d e (Au [Ab (Z.ouB i), .sl 1 (Z.sB i) (Z.tB i), nilS] 3)) (IntKind.wrap .i64 (i + 1)) else none) else none)) else none) else Nq Z c g g n f d e 0) := by kernel_rfl
theorem stB6 (Z : KCo) (c : SCfg) (g m : Nat) (mp : MV) (n : Nat) (f : RD) (d : Nat) (e : RD) (i : Int) : Np Z c g (m + 1) mp n f d e i =
 (bif decide (i < (c.rels.length : Int)) then (bif Z.okB (xB c i mp n f d e) then (bif Z.emB i then (bif Yj d then (bif Nat.beq d d then Np Z c g m mp n f (d + 1) (appF d e (Au [Ab
 (Z.ouB i), .sl 1 0 (fun _ => []), nilS] 3)) (IntKind.wrap .i64 (i + 1)) else none) else none) else (bif Yj d then (bif Nat.beq d d then Np Z c g m (Z.mpB i) (Z.nB i) (Z.fB i) (d +
 1) (appF d e (Au [Ab (Z.ouB i), .sl 1 (Z.sB i) (Z.tB i), nilS] 3)) (IntKind.wrap .i64 (i + 1)) else none) else none)) else none) else G8 Z c g g mp n f d e 0) := by kernel_rfl
abbrev lfC (n : Nat) (f : RD) (d : Nat) (e : RD) : Option (T (AV × Hp)) := some (.leaf (.tup [(true, [.row 0 5 n, .row 1 3 d]), (false, [.d (dI 0)])], [(0, .row n f 5 70), (1, .row d e 3 51)]))
theorem AjR (Z : KCo) (c : SCfg) (g m : Nat) (n : Nat) (f : RD) (d : Nat) (e : RD) (i : Int) : Nq Z c g (m + 1) n f d e i =
 (bif decide (i < (c.rels.length : Int)) then (bif Z.okJ (xA c i n f d e) then (bif decide (0 <= i) && decide (i < (d : Int)) then (bif Nat.beq d d then Nq Z c g m n f d (fun j =>
 bif Nat.beq j i.toNat then splice (e j) 2 [.sl 2 0 (fun _ => [])] else e j) (IntKind.wrap .i64 (i + 1)) else none) else none) else none) else lfC n f d e) := by kernel_rfl
theorem AjQ (Z : KCo) (c : SCfg) (g m : Nat) (mp : MV) (n : Nat) (f : RD) (d : Nat) (e : RD) (i : Int) : G8 Z c g (m + 1) mp n f d e i =
 (bif decide (i < (c.rels.length : Int)) then (bif Z.okI (xB c i mp n f d e) then (bif decide (0 <= i) && decide (i < (d : Int)) then (bif Nat.beq d d then G8 Z c g m mp n f d (fun j
 => bif Nat.beq j i.toNat then splice (e j) 2 [.sl 2 (Z.iN i) (Z.iF i)] else e j) (IntKind.wrap .i64 (i + 1)) else none) else none) else none) else lfC n f d e) := by kernel_rfl
end Go.Proofs.YtbpndheehcbldaaGreatDoor.tb
namespace Go.Proofs.YtbpndheehcbldaaGreatDoor.tb
open Go.RowKit Go.Eb Go.Proofs.YtbpndheehcbldaaGreatDoor.st
set_option maxRecDepth 100000
theorem _root_.Go.Eb.AnsS.de {P : Program} {f0 : FuncId} {A : Type} {d : Dec (List AV × Hp) A} {c e : A -> Bool} {r1 r2 : A -> AV} {H1 H2 : A -> Hp} {g : (R : Type) -> List AV -> Hp -> (AV -> Hp -> Option (T R)) -> Option (T R)}
  (h1 : ∀ a, c a = true -> e a = true -> CX P f0 (d.enc a).1 (d.enc a).2 (r1 a) (H1 a)) (h2 : ∀ a, c a = true -> e a = false -> CX P f0 (d.enc a).1 (d.enc a).2 (r2 a) (H2 a)) (hg : AnsS P f0 g) : AnsS P f0 (U3 d c e r1 H1 r2 H2 g) := by
 refine ⟨fun R args H k t h => ?_, fun args H => ?_⟩
 ·unfold U3 at h
  cases hd : d.dec (args, H) with
  | none => rw [hd] at h; exact hg.ok R args H k t h
  | some a =>
   rw [hd] at h
   simp only [] at h
   cases hca : c a with
   | false => rw [hca] at h; cases h
   | true =>
    rw [hca] at h
    have ee := d.ok _ _ hd
    cases hea : e a with
    | true =>
     rw [hea] at h
     have := h1 a hca hea
     rw [<- ee] at this
     exact ⟨_, _, h, this⟩
    | false =>
     rw [hea] at h
     have := h2 a hca hea
     rw [<- ee] at this
     exact ⟨_, _, h, this⟩
 ·unfold U3
  cases d.dec (args, H) with
  | none => exact hg.det args H
  | some a => exact .bif _ (.bif _ (.one _ _ fun R k => rfl) (.one _ _ fun R k => rfl)) (.no fun R k => rfl)
theorem _root_.Go.Eb.AnsS.no {P : Program} {f0 : FuncId} : AnsS P f0 AhP := ⟨fun R args H k t h => (by cases h), fun args H => Det.no fun R k => rfl⟩
def pD (p : Prop) : Bool := @decide p (Classical.propDecidable _)
theorem Fp {p : Prop} : pD p = true ↔ p := by unfold pD; simp
def eU (c : SCfg) (_ : Unit) : List AV := [aCfg c]
theorem Sh (c : SCfg) : InjT (eU c) := fun _ _ _ => rfl
def ZCo (c : SCfg) (ck : Int) : KCo where
 okc := okG (eU c) fun _ => true
 chk _ := ck
 okB a := pD (∃ (k n : Nat) (f : RD) (d : Nat) (e : RD), a = xB c k (Bu (psAt c.rels k)) n f d e /\ k < c.rels.length /\ RL pblC pbl0 n f (psAt c.rels k))
 emB i := (c.rels.getD i.toNat rel0).pubs.isEmpty
 ouB i := outS (c.rels.getD i.toNat rel0)
 mpB i := Bu (psAt c.rels (i.toNat + 1))
 nB i := (psAt c.rels (i.toNat + 1)).length
 fB i := fP (psAt c.rels (i.toNat + 1))
 sB i := (c.rels.getD i.toNat rel0).pubs.length
 tB i := fN (nums (psAt c.rels i.toNat).length (c.rels.getD i.toNat rel0).pubs.length)
 okA a := pD (∃ (k n : Nat) (f : RD) (d : Nat) (e : RD), a = xA c k n f d e /\ k < c.rels.length /\ psAt c.rels k = [] /\ RL pblC pbl0 n f [])
 okI a := pD (∃ (k n : Nat) (f : RD) (d : Nat) (e : RD), a = xB c k (Bu (pbls 0 c.rels)) n f d e /\ k < c.rels.length)
 okJ a := pD (∃ (k n : Nat) (f : RD) (d : Nat) (e : RD), a = xA c k n f d e /\ k < c.rels.length /\ (c.rels.getD k rel0).subs = [])
 iN i := (Hw c.rels i.toNat).length
 iF i := fI (Hw c.rels i.toNat)
theorem sCo {c : SCfg} (h : OkC c) {ck : Int} (hck : CX prog 13 [aCfg c] [] (vI ck) []) : OrcS prog (oCo (ZCo c ck)) := by
 refine .cons (.t' (enc := eU c) (c := fun _ => true) (r := fun _ => vI ck) fun _ _ => hck) (.cons (.de ?_ ?_ (.de ?_ ?_ .no)) (.cons (.de ?_ ?_ (.de ?_ ?_ .no)) .nil))
 ·intro a ha he
  obtain ⟨k, n, f, d, e, rfl, hk, hP⟩ := Fp.1 ha
  exact (csB h hk hP d e).1 (List.isEmpty_iff.1 he)
 ·intro a ha he
  obtain ⟨k, n, f, d, e, rfl, hk, hP⟩ := Fp.1 ha
  exact (csB h hk hP d e).2 (List.isEmpty_eq_false_iff.1 he)
 ·intro a ha he
  obtain ⟨k, n, f, d, e, rfl, hk, h0, hP⟩ := Fp.1 ha
  exact (csA h hk h0 hP d e).1 (List.isEmpty_iff.1 he)
 ·intro a ha he
  obtain ⟨k, n, f, d, e, rfl, hk, h0, hP⟩ := Fp.1 ha
  exact (csA h hk h0 hP d e).2 (List.isEmpty_eq_false_iff.1 he)
 ·intro a ha _
  obtain ⟨k, n, f, d, e, rfl, hk⟩ := Fp.1 ha
  exact ciB h hk n f d e
 ·intro a _ he
  cases he
 ·intro a ha _
  obtain ⟨k, n, f, d, e, rfl, hk, h0⟩ := Fp.1 ha
  exact ciA h hk h0 n f d e
 ·intro a _ he
  cases he
def dv0 (rels : List SRel) (j : Nat) : Dev := ⟨outS (rels.getD j rel0), nums (offs rels j) (rels.getD j rel0).pubs.length, []⟩
def dv1 (rels : List SRel) (k j : Nat) : Dev := ⟨outS (rels.getD j rel0), nums (offs rels j) (rels.getD j rel0).pubs.length, if j < k then Hw rels j else []⟩
theorem Afe {d : Nat} (h : d <= 9000) : Yj d = true := by
 unfold Yj
 rw [decide_eq_true (by omega), decide_eq_true (by omega)]; rfl
theorem Q4 {rels : List SRel} {d k : Nat} {e : RD} (hR : RLe devC dev0 d e ((List.range k).map (dv0 rels))) {s : Nat} {t : RD} (hs : DE (.sl 1 s t) (nsD (nums (offs rels k) (rels.getD k rel0).pubs.length))) :
  RLe devC dev0 (d + 1) (appF d e (Au [Ab (outS (rels.getD k rel0)), .sl 1 s t, nilS] 3)) ((List.range (k + 1)).map (dv0 rels)) := by
 rw [List.range_succ, List.map_append]
 exact hR.app rfl (.cons (.refl _) (.cons hs (.cons (.nil _ _) .nil)))
theorem AjW (l : List Int) {n : Nat} (h : n = l.length) : DE (.sl 1 n (fN l)) (nsD l) := by
 subst h
 exact .refl _
section
variable {c : SCfg} (h : OkC c) (ck : Int) (g : Nat)
include h
theorem nx' {k : Nat} (hk : k < c.rels.length) : IntKind.wrap IntKind.i64 ((k : Int) + 1) = ((k + 1 : Nat) : Int) := nx hk (by have := h.len; omega)
omit h in
theorem Aik {k : Nat} (hk : k < c.rels.length) (he : (c.rels.getD k rel0).pubs = []) : psAt c.rels (k + 1) = psAt c.rels k := by
 rw [F8 c.rels hk]
 unfold Bc
 rw [he]
 simp
omit h in
theorem Aiu {k : Nat} (hk : k < c.rels.length) : DE (.sl 1 (c.rels.getD k rel0).pubs.length (fN (nums (psAt c.rels k).length (c.rels.getD k rel0).pubs.length))) (nsD (nums (offs c.rels k) (c.rels.getD k rel0).pubs.length)) := by
 rw [Qe c.rels k (by omega)]
 exact AjW _ (Ql _ _).symm
theorem lp6B : ∀ (m k n : Nat) (f e : RD), k <= c.rels.length -> c.rels.length - k < m -> RL pblC pbl0 n f (psAt c.rels k) -> RLe devC dev0 k e ((List.range k).map (dv0 c.rels)) ->
  ∃ n' f' e', RL pblC pbl0 n' f' (pbls 0 c.rels) /\ RLe devC dev0 c.rels.length e' ((List.range c.rels.length).map (dv0 c.rels)) /\ Np (ZCo c ck) c g m (Bu (psAt c.rels k)) n f k e k = G8 (ZCo c ck) c g g (Bu (pbls 0 c.rels)) n' f' c.rels.length e' 0
 | 0, k, n, f, e, _, hm, _, _ => by omega
 | m + 1, k, n, f, e, hk, hm, hP, hD => by
  rw [stB6]
  by_cases hlt : k < c.rels.length
  ·have k1 : (ZCo c ck).okB (xB c k (Bu (psAt c.rels k)) n f k e) = true := Fp.2 ⟨k, n, f, k, e, rfl, hlt, hP⟩
   have hln := h.len
   rw [lt1 hlt, k1, Afe (by omega), Nat.beq_refl, nx' h hlt, cond_true, cond_true, cond_true, cond_true, cond_true, cond_true]
   have k2 : (ZCo c ck).emB k = (c.rels.getD k rel0).pubs.isEmpty := rfl
   rw [k2]
   cases he : (c.rels.getD k rel0).pubs.isEmpty with
   | true =>
    have he' := List.isEmpty_iff.1 he
    have hs := Aik hlt he'
    obtain ⟨n', f', e', r1, r2, r3⟩ := lp6B m (k + 1) n f _ (by omega) (by omega) (by rw [hs]; exact hP) (Q4 hD (s := 0) (t := fun _ => []) (by rw [he']; exact .sls fun i hi => by omega))
    rw [hs] at r3
    exact ⟨n', f', e', r1, r2, r3⟩
   | false =>
    exact lp6B m (k + 1) _ _ _ (by omega) (by omega) (RL.data (psAt c.rels (k + 1))) (Q4 hD (Aiu hlt))
  ·obtain rfl : k = c.rels.length := by omega
   rw [lt0 (Nat.lt_irrefl _), cond_false]
   rw [Fc] at hP ⊢
   exact ⟨n, f, e, hP, hD, rfl⟩
theorem lp6A : ∀ (m k n : Nat) (f e : RD), k <= c.rels.length -> c.rels.length - k < m -> psAt c.rels k = [] -> RL pblC pbl0 n f [] -> RLe devC dev0 k e ((List.range k).map (dv0 c.rels)) -> c.rels.length < g ->
  (∃ n' f' e', RL pblC pbl0 n' f' (pbls 0 c.rels) /\ RLe devC dev0 c.rels.length e' ((List.range c.rels.length).map (dv0 c.rels)) /\ Ti (ZCo c ck) c g m n f k e k = G8 (ZCo c ck) c g g (Bu (pbls 0 c.rels)) n' f' c.rels.length e' 0) \/
  (∃ e', pbls 0 c.rels = [] /\ RLe devC dev0 c.rels.length e' ((List.range c.rels.length).map (dv0 c.rels)) /\ Ti (ZCo c ck) c g m n f k e k = Nq (ZCo c ck) c g g n f c.rels.length e' 0)
 | 0, k, n, f, e, _, hm, _, _, _, _ => by omega
 | m + 1, k, n, f, e, hk, hm, h0, hP, hD, hg => by
  rw [stA6]
  by_cases hlt : k < c.rels.length
  ·have k1 : (ZCo c ck).okA (xA c k n f k e) = true := Fp.2 ⟨k, n, f, k, e, rfl, hlt, h0, hP⟩
   have hln := h.len
   rw [lt1 hlt, k1, Afe (by omega), Nat.beq_refl, nx' h hlt, cond_true, cond_true, cond_true, cond_true, cond_true, cond_true]
   have k2 : (ZCo c ck).emB k = (c.rels.getD k rel0).pubs.isEmpty := rfl
   rw [k2]
   cases he : (c.rels.getD k rel0).pubs.isEmpty with
   | true =>
    have he' := List.isEmpty_iff.1 he
    have hs := Aik hlt he'
    exact lp6A m (k + 1) n f _ (by omega) (by omega) (by rw [hs]; exact h0) hP (Q4 hD (s := 0) (t := fun _ => []) (by rw [he']; exact .sls fun i hi => by omega)) hg
   | false =>
    exact .inl (lp6B h ck g m (k + 1) _ _ _ (by omega) (by omega) (RL.data (psAt c.rels (k + 1))) (Q4 hD (Aiu hlt)))
  ·obtain rfl : k = c.rels.length := by omega
   rw [lt0 (Nat.lt_irrefl _), cond_false]
   rw [Fc] at h0
   exact .inr ⟨e, h0, hD, rfl⟩
omit h in
theorem fill {rels : List SRel} {e : RD} {k : Nat} (hk : k < rels.length) (hD : RLe devC dev0 rels.length e ((List.range rels.length).map (dv1 rels k))) {n : Nat} {f : RD} (hn : DE (.sl 2 n f) (insD (Hw rels k))) :
  RLe devC dev0 rels.length (fun j => bif Nat.beq j k then splice (e j) 2 [.sl 2 n f] else e j) ((List.range rels.length).map (dv1 rels (k + 1))) := by
 refine ⟨by simp, fun j hj => ?_⟩
 have e0 := hD.le j hj
 have g1 : ∀ q, ((List.range rels.length).map (dv1 rels q)).getD j dev0 = dv1 rels q j := fun q => by simp [List.getD, hj]
 rw [g1] at e0 ⊢
 by_cases hjk : j = k
 ·subst hjk
  rw [Nat.beq_refl, cond_true]
  have hl := e0.1
  match hx : e j, hl with
  | [a, b, q], _ =>
   rw [hx] at e0
   have d0 := e0.2 0 _ _ rfl rfl
   have d1 := e0.2 1 _ _ rfl rfl
   have e3 : (dv1 rels (j + 1) j).ins = Hw rels j := by unfold dv1; simp
   show DEs [a, b, .sl 2 n f] [Ab (dv1 rels (j + 1) j).outs, nsD (dv1 rels (j + 1) j).sends, insD (dv1 rels (j + 1) j).ins]
   rw [e3]
   exact .cons d0 (.cons d1 (.cons hn .nil))
 ·have hb : Nat.beq j k = false := by rw [beqD, decide_eq_false hjk]
  rw [hb, cond_false]
  have e3 : dv1 rels (k + 1) j = dv1 rels k j := by
   unfold dv1
   congr 1
   by_cases hj' : j < k
   ·rw [if_pos hj', if_pos (by omega)]
   ·rw [if_neg hj', if_neg (by omega)]
  rw [e3]
  exact e0
theorem AiO (n : Nat) (f : RD) : ∀ (m k : Nat) (e : RD), k <= c.rels.length -> c.rels.length - k < m -> RLe devC dev0 c.rels.length e ((List.range c.rels.length).map (dv1 c.rels k)) ->
  ∃ e', RLe devC dev0 c.rels.length e' ((List.range c.rels.length).map (dv1 c.rels c.rels.length)) /\ G8 (ZCo c ck) c g m (Bu (pbls 0 c.rels)) n f c.rels.length e k = lfC n f c.rels.length e'
 | 0, k, e, _, hm, _ => by omega
 | m + 1, k, e, hk, hm, hD => by
  rw [AjQ]
  by_cases hlt : k < c.rels.length
  ·have k1 : (ZCo c ck).okI (xB c k (Bu (pbls 0 c.rels)) n f c.rels.length e) = true := Fp.2 ⟨k, n, f, _, e, rfl, hlt⟩
   rw [lt1 hlt, k1, ge0, Nat.beq_refl, nx' h hlt, tt, cond_true, cond_true, cond_true, cond_true]
   exact AiO n f m (k + 1) _ (by omega) (by omega) (fill hlt hD (.refl _))
  ·obtain rfl : k = c.rels.length := by omega
   rw [lt0 (Nat.lt_irrefl _), cond_false]
   exact ⟨e, hD, rfl⟩
theorem AgN (h0 : pbls 0 c.rels = []) {k : Nat} (hk : k < c.rels.length) : (c.rels.getD k rel0).subs = [] := by
 cases hs : (c.rels.getD k rel0).subs with
 | nil => rfl
 | cons x t =>
  obtain ⟨n, d, it, o, I⟩ := AiW h.sig h.uq hk (x := x) (by rw [hs]; simp)
  have := I.hn
  rw [h0] at this
  simp at this
theorem AiP (h0 : pbls 0 c.rels = []) (n : Nat) (f : RD) : ∀ (m k : Nat) (e : RD), k <= c.rels.length -> c.rels.length - k < m -> RLe devC dev0 c.rels.length e ((List.range c.rels.length).map (dv1 c.rels k)) ->
  ∃ e', RLe devC dev0 c.rels.length e' ((List.range c.rels.length).map (dv1 c.rels c.rels.length)) /\ Nq (ZCo c ck) c g m n f c.rels.length e k = lfC n f c.rels.length e'
 | 0, k, e, _, hm, _ => by omega
 | m + 1, k, e, hk, hm, hD => by
  rw [AjR]
  by_cases hlt : k < c.rels.length
  ·have hs := AgN h h0 hlt
   have k1 : (ZCo c ck).okJ (xA c k n f c.rels.length e) = true := Fp.2 ⟨k, n, f, _, e, rfl, hlt, hs⟩
   rw [lt1 hlt, k1, ge0, Nat.beq_refl, nx' h hlt, tt, cond_true, cond_true, cond_true, cond_true]
   have hi : Hw c.rels k = [] := by unfold Hw; rw [hs]; rfl
   exact AiP h0 n f m (k + 1) _ (by omega) (by omega) (fill hlt hD (by rw [hi]; exact .sls fun i hi => by omega))
  ·obtain rfl : k = c.rels.length := by omega
   rw [lt0 (Nat.lt_irrefl _), cond_false]
   exact ⟨e, hD, rfl⟩
omit h in
theorem AhD : (List.range c.rels.length).map (dv1 c.rels c.rels.length) = devs c.rels (pbls 0 c.rels) 0 0 c.rels := by
 refine Mk (d := dev0) (by rw [List.length_map, List.length_range, Ln]) fun j hj => ?_
 rw [List.length_map, List.length_range] at hj
 rw [Q3 _ _ _ _ _ _ hj, Nat.zero_add, Nat.zero_add]
 have : ((List.range c.rels.length).map (dv1 c.rels c.rels.length)).getD j dev0 = dv1 c.rels c.rels.length j := by simp [List.getD, hj]
 rw [this]
 unfold dv1 Us Hw
 rw [if_pos hj]
 rfl
end
theorem ofDs {a b : List D} (h : DEs a b) : Csle (a.map .d) (b.map .d) := Px h
abbrev aTs (ps : List Pbl) (ds : List Dev) (e : Int) : AV := .tup [(true, [.d (D5 ps), .d (Hy ds)]), (false, [.d (dI e)])]
theorem Acx {a b : D} {ps : List Pbl} {ds : List Dev} (e : Int) (h1 : DE a (D5 ps)) (h2 : DE b (Hy ds)) : Ale (.tup [(true, [.d a, .d b]), (false, [.d (dI e)])]) (aTs ps ds e) := by
 refine ⟨rfl, fun j p q k1 k2 => ?_⟩
 match j with
 | 0 => simp at k1 k2; subst k1 k2; exact ⟨rfl, ofDs (a := [a, b]) (b := [D5 ps, Hy ds]) (.cons h1 (.cons h2 .nil))⟩
 | 1 => simp at k1 k2; subst k1 k2; exact ⟨rfl, .cons (.refl _) .nil⟩
 | j + 2 => simp at k1
theorem cCmp {c : SCfg} (h : OkC c) (hck : CX prog 13 [aCfg c] [] (vI 0) []) : CX prog 9 [aCfg c] [] (aTs (pbls 0 c.rels) (devs c.rels (pbls 0 c.rels) 0 0 c.rels) 0) [] := by
 obtain ⟨g, hg⟩ : ∃ g, 2000 < g := ⟨2001, by omega⟩
 have hln := h.len
 have ev := Aja (ZCo c 0) c g
 have k1 : (ZCo c 0).okc [AV.agg (List.map C.d (cfgC c))] = true := Aj (Sh c) (c := fun _ => true) () rfl
 have k2 : (ZCo c 0).chk [AV.agg (List.map C.d (cfgC c))] = 0 := rfl
 rw [k1, k2, show ((0 : Int) != 0) = false from rfl, cond_true, cond_false] at ev
 have fin : ∀ (n : Nat) (f e' : RD), RL pblC pbl0 n f (pbls 0 c.rels) -> RLe devC dev0 c.rels.length e' ((List.range c.rels.length).map (dv1 c.rels c.rels.length)) -> Al prog (oCo (ZCo c 0)) Pw g f9 (Ad f9) [aCfg c] [] = lfC n f c.rels.length e' ->
  CX prog 9 [aCfg c] [] (aTs (pbls 0 c.rels) (devs c.rels (pbls 0 c.rels) 0 0 c.rels) 0) [] := fun n f e' hP hD he => by
  have hc := (M3 (sCo h hck).ok func9 bcmp rfl he).data (y := .tup [(true, [.d (.sl 5 n f), .d (.sl 3 c.rels.length e')]), (false, [.d (dI 0)])]) rfl
  rw [AhD] at hD
  exact (CX.of_cr func9 bcmp hc).le (Acx 0 hP.de hD.de) (.refl _)
 have e0 : RLe devC dev0 0 (fun _ => []) ((List.range 0).map (dv0 c.rels)) := .nil _
 have d01 : (List.range c.rels.length).map (dv0 c.rels) = (List.range c.rels.length).map (dv1 c.rels 0) := by
  apply List.map_congr_left
  intro j _
  rfl
 rcases lp6A h 0 g g 0 0 (fun _ => []) (fun _ => []) (by omega) (by omega) rfl (.nil _) e0 (by omega) with ⟨n', f', e', r1, r2, r3⟩ | ⟨e', r1, r2, r3⟩
 ·rw [d01] at r2
  obtain ⟨e'', q1, q2⟩ := AiO h 0 g n' f' g 0 e' (by omega) (by omega) r2
  exact fin n' f' e'' r1 q1 (ev.trans (Eq.trans r3 q2))
 ·rw [d01] at r2
  obtain ⟨e'', q1, q2⟩ := AiP h 0 g r1 0 (fun _ => []) g 0 e' (by omega) (by omega) r2
  exact fin 0 (fun _ => []) e'' (by rw [r1]; exact .nil _) q1 (ev.trans (Eq.trans r3 q2))
def ZC0 (c : SCfg) (ck : Int) : KCo := { ZCo c ck with okB := fun _ => false, okA := fun _ => false, okI := fun _ => false, okJ := fun _ => false }
theorem sC0 {c : SCfg} {ck : Int} (hck : CX prog 13 [aCfg c] [] (vI ck) []) : OrcS prog (oCo (ZC0 c ck)) :=
 .cons (.t' (enc := eU c) (c := fun _ => true) (r := fun _ => vI ck) fun _ _ => hck) (.cons (.de (fun a ha _ => by cases ha) (fun a ha _ => by cases ha) (.de (fun a ha _ => by cases ha) (fun a ha _ => by cases ha) .no)) (.cons (.de (fun a ha _ => by cases ha) (fun a ha _ => by cases ha) (.de (fun a ha _ => by cases ha) (fun a ha _ => by cases ha) .no)) .nil))
theorem Alp {c : SCfg} {ck : Int} (h0 : ck ≠ 0) (hck : CX prog 13 [aCfg c] [] (vI ck) []) : CX prog 9 [aCfg c] [] (aTs [] [] ck) [] := by
 have ev := Aja (ZC0 c ck) c 1
 have k1 : (ZC0 c ck).okc [AV.agg (List.map C.d (cfgC c))] = true := Aj (Sh c) (c := fun _ => true) () rfl
 have k2 : (ZC0 c ck).chk [AV.agg (List.map C.d (cfgC c))] = ck := rfl
 rw [k1, k2, show (ck != 0) = true by simpa using h0, cond_true, cond_true] at ev
 exact (Ax (sC0 hck).ok func9 bcmp rfl ev).le (Acx ck (.nil _ _) (.nil _ _)) (.refl _)
end Go.Proofs.YtbpndheehcbldaaGreatDoor.tb
namespace Go.Proofs.YtbpndheehcbldaaGreatDoor.tb
open Go.RowKit Go.Eb Go.Proofs.YtbpndheehcbldaaGreatDoor.st
set_option maxRecDepth 100000
def vQ (p : Int × Int) : AV := .tup [(false, [.d (dI p.1)]), (false, [.d (dI p.2)])]
structure KTc where
 okS : LB
 chk : LI
 okT : LB
 se : List AV -> Int × Int
 okg : LB
 sg : List AV -> Int × Int
def oTc (Z : KTc) : Orc := Orc.cons 31 (ansG Z.okS fun x => vI (Z.chk x)) (Orc.cons 32 (ansG Z.okT fun x => vQ (Z.se x)) (Orc.cons 33 (ansG Z.okg fun x => vQ (Z.sg x)) Orc.nil))
def oRt (Z : KTc) : Orc := Orc.cons 28 (ansG Z.okS fun x => vI (Z.chk x)) (Orc.cons 29 (ansG Z.okT fun x => vQ (Z.se x)) (Orc.cons 30 (ansG Z.okg fun x => vQ (Z.sg x)) Orc.nil))
theorem evTc (Z : KTc) (c : SCfg) : Al prog (oTc Z) na 5 f13 (Ad f13) [aCfg c] [] =
 (bif KTc.okS Z [gA (staC c.sta)] then (bif KTc.chk Z [gA (staC c.sta)] != 0 then leI (KTc.chk Z [gA (staC c.sta)]) else
 (bif KTc.okT Z [gA (staC c.sta), AV.c (C.d (Aa (53) relC rel0 c.rels))] then (bif Prod.snd (KTc.se Z [gA (staC c.sta), AV.c (C.d (Aa (53) relC
 rel0 c.rels))]) != 0 then leI (Prod.snd (KTc.se Z [gA (staC c.sta), AV.c (C.d (Aa (53) relC rel0 c.rels))])) else (bif KTc.okg Z [gA (cfgC c)]
 then leI (Prod.snd (KTc.sg Z [gA (cfgC c)])) else none)) else none)) else none) := by kernel_rfl
theorem evRt (Z : KTc) (c : SCfg) : Al prog (oRt Z) na 5 f12 (Ad f12) [aCfg c] [] =
 (bif KTc.okS Z [gA (staC c.sta)] then (bif KTc.chk Z [gA (staC c.sta)] != 0 then leI (KTc.chk Z [gA (staC c.sta)]) else
 (bif KTc.okT Z [gA (staC c.sta), AV.c (C.d (Aa (53) relC rel0 c.rels))] then (bif Prod.snd (KTc.se Z [gA (staC c.sta), AV.c (C.d (Aa (53) relC
 rel0 c.rels))]) != 0 then leI (Prod.snd (KTc.se Z [gA (staC c.sta), AV.c (C.d (Aa (53) relC rel0 c.rels))])) else (bif KTc.okg Z [gA (cfgC c)]
 then leI (Prod.snd (KTc.sg Z [gA (cfgC c)])) else none)) else none)) else none) := by kernel_rfl
def Ack : Ann := A4 [(4, ⟨[1, 3], []⟩), (9, ⟨[1, 4], []⟩)]
def Tg (r : SRel) (g m : Nat) (i3 : Int) := LK prog Orc.nil Ack 0 g f44 4 m ⟨frm [(1, .c (.ptr 0 0)), (3, iA i3)] 0 f44.ntmps, [(0, Blk.cells (List.map C.d (relC r)) 64)], 1⟩
def Nn (r : SRel) (g m : Nat) (i4 : Int) := LK prog Orc.nil Ack 0 g f44 9 m ⟨frm [(1, .c (.ptr 0 0)), (4, iA i4)] 0 f44.ntmps, [(0, Blk.cells (List.map C.d (relC r)) 64)], 1⟩
theorem blg7 : f44.body = some (Ad f44) := by kernel_rfl
theorem AkF (r : SRel) (g : Nat) : Al prog Orc.nil Ack g f44 (Ad f44) [aRel r] [] =
 (bif decide ((↑r.rules.length : Int) > 20) then leB true else (bif decide ((↑r.sets.length : Int) > 8) then leB true else (bif decide ((↑r.pubs.length : Int) > 8) then leB true
 else (bif decide ((↑r.subs.length : Int) > 30) then leB true else Tg r g g 0)))) := by kernel_rfl
theorem Zi (r : SRel) (g m : Nat) (i3 : Int) : Tg r g (m + 1) i3 =
 (bif decide (i3 < (↑r.sets.length : Int)) then (bif decide (0 <= i3) && decide (i3 < (↑r.sets.length : Int)) then (bif decide ((↑(SSet.sigs (r.sets.getD i3.toNat set0)).length :
 Int) > 30) then leB true else Tg r g m (IntKind.wrap IntKind.i64 (i3 + 1))) else none) else Nn r g g 0) := by kernel_rfl
theorem Zh (r : SRel) (g m : Nat) (i4 : Int) : Nn r g (m + 1) i4 =
 (bif decide (i4 < (↑r.rules.length : Int)) then (bif decide (0 <= i4) && decide (i4 < (↑r.rules.length : Int)) then (bif decide ((↑(ByteArray.size (SRule.text (r.rules.getD i4.toNat
 Bb))) : Int) > 200) then leB true else Nn r g m (IntKind.wrap IntKind.i64 (i4 + 1))) else none) else leB false) := by kernel_rfl
def oLg8 (ok lg : LB) : Orc := Orc.cons 44 (ansG ok fun x => vB (lg x)) Orc.nil
def Afw : Ann := A4 [(4, ⟨[1, 3], []⟩)]
def W8 (ok lg : LB) (c : SCfg) (g m : Nat) (i3 : Int) := LK prog (oLg8 ok lg) Afw 0 g f20 4 m ⟨frm [(1, .c (.ptr 0 0)), (3, iA i3)] 0 f20.ntmps, [(0, Blk.cells (List.map C.d (cfgC c)) 30)], 1⟩
theorem blg8 : f20.body = some (Ad f20) := by kernel_rfl
theorem AkE (ok lg : LB) (c : SCfg) (g : Nat) : Al prog (oLg8 ok lg) Afw g f20 (Ad f20) [aCfg c] [] =
 (bif decide ((↑c.rels.length : Int) > 20) then leB true else W8 ok lg c g g 0) := by kernel_rfl
theorem Zg (ok lg : LB) (c : SCfg) (g m : Nat) (i3 : Int) : W8 ok lg c g (m + 1) i3 =
 (bif decide (i3 < (↑c.rels.length : Int)) then (bif decide (0 <= i3) && decide (i3 < (↑c.rels.length : Int)) then (bif ok [gA (relC (c.rels.getD i3.toNat rel0))]
 then (bif lg [gA (relC (c.rels.getD i3.toNat rel0))] then leB true else W8 ok lg c g m (IntKind.wrap .i64 (i3 + 1))) else none) else none) else leB false) := by kernel_rfl
def oLg9 (ok5 l5 ok8 l8 : LB) : Orc := Orc.cons 19 (ansG ok5 fun x => vB (l5 x)) (Orc.cons 20 (ansG ok8 fun x => vB (l8 x)) Orc.nil)
theorem AkO (ok5 l5 ok8 l8 : LB) (c : SCfg) : Al prog (oLg9 ok5 l5 ok8 l8) na 5 f8 (Ad f8) [aCfg c] [] =
 (bif ok5 [gA (staC c.sta)] then (bif l5 [gA (staC c.sta)] then leB true else (bif ok8 [gA (cfgC c)] then leB (l8 [AV.agg
 (List.map C.d (cfgC c))]) else none)) else none) := by kernel_rfl
end Go.Proofs.YtbpndheehcbldaaGreatDoor.tb
end
