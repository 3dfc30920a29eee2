/-
  Check of settings: the pure parts in plain form; the program's are the reference's. No condition.
-/
import Derived.Test.YtngoglhlhlfknaaGreatRa
import Derived.Test.YtngoglhlhlfknaaGreatRb
namespace Go.Proofs.YtngoglhlhlfknaaGreat.se
open Go.RowKit Go.Eb
set_option maxRecDepth 100000

theorem tAnd (a b : Bool) : (bif a then b else false) = (a && b) := by cases a <;> rfl
theorem tNand (a b : Bool) : (bif !a then true else b) = !(a && !b) := by cases a <;> cases b <;> rfl
theorem tNot (a b : Bool) : (bif !a then false else b) = (a && b) := by cases a <;> rfl
theorem tOr (a b : Bool) : (bif a then true else b) = (a || b) := by cases a <;> rfl
theorem neI (a b : Int) : (a != b) = !(a == b) := rfl
/-! what a kind does not use -/
def zLine (r : SRel) : Bool :=
  ((r.zon0 == false && (r.zfw0 == false && (r.zx0 == 0 && (r.zr0 == 0 && (r.zl0 == 0 && (r.zd0 == 0 && true)))))) &&
    ((r.zon1 == false && (r.zfw1 == false && (r.zx1 == 0 && (r.zr1 == 0 && (r.zl1 == 0 && (r.zd1 == 0 && true)))))) &&
      ((r.zon2 == false && (r.zfw2 == false && (r.zx2 == 0 && (r.zr2 == 0 && (r.zl2 == 0 && (r.zd2 == 0 && true)))))) && true))) &&
  (r.min == 0 && (r.kre == 0 && (r.kim == 0 && (r.scheme == 0 && (r.wait == 0 && (r.guard == 0 && (r.shots == 0 && (r.dead == 0 && r.reclaim == 0))))))))
def zSrc (r : SRel) : Bool := (r.uon == false && (r.upk == 0 && (r.udl == 0 && true))) && (r.oon == false && (r.opk == 0 && (r.odl == 0 && true)))
def zBus (r : SRel) : Bool := (r.don == false && (r.dpk == 0 && (r.ddl == 0 && true))) && ((r.ion == false && (r.ipk == 0 && (r.idl == 0 && true))) && (r.fon == false && (r.fpk == 0 && (r.fdl == 0 && true))))
def zDif (r : SRel) : Bool := r.diff == 0 && (r.num == 0 && (r.den == 0 && r.harm == 0))
def usedOk (r : SRel) : Bool := (r.kind == 1 || zLine r) && ((r.kind == 2 || zSrc r) && (bif r.kind == 4 then zBus r else zDif r))
theorem used_eq (r : SRel) : ev78_v r = usedOk r := by
  unfold ev78_v usedOk zLine zSrc zBus zDif
  simp only [neI]
  generalize (r.kind == 1) = k1
  generalize (r.kind == 2) = k2
  generalize (r.kind == 4) = k4
  cases k1 <;> cases k2 <;> cases k4 <;> simp only [cond_true, cond_false, Bool.not_true, Bool.not_false, tAnd, Bool.and_assoc, Bool.true_and, Bool.and_true, Bool.false_and, Bool.and_false, Bool.true_or, Bool.false_or, Bool.cond_self]
theorem foreign_eq (r : SRel) : ev88_v r = !usedOk r := by
  unfold ev88_v usedOk zLine zSrc zBus zDif
  simp only [neI]
  generalize (r.kind == 1) = k1
  generalize (r.kind == 2) = k2
  generalize (r.kind == 4) = k4
  cases k1 <;> cases k2 <;> cases k4 <;> simp only [cond_true, cond_false, Bool.not_true, Bool.not_false, tNand, Bool.not_not, Bool.and_assoc, Bool.true_and, Bool.and_true, Bool.false_and, Bool.and_false, Bool.true_or, Bool.false_or, Bool.cond_self]
/-! zones -/
theorem zones_eq (r : SRel) : ev130_v r = ev79_v r := rfl
/-! what a scheme lacks -/
theorem missing_eq (r : SRel) : ev90_v r = !ev83_v r := by
  unfold ev90_v ev83_v
  generalize (r.scheme == 1) = k1
  generalize (r.scheme == 2) = k2
  generalize (r.scheme == 3) = k3
  generalize r.zon0 = a
  generalize r.zfw0 = b
  generalize r.zon1 = c
  generalize r.zfw1 = d
  generalize r.zon2 = e
  generalize r.zfw2 = f
  cases k1 <;> cases k2 <;> cases k3 <;> cases a <;> cases b <;> cases c <;> cases d <;> cases e <;> cases f <;> rfl

/-! numbers -/
def nSch (r : SRel) : Bool := within r.scheme 0 3 && (within r.guard 0 50 && !(r.scheme == 0 && r.guard != 0))
def nWait (r : SRel) : Bool := bif r.scheme == 3 then within r.wait 1 50 else r.wait == 0
def nEl (r : SRel) : Bool := elOk r.don r.dpk r.ddl 0 && (elOk r.uon r.upk r.udl 0 && (elOk r.oon r.opk r.odl 0 && elOk r.fon r.fpk r.fdl 1))
def nInv (r : SRel) : Bool := bif r.ion then within r.ipk 1 16383 && within r.idl 1 1000 else r.ipk == 0 && r.idl == 0
def nRec (r : SRel) : Bool := within r.shots 0 3 && (bif r.shots == 0 then r.dead == 0 && r.reclaim == 0 else within r.dead 1 100 && within r.reclaim 1 1000)
def nDif (r : SRel) : Bool := bif r.diff == 0 then r.num == 0 && (r.den == 0 && r.harm == 0) else within r.diff 0 16383 && (within r.den 1 100 && (within r.num 0 r.den && within r.harm 0 100))
theorem g13 (okr zo : List AV → Bool) (r : SRel) : L89_13 okr zo r 1 1 = lB (bif r.diff == 0 then true else within r.den 1 100 && (within r.num 0 r.den && within r.harm 0 100)) := by
  rw [st89_13]
  cases (r.diff == 0) <;> cases within r.den 1 100 <;> cases within r.num 0 r.den <;> rfl
theorem g11 (okr zo : List AV → Bool) (r : SRel) : L89_11 okr zo r 1 1 = lB (nDif r) := by
  rw [st89_11, g13]
  unfold nDif
  by_cases h : r.diff = 0
  · rw [h]
    simp only [neI]
    have w : within 0 0 16383 = true := rfl
    rw [w]
    cases (r.num == 0) <;> cases (r.den == 0) <;> cases (r.harm == 0) <;> rfl
  · have h' : (r.diff == 0) = false := by simpa using h
    rw [h']
    cases within r.diff 0 16383 <;> rfl
theorem g9 (okr zo : List AV → Bool) (r : SRel) : L89_9 okr zo r 1 1 = lB (nRec r && nDif r) := by
  rw [st89_9, g11]
  unfold nRec
  by_cases h : r.shots = 0
  · rw [h]
    simp only [neI]
    have w : within 0 0 3 = true := rfl
    have w2 : decide ((0 : Int) > 0) = false := rfl
    rw [w, w2]
    cases (r.dead == 0) <;> cases (r.reclaim == 0) <;> rfl
  · have h' : (r.shots == 0) = false := by simpa using h
    rw [h']
    by_cases h2 : r.shots > 0
    · rw [decide_eq_true h2]
      cases within r.shots 0 3 <;> cases within r.dead 1 100 <;> cases within r.reclaim 1 1000 <;> rfl
    · have w : within r.shots 0 3 = false := by unfold within; rw [decide_eq_false (by omega)]; rfl
      rw [w]
      rfl
theorem g7 (okr zo : List AV → Bool) (r : SRel) : L89_7 okr zo r 1 1 = lB (nInv r && (nRec r && nDif r)) := by
  rw [st89_7, g9]
  unfold nInv
  generalize (nRec r && nDif r) = q
  cases r.ion <;> cases within r.ipk 1 16383 <;> cases within r.idl 1 1000 <;> cases (r.ipk == 0) <;> cases (r.idl == 0) <;> rfl
theorem g5 (okr zo : List AV → Bool) (r : SRel) : L89_5 okr zo r 1 1 = lB (nEl r && (nInv r && (nRec r && nDif r))) := by
  rw [st89_5, g7]
  unfold nEl
  generalize (nInv r && (nRec r && nDif r)) = q
  cases elOk r.don r.dpk r.ddl 0 <;> cases elOk r.uon r.upk r.udl 0 <;> cases elOk r.oon r.opk r.odl 0 <;> cases elOk r.fon r.fpk r.fdl 1 <;> rfl
theorem g3 (okr zo : List AV → Bool) (r : SRel) : L89_3 okr zo r 1 1 = lB (nWait r && (nEl r && (nInv r && (nRec r && nDif r)))) := by
  rw [st89_3, g5]
  unfold nWait
  generalize (nEl r && (nInv r && (nRec r && nDif r))) = q
  simp only [neI]
  cases (r.scheme == 3) <;> cases within r.wait 1 50 <;> cases (r.wait == 0) <;> rfl
def nums (r : SRel) : Bool := nSch r && (nWait r && (nEl r && (nInv r && (nRec r && nDif r))))
theorem g1 (okr zo : List AV → Bool) (r : SRel) (h1 : okr [aRel r] = true) : callC Tryz.prog (oNu okr zo) ann89 1 Tryz.f89 (bodyOf Tryz.f89) [aRel r] [] = lB (zo [aRel r] && nums r) := by
  refine (ev89 okr zo r 1).trans ?_
  rw [h1, g3]
  unfold nums nSch
  generalize (nWait r && (nEl r && (nInv r && (nRec r && nDif r)))) = q
  simp only [neI]
  cases zo [aRel r] <;> cases within r.scheme 0 3 <;> cases within r.guard 0 50 <;> cases (r.scheme == 0) <;> cases (r.guard == 0) <;> rfl
/-! the program's numbers are these -/
theorem e80 (r : SRel) : ev80_v r = (nSch r && nWait r) := by
  unfold ev80_v nSch nWait
  simp only [neI]
  by_cases h : r.guard = 0
  · rw [h]
    have w : within 0 0 50 = true := rfl
    rw [w]
    cases within r.scheme 0 3 <;> cases (r.scheme == 3) <;> cases within r.wait 1 50 <;> cases (r.scheme == 0) <;> cases (r.wait == 0) <;> rfl
  · have h' : (r.guard == 0) = false := by simpa using h
    rw [h']
    cases within r.scheme 0 3 <;> cases (r.scheme == 3) <;> cases within r.wait 1 50 <;> cases (r.scheme == 0) <;> cases (r.wait == 0) <;> cases within r.guard 0 50 <;> rfl
theorem e81 (r : SRel) : ev81_v r = (nInv r && nEl r) := by
  unfold ev81_v nInv nEl
  cases r.ion <;> cases within r.ipk 1 16383 <;> cases within r.idl 1 1000 <;> cases (r.ipk == 0) <;> cases (r.idl == 0) <;> cases elOk r.don r.dpk r.ddl 0 <;> cases elOk r.uon r.upk r.udl 0 <;> cases elOk r.oon r.opk r.odl 0 <;> rfl
theorem within_pos (n k : Int) (h : (n == 0) = false) : within n 1 k = within n 0 k := by
  have h' : n ≠ 0 := by simpa using h
  unfold within
  by_cases h1 : n ≥ 1
  · rw [decide_eq_true h1, decide_eq_true (show n ≥ 0 by omega)]
  · rw [decide_eq_false h1, decide_eq_false (show ¬ n ≥ 0 by omega)]
theorem e82 (r : SRel) : ev82_v r = (nRec r && nDif r) := by
  unfold ev82_v nRec nDif
  simp only [neI]
  have hs : (r.shots == 0) = true → within r.shots 0 3 = true := fun h => by
    have : r.shots = 0 := by simpa using h
    rw [this]; rfl
  have hs2 := within_pos r.shots 3
  have hd2 := within_pos r.diff 16383
  cases a : (r.shots == 0) with
  | true =>
    rw [hs a]
    cases b : (r.diff == 0) with
    | true => cases (r.dead == 0) <;> cases (r.reclaim == 0) <;> cases (r.num == 0) <;> cases (r.den == 0) <;> rfl
    | false =>
      rw [hd2 b]
      cases (r.dead == 0) <;> cases (r.reclaim == 0) <;> cases within r.diff 0 16383 <;> cases within r.den 1 100 <;> cases within r.num 0 r.den <;> rfl
  | false =>
    rw [hs2 a]
    cases b : (r.diff == 0) with
    | true => cases within r.shots 0 3 <;> cases within r.dead 1 100 <;> cases within r.reclaim 1 1000 <;> cases (r.num == 0) <;> cases (r.den == 0) <;> rfl
    | false =>
      rw [hd2 b]
      cases within r.shots 0 3 <;> cases within r.dead 1 100 <;> cases within r.reclaim 1 1000 <;> cases within r.diff 0 16383 <;> cases within r.den 1 100 <;> cases within r.num 0 r.den <;> rfl
theorem nums_eq (r : SRel) : nums r = (ev80_v r && (ev81_v r && ev82_v r)) := by
  rw [e80, e81, e82]
  unfold nums
  cases nSch r <;> cases nWait r <;> cases nEl r <;> cases nInv r <;> rfl
end Go.Proofs.YtngoglhlhlfknaaGreat.se
