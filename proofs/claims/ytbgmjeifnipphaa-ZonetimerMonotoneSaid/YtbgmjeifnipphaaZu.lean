/-
  What Step, Until and their references compute, by the evaluator. No condition.
-/
import Derived.Test.YtbgmjeifnipphaaZt
namespace Go.Proofs.Ytbgmjeifnipphaa.zt
open Go.RowKit Go.Ev
set_option maxRecDepth 100000

theorem ev11 (z0 z1 z2 : Rc) (c0 c1 c2 : Int) (p0 p1 p2 b0 b1 b2 : Bool) : callA Try.prog orc2 na 4 Try.f11 (bodyOf Try.f11) [zs z0 z1 z2, cs3 c0 c1 c2, fs3 p0 p1 p2, fs3 b0 b1 b2] = sF rnd2 z0 z1 z2 c0 c1 c2 p0 p1 p2 b0 b1 b2 := by kernel_rfl

structure In where
  z : Zs
  c : I3
  p : B3
  b : B3
abbrev eI (a : In) : List AV := [zs a.z.z0 a.z.z1 a.z.z2, cs3 a.c.a a.c.b a.c.c, fs3 a.p.a a.p.b a.p.c, fs3 a.b.a a.b.b a.b.c]
def dI : List AV → Option In
  | [x, y, p, b] => match dZs x, dI3 y, dB3 p, dB3 b with | some z, some c, some p, some b => some ⟨z, c, p, b⟩ | _, _, _, _ => none
  | _ => none
theorem dI_inv (args : List AV) (a : In) (h : dI args = some a) : args = eI a := by
  unfold dI at h; split at h
  · split at h
    · rename_i hz hc hp hb; simp at h; subst h; rw [dZs_inv _ _ hz, dI3_inv _ _ hc, dB3_inv _ _ hp, dB3_inv _ _ hb]
    · simp at h
  · simp at h
def va (a : In) : Bool := valid a.z.z0 a.z.z1 a.z.z2 a.c.a a.c.b a.c.c
/-- a zone's next count, whether it trips -/
def nx (v : Bool) (z : Rc) (c : Int) (p b : Bool) : Int := bif v then (bif act (usable z) p b then mn z c else 0) else 0
def tr (v : Bool) (z : Rc) (c : Int) (p b : Bool) : Bool := v && (act (usable z) p b && decide (mn z c > z.d))
def nxI (a : In) : I3 := ⟨nx (va a) a.z.z0 a.c.a a.p.a a.b.a, nx (va a) a.z.z1 a.c.b a.p.b a.b.b, nx (va a) a.z.z2 a.c.c a.p.c a.b.c⟩
def trI (a : In) : B3 := ⟨tr (va a) a.z.z0 a.c.a a.p.a a.b.a, tr (va a) a.z.z1 a.c.b a.p.b a.b.b, tr (va a) a.z.z2 a.c.c a.p.c a.b.c⟩
abbrev oS (a : In) : AV := out (nxI a).a (nxI a).b (nxI a).c (trI a).a (trI a).b (trI a).c
theorem sF_eq (a : In) : sF rnd a.z.z0 a.z.z1 a.z.z2 a.c.a a.c.b a.c.c a.p.a a.p.b a.p.c a.b.a a.b.b a.b.c = some (oS a) := by
  unfold sF
  simp only [rnd_eq, oS, nxI, trI, nx, tr]
  show (bif !va a then _ else _) = _
  cases va a <;> rfl
theorem sF2_eq (a : In) : sF rnd2 a.z.z0 a.z.z1 a.z.z2 a.c.a a.c.b a.c.c a.p.a a.p.b a.p.c a.b.a a.b.b a.b.c = some (oS a) := by
  unfold sF
  simp only [rnd2_eq, oS, nxI, trI, nx, tr]
  show (bif !va a then _ else _) = _
  cases va a <;> rfl
theorem b9 : Try.f9.body = some (bodyOf Try.f9) := by kernel_rfl
theorem b11 : Try.f11.body = some (bodyOf Try.f11) := by kernel_rfl
theorem b10 : Try.f10.body = some (bodyOf Try.f10) := by kernel_rfl
theorem b12 : Try.f12.body = some (bodyOf Try.f12) := by kernel_rfl
theorem b8 : Try.f8.body = some (bodyOf Try.f8) := by kernel_rfl
theorem cr9 (a : In) : ∃ Hc, CR Try.prog 9 (eI a) [] (oS a) Hc := callA_ok orc2_ok Try.func9 b9 (by rw [ev9, sF_eq])
theorem cr11 (a : In) : ∃ Hc, CR Try.prog 11 (eI a) [] (oS a) Hc := callA_ok orc2_ok Try.func11 b11 (by rw [ev11, sF2_eq])

/-- Until -/
def mx (z : Rc) (c : Int) : Int := if 1 > wr (wr (z.d + 1) - c) then 1 else wr (wr (z.d + 1) - c)
def mx2 (z : Rc) (c : Int) : Int := if wr (wr (z.d + 1) - c) > 1 then wr (wr (z.d + 1) - c) else 1
def rU (u p b : Bool) (n : Int) (l : Int) (f : Bool) (k : Int → Bool → K) : K :=
  bif !u then k l f else bif !p then k l f else bif b then k l f else bif !f then k n true else bif decide (n < l) then k n true else k l f
abbrev oU (n : Int) (f : Bool) : AV := .tup [(false, [Z n]), (false, [B f])]
def uF (a : In) : K :=
  bif !va a then some (oU 0 false) else
  rU (usable a.z.z0) a.p.a a.b.a (mx a.z.z0 a.c.a) 0 false fun l f => rU (usable a.z.z1) a.p.b a.b.b (mx a.z.z1 a.c.b) l f fun l f => rU (usable a.z.z2) a.p.c a.b.c (mx a.z.z2 a.c.c) l f fun l f => some (oU l f)
theorem ev10 (a : In) : callA Try.prog orc2 na 4 Try.f10 (bodyOf Try.f10) (eI a) = uF a := by kernel_rfl
def rV (u p b : Bool) (n : Int) (l : Int) (k : Int → K) : K :=
  bif !u then k l else bif !p then k l else bif b then k l else bif l == 0 then k n else bif decide (n < l) then k n else k l
def wF (a : In) : K :=
  bif !va a then some (oU 0 false) else
  rV (usable a.z.z0) a.p.a a.b.a (mx2 a.z.z0 a.c.a) 0 fun l => rV (usable a.z.z1) a.p.b a.b.b (mx2 a.z.z1 a.c.b) l fun l => rV (usable a.z.z2) a.p.c a.b.c (mx2 a.z.z2 a.c.c) l fun l => some (oU l (decide (l > 0)))
theorem ev12 (a : In) : callA Try.prog orc2 na 4 Try.f12 (bodyOf Try.f12) (eI a) = wF a := by kernel_rfl
theorem ev8 : callA Try.prog (deep Try.prog 10 5) na 10 Try.f8 (bodyOf Try.f8) [] = some (.c (B true)) := by kernel_rfl
theorem cr8 : ∃ Hc, CR Try.prog 8 [] [] (.c (B true)) Hc := callA_ok (deep_ok Try.prog 10 5) Try.func8 b8 ev8
end Go.Proofs.Ytbgmjeifnipphaa.zt
