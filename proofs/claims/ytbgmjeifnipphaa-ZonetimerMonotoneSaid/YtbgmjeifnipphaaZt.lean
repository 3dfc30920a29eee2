/-
  What the functions of package zonetimer and of its reference compute, by the evaluator. No condition.
-/
import Derived.Test.YtbgmjeifnipphaaRows
import Derived.Test.YtbgmjeifnipphaaEv
import Derived.KernelRfl
namespace Go.Proofs.Ytbgmjeifnipphaa.zt
open Go.RowKit Go.Ev

abbrev B (b : Bool) : C := .d (.v (.bool b))
abbrev Z (n : Int) : C := .d (.v (.int .i64 n))
abbrev wr (n : Int) : Int := IntKind.i64.wrap n

structure Rc where
  on : Bool
  fw : Bool
  x : Int
  r : Int
  l : Int
  d : Int

abbrev Rc.cs (z : Rc) : List C := [B z.on, B z.fw, Z z.x, Z z.r, Z z.l, Z z.d]
def usable (z : Rc) : Bool := bif z.on then (bif z.fw then (bif decide (z.d ≥ 0) then decide (z.d ≤ 500) else false) else false) else false
abbrev zs (z0 z1 z2 : Rc) : AV := .agg [B z0.on, B z0.fw, Z z0.x, Z z0.r, Z z0.l, Z z0.d, B z1.on, B z1.fw, Z z1.x, Z z1.r, Z z1.l, Z z1.d, B z2.on, B z2.fw, Z z2.x, Z z2.r, Z z2.l, Z z2.d]
abbrev cs3 (a b c : Int) : AV := .agg [Z a, Z b, Z c]
abbrev fs3 (a b c : Bool) : AV := .agg [B a, B b, B c]

set_option maxRecDepth 100000
abbrev K := Option AV
def us (z : Rc) : K := bif z.on then (bif z.fw then (bif decide (z.d ≥ 0) then some (.c (B (decide (z.d ≤ 500)))) else some (.c (B false))) else some (.c (B false))) else some (.c (B false))
theorem us_eq (z : Rc) : us z = some (.c (B (usable z))) := by unfold us usable; cases z.on <;> cases z.fw <;> cases decide (z.d ≥ 0) <;> rfl
theorem ev15 (z : Rc) : callA Try.prog Orc.nil na 1 Try.f15 (bodyOf Try.f15) [.agg z.cs] = us z := by kernel_rfl
theorem ev16 (z : Rc) : callA Try.prog Orc.nil na 1 Try.f16 (bodyOf Try.f16) [.agg z.cs] = us z := by kernel_rfl
theorem b15 : Try.f15.body = some (bodyOf Try.f15) := by kernel_rfl
theorem b16 : Try.f16.body = some (bodyOf Try.f16) := by kernel_rfl
theorem cr15 (z : Rc) : ∃ Hc, CR Try.prog 15 [.agg z.cs] [] (.c (B (usable z))) Hc := callA_ok (Orc.nil_ok _) Try.func15 b15 (by rw [ev15, us_eq])
theorem cr16 (z : Rc) : ∃ Hc, CR Try.prog 16 [.agg z.cs] [] (.c (B (usable z))) Hc := callA_ok (Orc.nil_ok _) Try.func16 b16 (by rw [ev16, us_eq])

/-- decoders -/
def dRc : List AV → Option Rc
  | [.agg [.d (.v (.bool on)), .d (.v (.bool fw)), .d (.v (.int .i64 x)), .d (.v (.int .i64 r)), .d (.v (.int .i64 l)), .d (.v (.int .i64 d))]] => some ⟨on, fw, x, r, l, d⟩
  | _ => none
theorem dRc_inv (args : List AV) (z : Rc) (h : dRc args = some z) : args = [.agg z.cs] := by
  unfold dRc at h; split at h
  · simp at h; subst h; rfl
  · simp at h

def orc1 : Orc := Orc.cons 15 (ans dRc fun z => .c (B (usable z))) (Orc.cons 16 (ans dRc fun z => .c (B (usable z))) Orc.nil)
theorem orc1_ok : OrcOk Try.prog orc1 := Orc.cons_ok (Orc.cons_ok (Orc.nil_ok _) (ans_ok dRc_inv cr16)) (ans_ok dRc_inv cr15)

def most (z : Rc) : Int := bif usable z then wr (z.d + 1) else 0
def okc (z : Rc) (c : Int) : Bool := bif decide (c < 0) then false else bif decide (c > most z) then false else true
def valid (z0 z1 z2 : Rc) (c0 c1 c2 : Int) : Bool := okc z0 c0 && okc z1 c1 && okc z2 c2
def vR (u : Bool) (c d : Int) (r : K) : K :=
  bif u then (bif decide (c < 0) then some (.c (B false)) else bif decide (c > wr (d + 1)) then some (.c (B false)) else r)
  else (bif decide (c < 0) then some (.c (B false)) else bif decide (c > 0) then some (.c (B false)) else r)
theorem vR_eq (z : Rc) (c : Int) (r : Bool) : vR (usable z) c z.d (some (.c (B r))) = some (.c (B (okc z c && r))) := by
  unfold vR okc most; cases usable z <;> simp only [cond_true, cond_false] <;> cases decide (c < 0) <;> simp only [cond_true, cond_false] <;> first | rfl | (cases decide (c > 0) <;> rfl) | (cases decide (c > wr (z.d + 1)) <;> rfl)
def vF (z0 z1 z2 : Rc) (c0 c1 c2 : Int) : K := vR (usable z0) c0 z0.d (vR (usable z1) c1 z1.d (vR (usable z2) c2 z2.d (some (.c (B true)))))
theorem vF_eq (z0 z1 z2 : Rc) (c0 c1 c2 : Int) : vF z0 z1 z2 c0 c1 c2 = some (.c (B (valid z0 z1 z2 c0 c1 c2))) := by
  unfold vF valid; rw [vR_eq, vR_eq, vR_eq, Bool.and_true, Bool.and_assoc]
theorem ev13 (z0 z1 z2 : Rc) (c0 c1 c2 : Int) : callA Try.prog orc1 na 4 Try.f13 (bodyOf Try.f13) [zs z0 z1 z2, cs3 c0 c1 c2] = vF z0 z1 z2 c0 c1 c2 := by kernel_rfl
theorem ev14 (z0 z1 z2 : Rc) (c0 c1 c2 : Int) : callA Try.prog orc1 na 4 Try.f14 (bodyOf Try.f14) [zs z0 z1 z2, cs3 c0 c1 c2] = vF z0 z1 z2 c0 c1 c2 := by kernel_rfl
theorem b13 : Try.f13.body = some (bodyOf Try.f13) := by kernel_rfl
theorem b14 : Try.f14.body = some (bodyOf Try.f14) := by kernel_rfl
theorem cr13 (z0 z1 z2 : Rc) (c0 c1 c2 : Int) : ∃ Hc, CR Try.prog 13 [zs z0 z1 z2, cs3 c0 c1 c2] [] (.c (B (valid z0 z1 z2 c0 c1 c2))) Hc := callA_ok orc1_ok Try.func13 b13 (by rw [ev13, vF_eq])
theorem cr14 (z0 z1 z2 : Rc) (c0 c1 c2 : Int) : ∃ Hc, CR Try.prog 14 [zs z0 z1 z2, cs3 c0 c1 c2] [] (.c (B (valid z0 z1 z2 c0 c1 c2))) Hc := callA_ok orc1_ok Try.func14 b14 (by rw [ev14, vF_eq])

structure Zs where
  z0 : Rc
  z1 : Rc
  z2 : Rc
structure I3 where
  a : Int
  b : Int
  c : Int
structure B3 where
  a : Bool
  b : Bool
  c : Bool
def dZs : AV → Option Zs
  | .agg [.d (.v (.bool on)), .d (.v (.bool fw)), .d (.v (.int .i64 x)), .d (.v (.int .i64 r)), .d (.v (.int .i64 l)), .d (.v (.int .i64 d)), .d (.v (.bool on1)), .d (.v (.bool fw1)), .d (.v (.int .i64 x1)), .d (.v (.int .i64 r1)), .d (.v (.int .i64 l1)), .d (.v (.int .i64 d1)), .d (.v (.bool on2)), .d (.v (.bool fw2)), .d (.v (.int .i64 x2)), .d (.v (.int .i64 r2)), .d (.v (.int .i64 l2)), .d (.v (.int .i64 d2))] =>
    some ⟨⟨on, fw, x, r, l, d⟩, ⟨on1, fw1, x1, r1, l1, d1⟩, ⟨on2, fw2, x2, r2, l2, d2⟩⟩
  | _ => none
def dI3 : AV → Option I3
  | .agg [.d (.v (.int .i64 a)), .d (.v (.int .i64 b)), .d (.v (.int .i64 c))] => some ⟨a, b, c⟩
  | _ => none
def dB3 : AV → Option B3
  | .agg [.d (.v (.bool a)), .d (.v (.bool b)), .d (.v (.bool c))] => some ⟨a, b, c⟩
  | _ => none
set_option maxHeartbeats 1000000 in
theorem dZs_inv (x : AV) (z : Zs) (h : dZs x = some z) : x = zs z.z0 z.z1 z.z2 := by
  unfold dZs at h; split at h
  · simp at h; subst h; rfl
  · simp at h
theorem dI3_inv (x : AV) (z : I3) (h : dI3 x = some z) : x = cs3 z.a z.b z.c := by
  unfold dI3 at h; split at h
  · simp at h; subst h; rfl
  · simp at h
theorem dB3_inv (x : AV) (z : B3) (h : dB3 x = some z) : x = fs3 z.a z.b z.c := by
  unfold dB3 at h; split at h
  · simp at h; subst h; rfl
  · simp at h
def dV : List AV → Option (Zs × I3)
  | [a, b] => match dZs a, dI3 b with | some z, some c => some (z, c) | _, _ => none
  | _ => none
abbrev eV (a : Zs × I3) : List AV := [zs a.1.z0 a.1.z1 a.1.z2, cs3 a.2.a a.2.b a.2.c]
theorem dV_inv (args : List AV) (a : Zs × I3) (h : dV args = some a) : args = eV a := by
  unfold dV at h; split at h
  · split at h
    · rename_i z c hz hc; simp at h; subst h; rw [dZs_inv _ _ hz, dI3_inv _ _ hc]
    · simp at h
  · simp at h
def fV (a : Zs × I3) : Bool := valid a.1.z0 a.1.z1 a.1.z2 a.2.a a.2.b a.2.c

/-- usable and Valid by contract -/
def orc2 : Orc := Orc.cons 13 (ans dV fun a => .c (B (fV a))) (Orc.cons 14 (ans dV fun a => .c (B (fV a))) orc1)
theorem orc2_ok : OrcOk Try.prog orc2 := Orc.cons_ok (Orc.cons_ok orc1_ok (ans_ok dV_inv fun _ => cr14 ..)) (ans_ok dV_inv fun _ => cr13 ..)

def act (u p b : Bool) : Bool := u && p && !b
def rnd (u p b : Bool) (n : Int) (t : Bool) (k : Int → Bool → K) : K := bif !u then k 0 false else bif !p then k 0 false else bif b then k 0 false else k n t
def rnd2 (u p b : Bool) (n : Int) (t : Bool) (k : Int → Bool → K) : K := bif u then (bif p then (bif !b then k n t else k 0 false) else k 0 false) else k 0 false
theorem rnd_eq (u p b : Bool) (n : Int) (t : Bool) (k : Int → Bool → K) : rnd u p b n t k = k (bif act u p b then n else 0) (act u p b && t) := by cases u <;> cases p <;> cases b <;> rfl
theorem rnd2_eq (u p b : Bool) (n : Int) (t : Bool) (k : Int → Bool → K) : rnd2 u p b n t k = k (bif act u p b then n else 0) (act u p b && t) := by cases u <;> cases p <;> cases b <;> rfl
def mn (z : Rc) (c : Int) : Int := if wr (z.d + 1) < wr (c + 1) then wr (z.d + 1) else wr (c + 1)
abbrev out (n0 n1 n2 : Int) (t0 t1 t2 : Bool) : AV := .tup [(true, [Z n0, Z n1, Z n2]), (true, [B t0, B t1, B t2])]
def sF (rnd : Bool → Bool → Bool → Int → Bool → (Int → Bool → K) → K) (z0 z1 z2 : Rc) (c0 c1 c2 : Int) (p0 p1 p2 b0 b1 b2 : Bool) : K :=
  bif !valid z0 z1 z2 c0 c1 c2 then some (out 0 0 0 false false false) else
  rnd (usable z0) p0 b0 (mn z0 c0) (decide (mn z0 c0 > z0.d)) fun n0 t0 => rnd (usable z1) p1 b1 (mn z1 c1) (decide (mn z1 c1 > z1.d)) fun n1 t1 => rnd (usable z2) p2 b2 (mn z2 c2) (decide (mn z2 c2 > z2.d)) fun n2 t2 => some (out n0 n1 n2 t0 t1 t2)
theorem ev9 (z0 z1 z2 : Rc) (c0 c1 c2 : Int) (p0 p1 p2 b0 b1 b2 : Bool) : callA Try.prog orc2 na 4 Try.f9 (bodyOf Try.f9) [zs z0 z1 z2, cs3 c0 c1 c2, fs3 p0 p1 p2, fs3 b0 b1 b2] = sF rnd z0 z1 z2 c0 c1 c2 p0 p1 p2 b0 b1 b2 := by kernel_rfl
end Go.Proofs.Ytbgmjeifnipphaa.zt
