/-
  The loop of the law ZonetimerUntil. No condition.
-/
import Derived.Test.YtbgmjeifnipphaaSh
namespace Go.Proofs.Ytbgmjeifnipphaa.zt
open Go.RowKit Go.Ev
set_option maxRecDepth 100000

def kp7 : List Nat := [3, 4, 6, 7, 8, 9, 10, 11]
def an7 : Ann := fun r => bif Nat.beq r 6 then some kp7 else none
def st7 (a : In) (n : Int) (ok : Bool) (c : I3) (i : Int) : St :=
  ⟨frm [(3, .c (.ptr 0 0)), (4, .c (.ptr 1 0)), (6, .c (B false)), (7, .c (.ptr 8 0)), (8, .c (.ptr 9 0)), (9, .c (Z n)), (10, .c (B ok)), (11, .c (Z i))] 0 78,
   [(0, .cells [B a.z.z0.on, B a.z.z0.fw, Z a.z.z0.x, Z a.z.z0.r, Z a.z.z0.l, Z a.z.z0.d, B a.z.z1.on, B a.z.z1.fw, Z a.z.z1.x, Z a.z.z1.r, Z a.z.z1.l, Z a.z.z1.d, B a.z.z2.on, B a.z.z2.fw, Z a.z.z2.x, Z a.z.z2.r, Z a.z.z2.l, Z a.z.z2.d] 26),
    (1, .cells [Z c.a, Z c.b, Z c.c] 28), (2, .cells [B a.p.a, B a.p.b, B a.p.c, B a.b.a, B a.b.b, B a.b.c] 38), (8, .cells [B a.p.a, B a.p.b, B a.p.c] 30), (9, .cells [B a.b.a, B a.b.b, B a.b.c] 30)], 31⟩
noncomputable def K7 (g : Nat) : Out → St → K := kBlock 0 (kSeq Try.prog orc3 an7 g (sub [true, true, true, true, true] (bodyOf Try.f7)) (kFin Try.prog Try.f7))
def E4 (a : In) : K := bif fV (a.z, a.c) then some (.c (B true)) else bif ((un a).1 == 0) then some (.c (B (!(un a).2))) else some (.c (B false))
theorem pre7 (a : In) (g : Nat) : callA Try.prog orc3 an7 g Try.f7 (bodyOf Try.f7) (eL a) =
    bif decide ((un a).1 > 60) then E4 a else bif !fV (a.z, a.c) then E4 a else loopK Try.prog orc3 an7 g (loopOf Try.f7) (some kp7) 31 g (st7 a (un a).1 (un a).2 a.c 1) (K7 g) := by kernel_rfl
def quiet (t : B3) : Bool := t.a == false && (t.b == false && (t.c == false && true))
abbrev at7 (a : In) (c : I3) : In := ⟨a.z, c, a.p, a.b⟩
theorem step7 (a : In) (n : Int) (ok : Bool) (c : I3) (i : Int) (g m : Nat) : loopK Try.prog orc3 an7 g (loopOf Try.f7) (some kp7) 31 (m + 1) (st7 a n ok c i) (K7 g) =
    bif decide (i ≤ wr (n + 1)) then
      (bif ok then (bif !((!(quiet (trI (at7 a c)))) == decide (i ≥ n)) then no else loopK Try.prog orc3 an7 g (loopOf Try.f7) (some kp7) 31 m (st7 a n ok (nxI (at7 a c)) (wr (i + 1))) (K7 g))
       else (bif !((!(quiet (trI (at7 a c)))) == false) then no else loopK Try.prog orc3 an7 g (loopOf Try.f7) (some kp7) 31 m (st7 a n ok (nxI (at7 a c)) (wr (i + 1))) (K7 g)))
    else some (.c (B (ok == decide (n > 0)))) := by kernel_rfl
end Go.Proofs.Ytbgmjeifnipphaa.zt
