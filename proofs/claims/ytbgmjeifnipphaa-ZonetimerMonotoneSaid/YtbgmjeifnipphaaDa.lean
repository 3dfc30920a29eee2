/-
  The loop of the law ZonetimerDelays. No condition.
-/
import Derived.Test.YtbgmjeifnipphaaSh
namespace Go.Proofs.Ytbgmjeifnipphaa.zt
open Go.RowKit Go.Ev
set_option maxRecDepth 100000

abbrev slB (l : List Bool) : AV := .c (.d (.sl l.length fun i => [.v (.bool (l.getD i false))]))
abbrev z0c : List C := [B false, B false, Z 0, Z 0, Z 0, Z 0]
def rz : Rc := ⟨false, false, 0, 0, 0, 0⟩
def kp3 : List Nat := [1, 2, 3, 6, 7, 8, 9, 30, 31]
def an3 : Ann := fun r => bif Nat.beq r 7 then some kp3 else none
abbrev eD (z : Rc) (p b : List Bool) : List AV := [.agg z.cs, slB p, slB b]
def st3 (z : Rc) (p b : List Bool) (run k : Int) (c : I3) : St :=
  ⟨frm [(1, slB p), (2, slB b), (3, .c (.ptr 0 0)), (6, .c (B false)), (7, .c (.ptr 16 0)), (8, .c (.ptr 19 0)), (9, .c (Z run)), (30, .c (Z p.length)), (31, .c (Z k))] 0 91,
   [(0, .cells z.cs 23), (16, .cells (z0c ++ z.cs ++ z0c) 26), (19, .cells [Z c.a, Z c.b, Z c.c] 28)], 25⟩
noncomputable def K3 (g : Nat) : Out → St → K := kBlock 0 (kSeq Try.prog orc3 an3 g (sub [true, true, true, true, true, true] (bodyOf Try.f3)) (kFin Try.prog Try.f3))
def yes : K := some (.c (B true))
theorem pre3 (z : Rc) (p b : List Bool) (g : Nat) : callA Try.prog orc3 an3 g Try.f3 (bodyOf Try.f3) (eD z p b) =
    bif ((p.length : Int) != (b.length : Int)) then yes else bif decide ((p.length : Int) > 80) then yes else
      loopK Try.prog orc3 an3 g (loopOf Try.f3) (some kp3) 25 g (st3 z p b 0 0 ⟨0, 0, 0⟩) (K3 g) := by kernel_rfl
def chk (n : Nat) (k : Int) (r : K) : K := bif (decide (0 ≤ k) && decide (k < (n : Int)) && true) then r else none
abbrev in3 (z : Rc) (c : I3) (pk bk : Bool) : In := ⟨⟨rz, z, rz⟩, c, ⟨true, pk, true⟩, ⟨false, bk, false⟩⟩
def T3 (t : B3) (x : Bool) (r : K) : K := bif !(t.a == false && (t.b == x && (t.c == false && true))) then no else r
def R3 (z : Rc) (run : Int) (t : B3) (r : K) : K :=
  bif z.on then (bif z.fw then (bif decide (z.d ≥ 0) then (bif decide (z.d ≤ 500) then T3 t (decide (run > z.d)) r else T3 t false r) else T3 t false r) else T3 t false r) else T3 t false r
theorem step3 (z : Rc) (p b : List Bool) (run k : Int) (c : I3) (g m : Nat) : loopK Try.prog orc3 an3 g (loopOf Try.f3) (some kp3) 25 (m + 1) (st3 z p b run k c) (K3 g) =
    bif decide (k < (p.length : Int)) then
      (chk p.length k (chk b.length k (chk p.length k
        (bif !(p.getD k.toNat false) then R3 z 0 (trI (in3 z c (p.getD k.toNat false) (b.getD k.toNat false))) (loopK Try.prog orc3 an3 g (loopOf Try.f3) (some kp3) 25 m (st3 z p b 0 (wr (k + 1)) (nxI (in3 z c (p.getD k.toNat false) (b.getD k.toNat false)))) (K3 g))
         else chk b.length k (bif b.getD k.toNat false then R3 z 0 (trI (in3 z c (p.getD k.toNat false) (b.getD k.toNat false))) (loopK Try.prog orc3 an3 g (loopOf Try.f3) (some kp3) 25 m (st3 z p b 0 (wr (k + 1)) (nxI (in3 z c (p.getD k.toNat false) (b.getD k.toNat false)))) (K3 g))
           else R3 z (wr (run + 1)) (trI (in3 z c (p.getD k.toNat false) (b.getD k.toNat false))) (loopK Try.prog orc3 an3 g (loopOf Try.f3) (some kp3) 25 m (st3 z p b (wr (run + 1)) (wr (k + 1)) (nxI (in3 z c (p.getD k.toNat false) (b.getD k.toNat false)))) (K3 g)))))))
    else yes := by kernel_rfl
end Go.Proofs.Ytbgmjeifnipphaa.zt
