/-
  A window's fundamental: what the program and the reference compute. No condition.
-/
import Derived.Test.YtihcidopklhikaaGreatDoorPb
namespace Go.Proofs.YtihcidopklhikaaGreatDoor.ph
open Go.RowKit Go.Eb
set_option maxRecDepth 100000

noncomputable def oCl : Orc := Orc.cons 25 (ansC dRo cRo gRo) (Orc.cons 24 (ansC dW cSc gSc) Orc.nil)
noncomputable def oSu : Orc := Orc.cons 23 (inl Tryz.prog oCl na 20 Tryz.f23) (Orc.cons 47 (ansC dAd cAd gAd) Orc.nil)
noncomputable def oHa : Orc := Orc.cons 21 (inl Tryz.prog Orc.nil na 20 Tryz.f21) (Orc.cons 22 (inl Tryz.prog oSu na 20 Tryz.f22) Orc.nil)
def chn (x : Nat → Int) : List Nat → I4 → Option (T (AV × Hp))
  | [], s => some (.leaf (cyO s 0, []))
  | k :: r, s => bif cSc ((rt k).1, (rt k).2.1, (rt k).2.2.1, (rt k).2.2.2, x k) then bif cAd (s, mul4 (rt k) (x k)) then chn x r (add4 s (mul4 (rt k) (x k))) else none else none
def hF (x : Nat → Int) : Option (T (AV × Hp)) := tst (fun i => decide (x i < -16383)) (fun i => decide (x i > 16383)) (some (.leaf (cyO (0, 0, 0, 0) 2, []))) (chn x (List.range 12) (0, 0, 0, 0)) (List.range 12)
theorem evHa (x : Nat → Int) : callC Tryz.prog oHa na 20 Tryz.f14 (bodyOf Tryz.f14) [.c (.d (winD x)), vI 1] [] = hF x := by kernel_rfl
/-! the reference -/
noncomputable def oRr : Orc := Orc.cons 54 (inl Tryz.prog Orc.nil na 20 Tryz.f54) Orc.nil
noncomputable def oRh : Orc := Orc.cons 26 (inl Tryz.prog Orc.nil na 20 Tryz.f26) (Orc.cons 27 (inl Tryz.prog oRr na 20 Tryz.f27) Orc.nil)
def w64 (n : Int) : Int := IntKind.wrap IntKind.i64 n
def chR (x : Nat → Int) : List Nat → I4 → I4
  | [], s => s
  | k :: r, s => chR x r (w64 (s.1 + w64 (x k * (rt k).1)), w64 (s.2.1 + w64 (x k * (rt k).2.1)), w64 (s.2.2.1 + w64 (x k * (rt k).2.2.1)), w64 (s.2.2.2 + w64 (x k * (rt k).2.2.2)))
def hR (x : Nat → Int) : Option (T (AV × Hp)) := tst (fun i => decide (x i < -16383)) (fun i => decide (x i > 16383)) (some (.leaf (cyO (0, 0, 0, 0) 2, []))) (some (.leaf (cyO (chR x (List.range 12) (0, 0, 0, 0)) 0, []))) (List.range 12)
theorem evRh (x : Nat → Int) : callC Tryz.prog oRh na 20 Tryz.f15 (bodyOf Tryz.f15) [.c (.d (winD x)), vI 1] [] = hR x := by kernel_rfl
end Go.Proofs.YtihcidopklhikaaGreatDoor.ph
