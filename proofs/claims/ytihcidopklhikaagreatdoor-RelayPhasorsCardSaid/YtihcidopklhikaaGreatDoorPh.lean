/-
  The law on phasors: what it computes. No condition.
-/
import Derived.Test.YtihcidopklhikaaGreatDoorPf
namespace Go.Proofs.YtihcidopklhikaaGreatDoor.ph
open Go.RowKit Go.Eb
set_option maxRecDepth 100000

noncomputable def oLw (okp : List AV → Bool) (p : Nat → List AV → Int) (e : List AV → Int) (okq : List AV → Bool) (q : Nat → List AV → Int) : Orc := Orc.cons 6 (ansP dec0 fun _ => vB true) (Orc.cons 5 (ansG okp fun x => .tup [(true, (List.range 12).map fun i => .d (iD (p i x))), (false, [.d (iD (e x))])]) (Orc.cons 7 (ansG okq fun x => .agg ((List.range 12).map fun i => .d (iD (q i x)))) Orc.nil))
def q12 (a b : Nat → Int) : Bool := (a 0 == b 0 && (a 1 == b 1 && (a 2 == b 2 && (a 3 == b 3 && true)))) && ((a 4 == b 4 && (a 5 == b 5 && (a 6 == b 6 && (a 7 == b 7 && true)))) && ((a 8 == b 8 && (a 9 == b 9 && (a 10 == b 10 && (a 11 == b 11 && true)))) && true))
theorem q12_of {a b : Nat → Int} (h : ∀ i, i < 12 → a i = b i) : q12 a b = true := by
  unfold q12
  rw [h 0 (by decide), h 1 (by decide), h 2 (by decide), h 3 (by decide), h 4 (by decide), h 5 (by decide), h 6 (by decide), h 7 (by decide), h 8 (by decide), h 9 (by decide), h 10 (by decide), h 11 (by decide)]
  simp
theorem evLw (okp : List AV → Bool) (p : Nat → List AV → Int) (e : List AV → Int) (okq : List AV → Bool) (q : Nat → List AV → Int) (X : Nat → Int) : callC Tryz.prog (oLw okp p e okq q) na 14 Tryz.f3 (bodyOf Tryz.f3) [ints X 72] [] =
 bif okp [ints X 36] then tst (fun i => decide (X i < -16383)) (fun i => decide (X i > 16383)) (bif e [ints X 36] == 2 then some (.leaf (vB (q12 (fun i => p i [ints X 36]) (fun _ =>
 0)), [])) else some (.leaf (vB false, []))) (bif e [ints X 36] == 0 then (bif okq [ints X 36] then some (.leaf (vB (q12 (fun i => p i [ints X 36]) (fun i => q i [ints X 36])), []))
 else none) else some (.leaf (vB false, []))) (List.range 36) else none := by kernel_rfl
end Go.Proofs.YtihcidopklhikaaGreatDoor.ph
