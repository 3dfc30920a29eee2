/-
  known returns true. No condition.
-/
import Derived.Test.YtngoglhlhlfknaaGreatEc
import Derived.Test.YtngoglhlhlfknaaGreatProg
import Derived.KernelRfl
namespace Go.Proofs.YtngoglhlhlfknaaGreat.kn
open Go.RowKit Go.Eb
set_option maxRecDepth 100000

set_option maxRecDepth 100000 in
theorem ev7k : callQ Tryz.prog (deepQ Tryz.prog (fun _ => na) Orc.nil 120 30) na 120 Tryz.f7 (bodyOf Tryz.f7) [] [] (fun x H' => some (.leaf (x, H'))) = some (.leaf (vB true, [])) := by kernel_rfl
theorem b7k : Tryz.f7.body = some (bodyOf Tryz.f7) := by kernel_rfl
theorem c7k (_ : Unit) : CX Tryz.prog 7 [] [] (vB true) [] := cxQ_of (deepQ_ok Tryz.prog _ (Orc.nil_ok _) 120 30) Tryz.func7 b7k rfl ev7k
end Go.Proofs.YtngoglhlhlfknaaGreat.kn
