/-
  known returns true. No condition.
-/
import Derived.Test.YthmapnolgdpkbaaEc
import Derived.Test.YthmapnolgdpkbaaProg
import Derived.KernelRfl
namespace Go.Proofs.Ythmapnolgdpkbaa.kn
open Go.RowKit Go.Eb

set_option maxRecDepth 100000 in
theorem ev6 : callQ Try.prog (deepQ Try.prog (fun _ => na) Orc.nil 120 12) na 120 Try.f6 (bodyOf Try.f6) [] [] (fun x H' => some (.leaf (x, H'))) = some (.leaf (vB true, [])) := by kernel_rfl
theorem b6 : Try.f6.body = some (bodyOf Try.f6) := by kernel_rfl
theorem c6 (_ : Unit) : CX Try.prog 6 [] [] (vB true) [] := cxQ_of (deepQ_ok Try.prog _ (Orc.nil_ok _) 120 12) Try.func6 b6 rfl ev6
end Go.Proofs.Ythmapnolgdpkbaa.kn
