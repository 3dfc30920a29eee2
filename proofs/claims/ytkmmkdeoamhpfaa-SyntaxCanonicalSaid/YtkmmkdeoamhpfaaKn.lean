/-
  known returns true. No condition.
-/
import Derived.Test.YtkmmkdeoamhpfaaEb
import Derived.Test.YtkmmkdeoamhpfaaProg
import Derived.KernelRfl
namespace Go.Proofs.Ytkmmkdeoamhpfaa.wd
open Go.RowKit Go.Eb

set_option maxRecDepth 100000 in
theorem ev7 : callA Try.prog (deepJ Try.prog (fun _ => na) Orc.nil 60 8) na 60 Try.f7 (bodyOf Try.f7) [] [] = some (.leaf (vB true, [])) := by kernel_rfl
theorem b7 : Try.f7.body = some (bodyOf Try.f7) := by kernel_rfl
theorem c7 (_ : Unit) : CX Try.prog 7 [] [] (vB true) [] := cx_of (deepJ_ok Try.prog _ (Orc.nil_ok _) 60 8) Try.func7 b7 rfl ev7
end Go.Proofs.Ytkmmkdeoamhpfaa.wd
