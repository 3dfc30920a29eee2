/-
  NARROWER THAN 'FOR EVERY INPUT', by the rows' own cells (each row's printed sentence says how): SyntaxChecks: loops.
  DERIVED. THE GIVEN ROWS OF THIS SEAT. 4 by the template 'for every input the law returns true; each argument reads behind the call as it read before'; 0 by the template 'total and deterministic' (their statements: YtkmmkdeoamhpfaaTotals.lean).
  GIVEN WITH THE SEED: the statements are not yours to turn. If you find one false, say at which input.
  Laid BY PROGRAM, IN A SANDBOX (cutbox-rows.mjs): the forced cells as the released guide's own fill.sh prints them over the translation daa3bc2ec723edd9… (all of the seat's roots in one cut). By AI agents, Wed Nov 11 2026. No macro, syntax, notation, axiom, sorry.
-/
import Derived.Test.YtkmmkdeoamhpfaaChecked
import GoSem.Claim
import GoSem.ClaimJoined
import GoSem.ClaimMapViews
import Derived.JoinedTies
import Derived.KernelRfl
namespace Go.Proofs.Ytkmmkdeoamhpfaa
/- THE CELL 'sum', in the pinned program and in every row, IS THE sha256 OF THE DUMP (.gsa) THAT YtkmmkdeoamhpfaaProg.lean LOADS. Nothing in Lean hashes anything: it is a label: what it is worth is what the hold of that sum in a sandbox is worth. -/
noncomputable def Try.pinned : Pinned := { name := "ytkmmkdeoamhpfaa", sum := "daa3bc2ec723edd913b4920768b9341cc81dd1e2c1566950b0c23a4ef19c0ed6", checked := Try.checked }
namespace Rows
def none {H : Type} : Left H := { results := [], args := [] }

/-- 'substationlaw04.SyntaxConcatenates': WHATEVER THE INPUT: true; the input reads as it did. -/
def syntaxConcatenatesSpec : ChangeSpec := { name := "syntaxConcatenates", fn := fun _ => fun
  | [d1, d2] => { results := [.lit (.bool true)], args := [d1, d2] }
  | _ => none }
def syntaxConcatenatesRow : OpenClaim := { program := "ytkmmkdeoamhpfaa", sum := "daa3bc2ec723edd913b4920768b9341cc81dd1e2c1566950b0c23a4ef19c0ed6", func := "substation/substationlaw04.SyntaxConcatenates", spec := "syntaxConcatenates", inPlace := ["internal/bytealg.IndexByteString"], unfollowed := true, recurses := true, apart := false }
def SyntaxConcatenatesSaid : Prop := syntaxConcatenatesRow.holds Try.pinned (OpenSpec.ofChange syntaxConcatenatesSpec)

/-- ITS FALSE NEIGHBOUR: 'it returns false'. Refute it at one input. -/
def syntaxConcatenatesWrong : ChangeSpec := { name := "syntaxConcatenates", fn := fun _ => fun
  | [d1, d2] => { results := [.lit (.bool false)], args := [d1, d2] }
  | _ => none }
def SyntaxConcatenatesWrongFalsely : Prop := syntaxConcatenatesRow.holds Try.pinned (OpenSpec.ofChange syntaxConcatenatesWrong)

/-- 'substationlaw04.SyntaxWords': WHATEVER THE INPUT: true; the input reads as it did. -/
def syntaxWordsSpec : ChangeSpec := { name := "syntaxWords", fn := fun _ => fun
  | [d] => { results := [.lit (.bool true)], args := [d] }
  | _ => none }
def syntaxWordsRow : OpenClaim := { program := "ytkmmkdeoamhpfaa", sum := "daa3bc2ec723edd913b4920768b9341cc81dd1e2c1566950b0c23a4ef19c0ed6", func := "substation/substationlaw04.SyntaxWords", spec := "syntaxWords", inPlace := ["internal/bytealg.IndexByteString"], apart := false }
def SyntaxWordsSaid : Prop := syntaxWordsRow.holds Try.pinned (OpenSpec.ofChange syntaxWordsSpec)

/-- ITS FALSE NEIGHBOUR: 'it returns false'. Refute it at one input. -/
def syntaxWordsWrong : ChangeSpec := { name := "syntaxWords", fn := fun _ => fun
  | [d] => { results := [.lit (.bool false)], args := [d] }
  | _ => none }
def SyntaxWordsWrongFalsely : Prop := syntaxWordsRow.holds Try.pinned (OpenSpec.ofChange syntaxWordsWrong)

/-- 'substationlaw04.SyntaxCanonical': WHATEVER THE INPUT: true; the input reads as it did. -/
def syntaxCanonicalSpec : ChangeSpec := { name := "syntaxCanonical", fn := fun _ => fun
  | [d] => { results := [.lit (.bool true)], args := [d] }
  | _ => none }
def syntaxCanonicalRow : OpenClaim := { program := "ytkmmkdeoamhpfaa", sum := "daa3bc2ec723edd913b4920768b9341cc81dd1e2c1566950b0c23a4ef19c0ed6", func := "substation/substationlaw04.SyntaxCanonical", spec := "syntaxCanonical", inPlace := ["internal/bytealg.IndexByteString", "internal/abi.NoEscape"], unfollowed := true, recurses := true, apart := false }
def SyntaxCanonicalSaid : Prop := syntaxCanonicalRow.holds Try.pinned (OpenSpec.ofChange syntaxCanonicalSpec)

/-- ITS FALSE NEIGHBOUR: 'it returns false'. Refute it at one input. -/
def syntaxCanonicalWrong : ChangeSpec := { name := "syntaxCanonical", fn := fun _ => fun
  | [d] => { results := [.lit (.bool false)], args := [d] }
  | _ => none }
def SyntaxCanonicalWrongFalsely : Prop := syntaxCanonicalRow.holds Try.pinned (OpenSpec.ofChange syntaxCanonicalWrong)

/-- 'substationlaw04.SyntaxChecks': WHATEVER THE INPUT: true; the input reads as it did. -/
def syntaxChecksSpec : ChangeSpec := { name := "syntaxChecks", fn := fun _ => fun
  | [d1, d2] => { results := [.lit (.bool true)], args := [d1, d2] }
  | _ => none }
def syntaxChecksRow : OpenClaim := { program := "ytkmmkdeoamhpfaa", sum := "daa3bc2ec723edd913b4920768b9341cc81dd1e2c1566950b0c23a4ef19c0ed6", func := "substation/substationlaw04.SyntaxChecks", spec := "syntaxChecks", inPlace := ["internal/bytealg.IndexByteString", "internal/abi.NoEscape"], unfollowed := true, recurses := true, loops := true, apart := false }
def SyntaxChecksSaid : Prop := syntaxChecksRow.holds Try.pinned (OpenSpec.ofChange syntaxChecksSpec)

/-- ITS FALSE NEIGHBOUR: 'it returns false'. Refute it at one input. -/
def syntaxChecksWrong : ChangeSpec := { name := "syntaxChecks", fn := fun _ => fun
  | [d1, d2] => { results := [.lit (.bool false)], args := [d1, d2] }
  | _ => none }
def SyntaxChecksWrongFalsely : Prop := syntaxChecksRow.holds Try.pinned (OpenSpec.ofChange syntaxChecksWrong)

/- THE SECOND FORM. 'bulk': how many values and letters a reading holds, each counted each time it is reached (what is shared counts as often as it is met; a slice's spare places count too). A statement '..UptoSaid' is the law's where the arguments, and the package variables that the reading takes, are together of bulk at most 1048576: NARROWER than '..Said'. Prove '..Said' where nothing that the law and all that it calls make is longer than what came in: it says more and counts as full. Else prove '..UptoSaid'. A law counts once. -/
mutual
def uptoBulk {H : Type} : DataW H → Nat
  | .lit (.string bytes) => bytes.length + 1
  | .lit _ => 1
  | .nil => 1
  | .ptr d => uptoBulk d + 1
  | .slice elems spare => uptoBulkAll elems + uptoBulkAll spare + 1
  | .agg parts => uptoBulkAll parts + 1
  | .iface _ d => uptoBulk d + 1
  | .map entries => uptoBulkEntries entries + 1
  | .held _ => 1
def uptoBulkAll {H : Type} : List (DataW H) → Nat
  | [] => 0
  | d :: r => uptoBulk d + uptoBulkAll r
def uptoBulkEntries {H : Type} : List (Lit × DataW H) → Nat
  | [] => 0
  | x :: r => uptoBulkEntry x + uptoBulkEntries r
def uptoBulkEntry {H : Type} : Lit × DataW H → Nat
  | (.string bytes, d) => bytes.length + uptoBulk d + 1
  | (_, d) => uptoBulk d + 1
 end
def uptoSmall : (H : Type) → List (DataW H) → Bool := fun _ ds => decide (uptoBulkAll ds ≤ 1048576)
def OpenSpec.upto (s : _root_.Go.ChangeSpec) : _root_.Go.OpenSpec := { _root_.Go.OpenSpec.ofChange s with cond := some uptoSmall }

/-- 'substationlaw04.SyntaxConcatenates', WHERE WHAT IT READS IS OF BULK AT MOST 1048576: true; the input reads as it did. -/
def syntaxConcatenatesUptoRow : OpenClaim := { program := "ytkmmkdeoamhpfaa", sum := "daa3bc2ec723edd913b4920768b9341cc81dd1e2c1566950b0c23a4ef19c0ed6", func := "substation/substationlaw04.SyntaxConcatenates", spec := "syntaxConcatenates", inPlace := ["internal/bytealg.IndexByteString"], unfollowed := true, recurses := true, apart := false, narrowed := true }
def SyntaxConcatenatesUptoSaid : Prop := syntaxConcatenatesUptoRow.holds Try.pinned (OpenSpec.upto syntaxConcatenatesSpec)

/-- 'substationlaw04.SyntaxWords', WHERE WHAT IT READS IS OF BULK AT MOST 1048576: true; the input reads as it did. -/
def syntaxWordsUptoRow : OpenClaim := { program := "ytkmmkdeoamhpfaa", sum := "daa3bc2ec723edd913b4920768b9341cc81dd1e2c1566950b0c23a4ef19c0ed6", func := "substation/substationlaw04.SyntaxWords", spec := "syntaxWords", inPlace := ["internal/bytealg.IndexByteString"], apart := false, narrowed := true }
def SyntaxWordsUptoSaid : Prop := syntaxWordsUptoRow.holds Try.pinned (OpenSpec.upto syntaxWordsSpec)

/-- 'substationlaw04.SyntaxCanonical', WHERE WHAT IT READS IS OF BULK AT MOST 1048576: true; the input reads as it did. -/
def syntaxCanonicalUptoRow : OpenClaim := { program := "ytkmmkdeoamhpfaa", sum := "daa3bc2ec723edd913b4920768b9341cc81dd1e2c1566950b0c23a4ef19c0ed6", func := "substation/substationlaw04.SyntaxCanonical", spec := "syntaxCanonical", inPlace := ["internal/bytealg.IndexByteString", "internal/abi.NoEscape"], unfollowed := true, recurses := true, apart := false, narrowed := true }
def SyntaxCanonicalUptoSaid : Prop := syntaxCanonicalUptoRow.holds Try.pinned (OpenSpec.upto syntaxCanonicalSpec)

/-- 'substationlaw04.SyntaxChecks', WHERE WHAT IT READS IS OF BULK AT MOST 1048576: true; the input reads as it did. -/
def syntaxChecksUptoRow : OpenClaim := { program := "ytkmmkdeoamhpfaa", sum := "daa3bc2ec723edd913b4920768b9341cc81dd1e2c1566950b0c23a4ef19c0ed6", func := "substation/substationlaw04.SyntaxChecks", spec := "syntaxChecks", inPlace := ["internal/bytealg.IndexByteString", "internal/abi.NoEscape"], unfollowed := true, recurses := true, loops := true, apart := false, narrowed := true }
def SyntaxChecksUptoSaid : Prop := syntaxChecksUptoRow.holds Try.pinned (OpenSpec.upto syntaxChecksSpec)

end Rows
end Go.Proofs.Ytkmmkdeoamhpfaa
