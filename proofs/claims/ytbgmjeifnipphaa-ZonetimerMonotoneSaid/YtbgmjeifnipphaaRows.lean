/-
  No cell of these rows narrows 'for every input' (looked for: loops, veiled, ifaces, maps, wideKeys, modest, calm, conditions, laid).
  DERIVED. THE GIVEN ROWS OF THIS SEAT. 5 by the template 'for every input the law returns true; each argument reads behind the call as it read before'; 0 by the template 'total and deterministic' (their statements: YtbgmjeifnipphaaTotals.lean).
  GIVEN WITH THE SEED: the statements are not yours to turn. If you find one false, say at which input.
  Laid BY PROGRAM, IN A SANDBOX (cutbox-rows.mjs): the forced cells as the released guide's own fill.sh prints them over the translation c0bd4d48b47128ae… (all of the seat's roots in one cut). By AI agents, Wed Nov 11 2026. No macro, syntax, notation, axiom, sorry.
-/
import Derived.Test.YtbgmjeifnipphaaChecked
import GoSem.Claim
import GoSem.ClaimJoined
import GoSem.ClaimMapViews
import Derived.JoinedTies
import Derived.KernelRfl
namespace Go.Proofs.Ytbgmjeifnipphaa
/- THE CELL 'sum', in the pinned program and in every row, IS THE sha256 OF THE DUMP (.gsa) THAT YtbgmjeifnipphaaProg.lean LOADS. Nothing in Lean hashes anything: it is a label: what it is worth is what the hold of that sum in a sandbox is worth. -/
noncomputable def Try.pinned : Pinned := { name := "ytbgmjeifnipphaa", sum := "c0bd4d48b47128ae3989282c529f4e0e9b15f0e78c4384439efd58833f6014c4", checked := Try.checked }
namespace Rows
def none {H : Type} : Left H := { results := [], args := [] }

/-- 'substationlaw30.ZonetimerDelays': WHATEVER THE INPUT: true; the input reads as it did. -/
def zonetimerDelaysSpec : ChangeSpec := { name := "zonetimerDelays", fn := fun _ => fun
  | [d1, d2, d3] => { results := [.lit (.bool true)], args := [d1, d2, d3] }
  | _ => none }
def zonetimerDelaysRow : OpenClaim := { program := "ytbgmjeifnipphaa", sum := "c0bd4d48b47128ae3989282c529f4e0e9b15f0e78c4384439efd58833f6014c4", func := "substation/substationlaw30.ZonetimerDelays", spec := "zonetimerDelays", apart := false }
def ZonetimerDelaysSaid : Prop := zonetimerDelaysRow.holds Try.pinned (OpenSpec.ofChange zonetimerDelaysSpec)

/-- ITS FALSE NEIGHBOUR: 'it returns false'. Refute it at one input. -/
def zonetimerDelaysWrong : ChangeSpec := { name := "zonetimerDelays", fn := fun _ => fun
  | [d1, d2, d3] => { results := [.lit (.bool false)], args := [d1, d2, d3] }
  | _ => none }
def ZonetimerDelaysWrongFalsely : Prop := zonetimerDelaysRow.holds Try.pinned (OpenSpec.ofChange zonetimerDelaysWrong)

/-- 'substationlaw30.ZonetimerMonotone': WHATEVER THE INPUT: true; the input reads as it did. -/
def zonetimerMonotoneSpec : ChangeSpec := { name := "zonetimerMonotone", fn := fun _ => fun
  | [d1, d2, d3] => { results := [.lit (.bool true)], args := [d1, d2, d3] }
  | _ => none }
def zonetimerMonotoneRow : OpenClaim := { program := "ytbgmjeifnipphaa", sum := "c0bd4d48b47128ae3989282c529f4e0e9b15f0e78c4384439efd58833f6014c4", func := "substation/substationlaw30.ZonetimerMonotone", spec := "zonetimerMonotone", apart := false }
def ZonetimerMonotoneSaid : Prop := zonetimerMonotoneRow.holds Try.pinned (OpenSpec.ofChange zonetimerMonotoneSpec)

/-- ITS FALSE NEIGHBOUR: 'it returns false'. Refute it at one input. -/
def zonetimerMonotoneWrong : ChangeSpec := { name := "zonetimerMonotone", fn := fun _ => fun
  | [d1, d2, d3] => { results := [.lit (.bool false)], args := [d1, d2, d3] }
  | _ => none }
def ZonetimerMonotoneWrongFalsely : Prop := zonetimerMonotoneRow.holds Try.pinned (OpenSpec.ofChange zonetimerMonotoneWrong)

/-- 'substationlaw30.ZonetimerExamples': WHATEVER THE INPUT: true; the input reads as it did. -/
def zonetimerExamplesSpec : ChangeSpec := { name := "zonetimerExamples", fn := fun _ => fun
  | [] => { results := [.lit (.bool true)], args := [] }
  | _ => none }
def zonetimerExamplesRow : OpenClaim := { program := "ytbgmjeifnipphaa", sum := "c0bd4d48b47128ae3989282c529f4e0e9b15f0e78c4384439efd58833f6014c4", func := "substation/substationlaw30.ZonetimerExamples", spec := "zonetimerExamples", apart := false }
def ZonetimerExamplesSaid : Prop := zonetimerExamplesRow.holds Try.pinned (OpenSpec.ofChange zonetimerExamplesSpec)

/-- ITS FALSE NEIGHBOUR: 'it returns false'. Refute it at one input. -/
def zonetimerExamplesWrong : ChangeSpec := { name := "zonetimerExamples", fn := fun _ => fun
  | [] => { results := [.lit (.bool false)], args := [] }
  | _ => none }
def ZonetimerExamplesWrongFalsely : Prop := zonetimerExamplesRow.holds Try.pinned (OpenSpec.ofChange zonetimerExamplesWrong)

/-- 'substationlaw30.ZonetimerSteps': WHATEVER THE INPUT: true; the input reads as it did. -/
def zonetimerStepsSpec : ChangeSpec := { name := "zonetimerSteps", fn := fun _ => fun
  | [d1, d2, d3] => { results := [.lit (.bool true)], args := [d1, d2, d3] }
  | _ => none }
def zonetimerStepsRow : OpenClaim := { program := "ytbgmjeifnipphaa", sum := "c0bd4d48b47128ae3989282c529f4e0e9b15f0e78c4384439efd58833f6014c4", func := "substation/substationlaw30.ZonetimerSteps", spec := "zonetimerSteps", apart := false }
def ZonetimerStepsSaid : Prop := zonetimerStepsRow.holds Try.pinned (OpenSpec.ofChange zonetimerStepsSpec)

/-- ITS FALSE NEIGHBOUR: 'it returns false'. Refute it at one input. -/
def zonetimerStepsWrong : ChangeSpec := { name := "zonetimerSteps", fn := fun _ => fun
  | [d1, d2, d3] => { results := [.lit (.bool false)], args := [d1, d2, d3] }
  | _ => none }
def ZonetimerStepsWrongFalsely : Prop := zonetimerStepsRow.holds Try.pinned (OpenSpec.ofChange zonetimerStepsWrong)

/-- 'substationlaw30.ZonetimerUntil': WHATEVER THE INPUT: true; the input reads as it did. -/
def zonetimerUntilSpec : ChangeSpec := { name := "zonetimerUntil", fn := fun _ => fun
  | [d1, d2, d3] => { results := [.lit (.bool true)], args := [d1, d2, d3] }
  | _ => none }
def zonetimerUntilRow : OpenClaim := { program := "ytbgmjeifnipphaa", sum := "c0bd4d48b47128ae3989282c529f4e0e9b15f0e78c4384439efd58833f6014c4", func := "substation/substationlaw30.ZonetimerUntil", spec := "zonetimerUntil", apart := false }
def ZonetimerUntilSaid : Prop := zonetimerUntilRow.holds Try.pinned (OpenSpec.ofChange zonetimerUntilSpec)

/-- ITS FALSE NEIGHBOUR: 'it returns false'. Refute it at one input. -/
def zonetimerUntilWrong : ChangeSpec := { name := "zonetimerUntil", fn := fun _ => fun
  | [d1, d2, d3] => { results := [.lit (.bool false)], args := [d1, d2, d3] }
  | _ => none }
def ZonetimerUntilWrongFalsely : Prop := zonetimerUntilRow.holds Try.pinned (OpenSpec.ofChange zonetimerUntilWrong)

/- THE SECOND FORM. 'bulk': how many values and letters a reading holds, each counted each time it is reached (what is shared counts as often as it is met; a slice's spare places count too). A statement '..UptoSaid' is the law's where the arguments, and the package variables that the reading takes, are together of bulk at most 1048576: NARROWER than '..Said'. Prove '..Said' where nothing that the law and all that it calls make is longer than what came in: it says more and counts as full. Else prove '..UptoSaid'. A law counts once. -/
mutual
def uptoBulk {H : Type} : DataW H → Nat
  | .lit (.string bytes) => bytes.length + 1
  | .lit _ => 1
  | .nil => 1
  | .ptr d => uptoBulk d + 1
  | .slice elems spare => uptoBulkAll elems + uptoBulkAll spare + 1
  | .agg parts => uptoBulkAll parts + 1
  | .iface _ d => uptoBulk d + 1
  | .map entries => uptoBulkEntries entries + 1
  | .held _ => 1
def uptoBulkAll {H : Type} : List (DataW H) → Nat
  | [] => 0
  | d :: r => uptoBulk d + uptoBulkAll r
def uptoBulkEntries {H : Type} : List (Lit × DataW H) → Nat
  | [] => 0
  | x :: r => uptoBulkEntry x + uptoBulkEntries r
def uptoBulkEntry {H : Type} : Lit × DataW H → Nat
  | (.string bytes, d) => bytes.length + uptoBulk d + 1
  | (_, d) => uptoBulk d + 1
 end
def uptoSmall : (H : Type) → List (DataW H) → Bool := fun _ ds => decide (uptoBulkAll ds ≤ 1048576)
def OpenSpec.upto (s : _root_.Go.ChangeSpec) : _root_.Go.OpenSpec := { _root_.Go.OpenSpec.ofChange s with cond := some uptoSmall }

/-- 'substationlaw30.ZonetimerDelays', WHERE WHAT IT READS IS OF BULK AT MOST 1048576: true; the input reads as it did. -/
def zonetimerDelaysUptoRow : OpenClaim := { program := "ytbgmjeifnipphaa", sum := "c0bd4d48b47128ae3989282c529f4e0e9b15f0e78c4384439efd58833f6014c4", func := "substation/substationlaw30.ZonetimerDelays", spec := "zonetimerDelays", apart := false, narrowed := true }
def ZonetimerDelaysUptoSaid : Prop := zonetimerDelaysUptoRow.holds Try.pinned (OpenSpec.upto zonetimerDelaysSpec)

/-- 'substationlaw30.ZonetimerMonotone', WHERE WHAT IT READS IS OF BULK AT MOST 1048576: true; the input reads as it did. -/
def zonetimerMonotoneUptoRow : OpenClaim := { program := "ytbgmjeifnipphaa", sum := "c0bd4d48b47128ae3989282c529f4e0e9b15f0e78c4384439efd58833f6014c4", func := "substation/substationlaw30.ZonetimerMonotone", spec := "zonetimerMonotone", apart := false, narrowed := true }
def ZonetimerMonotoneUptoSaid : Prop := zonetimerMonotoneUptoRow.holds Try.pinned (OpenSpec.upto zonetimerMonotoneSpec)

/-- 'substationlaw30.ZonetimerExamples', WHERE WHAT IT READS IS OF BULK AT MOST 1048576: true; the input reads as it did. -/
def zonetimerExamplesUptoRow : OpenClaim := { program := "ytbgmjeifnipphaa", sum := "c0bd4d48b47128ae3989282c529f4e0e9b15f0e78c4384439efd58833f6014c4", func := "substation/substationlaw30.ZonetimerExamples", spec := "zonetimerExamples", apart := false, narrowed := true }
def ZonetimerExamplesUptoSaid : Prop := zonetimerExamplesUptoRow.holds Try.pinned (OpenSpec.upto zonetimerExamplesSpec)

/-- 'substationlaw30.ZonetimerSteps', WHERE WHAT IT READS IS OF BULK AT MOST 1048576: true; the input reads as it did. -/
def zonetimerStepsUptoRow : OpenClaim := { program := "ytbgmjeifnipphaa", sum := "c0bd4d48b47128ae3989282c529f4e0e9b15f0e78c4384439efd58833f6014c4", func := "substation/substationlaw30.ZonetimerSteps", spec := "zonetimerSteps", apart := false, narrowed := true }
def ZonetimerStepsUptoSaid : Prop := zonetimerStepsUptoRow.holds Try.pinned (OpenSpec.upto zonetimerStepsSpec)

/-- 'substationlaw30.ZonetimerUntil', WHERE WHAT IT READS IS OF BULK AT MOST 1048576: true; the input reads as it did. -/
def zonetimerUntilUptoRow : OpenClaim := { program := "ytbgmjeifnipphaa", sum := "c0bd4d48b47128ae3989282c529f4e0e9b15f0e78c4384439efd58833f6014c4", func := "substation/substationlaw30.ZonetimerUntil", spec := "zonetimerUntil", apart := false, narrowed := true }
def ZonetimerUntilUptoSaid : Prop := zonetimerUntilUptoRow.holds Try.pinned (OpenSpec.upto zonetimerUntilSpec)

end Rows
end Go.Proofs.Ytbgmjeifnipphaa
