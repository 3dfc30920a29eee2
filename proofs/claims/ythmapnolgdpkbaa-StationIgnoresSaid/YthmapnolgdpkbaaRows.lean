/-
  No cell of these rows narrows 'for every input' (looked for: loops, veiled, ifaces, maps, wideKeys, modest, calm, conditions, laid).
  DERIVED. THE GIVEN ROWS OF THIS SEAT. 3 by the template 'for every input the law returns true; each argument reads behind the call as it read before'; 0 by the template 'total and deterministic' (their statements: YthmapnolgdpkbaaTotals.lean).
  GIVEN WITH THE SEED: the statements are not yours to turn. If you find one false, say at which input.
  Laid BY PROGRAM, IN A SANDBOX (cutbox-rows.mjs): the forced cells as the released guide's own fill.sh prints them over the translation 0076b086a57175ec… (all of the seat's roots in one cut). By AI agents, Wed Nov 11 2026. No macro, syntax, notation, axiom, sorry.
-/
import Derived.Test.YthmapnolgdpkbaaChecked
import GoSem.Claim
import GoSem.ClaimJoined
import GoSem.ClaimMapViews
import Derived.JoinedTies
import Derived.KernelRfl
namespace Go.Proofs.Ythmapnolgdpkbaa
/- THE CELL 'sum', in the pinned program and in every row, IS THE sha256 OF THE DUMP (.gsa) THAT YthmapnolgdpkbaaProg.lean LOADS. Nothing in Lean hashes anything: it is a label: what it is worth is what the hold of that sum in a sandbox is worth. -/
noncomputable def Try.pinned : Pinned := { name := "ythmapnolgdpkbaa", sum := "0076b086a57175ec7c0c46effce1fc0a560e455537a96d776bd41c37027c8c51", checked := Try.checked }
namespace Rows
def none {H : Type} : Left H := { results := [], args := [] }

/-- 'substationlaw05.StationNames': WHATEVER THE INPUT: true; the input reads as it did. -/
def stationNamesSpec : ChangeSpec := { name := "stationNames", fn := fun _ => fun
  | [d1, d2, d3] => { results := [.lit (.bool true)], args := [d1, d2, d3] }
  | _ => none }
def stationNamesRow : OpenClaim := { program := "ythmapnolgdpkbaa", sum := "0076b086a57175ec7c0c46effce1fc0a560e455537a96d776bd41c37027c8c51", func := "substation/substationlaw05.StationNames", spec := "stationNames", unfollowed := true, recurses := true, apart := false }
def StationNamesSaid : Prop := stationNamesRow.holds Try.pinned (OpenSpec.ofChange stationNamesSpec)

/-- ITS FALSE NEIGHBOUR: 'it returns false'. Refute it at one input. -/
def stationNamesWrong : ChangeSpec := { name := "stationNames", fn := fun _ => fun
  | [d1, d2, d3] => { results := [.lit (.bool false)], args := [d1, d2, d3] }
  | _ => none }
def StationNamesWrongFalsely : Prop := stationNamesRow.holds Try.pinned (OpenSpec.ofChange stationNamesWrong)

/-- 'substationlaw05.StationChecks': WHATEVER THE INPUT: true; the input reads as it did. -/
def stationChecksSpec : ChangeSpec := { name := "stationChecks", fn := fun _ => fun
  | [d1, d2, d3] => { results := [.lit (.bool true)], args := [d1, d2, d3] }
  | _ => none }
def stationChecksRow : OpenClaim := { program := "ythmapnolgdpkbaa", sum := "0076b086a57175ec7c0c46effce1fc0a560e455537a96d776bd41c37027c8c51", func := "substation/substationlaw05.StationChecks", spec := "stationChecks", unfollowed := true, recurses := true, apart := false }
def StationChecksSaid : Prop := stationChecksRow.holds Try.pinned (OpenSpec.ofChange stationChecksSpec)

/-- ITS FALSE NEIGHBOUR: 'it returns false'. Refute it at one input. -/
def stationChecksWrong : ChangeSpec := { name := "stationChecks", fn := fun _ => fun
  | [d1, d2, d3] => { results := [.lit (.bool false)], args := [d1, d2, d3] }
  | _ => none }
def StationChecksWrongFalsely : Prop := stationChecksRow.holds Try.pinned (OpenSpec.ofChange stationChecksWrong)

/-- 'substationlaw05.StationIgnores': WHATEVER THE INPUT: true; the input reads as it did. -/
def stationIgnoresSpec : ChangeSpec := { name := "stationIgnores", fn := fun _ => fun
  | [d1, d2, d3] => { results := [.lit (.bool true)], args := [d1, d2, d3] }
  | _ => none }
def stationIgnoresRow : OpenClaim := { program := "ythmapnolgdpkbaa", sum := "0076b086a57175ec7c0c46effce1fc0a560e455537a96d776bd41c37027c8c51", func := "substation/substationlaw05.StationIgnores", spec := "stationIgnores", unfollowed := true, recurses := true, apart := false }
def StationIgnoresSaid : Prop := stationIgnoresRow.holds Try.pinned (OpenSpec.ofChange stationIgnoresSpec)

/-- ITS FALSE NEIGHBOUR: 'it returns false'. Refute it at one input. -/
def stationIgnoresWrong : ChangeSpec := { name := "stationIgnores", fn := fun _ => fun
  | [d1, d2, d3] => { results := [.lit (.bool false)], args := [d1, d2, d3] }
  | _ => none }
def StationIgnoresWrongFalsely : Prop := stationIgnoresRow.holds Try.pinned (OpenSpec.ofChange stationIgnoresWrong)

/- THE SECOND FORM. 'bulk': how many values and letters a reading holds, each counted each time it is reached (what is shared counts as often as it is met; a slice's spare places count too). A statement '..UptoSaid' is the law's where the arguments, and the package variables that the reading takes, are together of bulk at most 1048576: NARROWER than '..Said'. Prove '..Said' where nothing that the law and all that it calls make is longer than what came in: it says more and counts as full. Else prove '..UptoSaid'. A law counts once. -/
mutual
def uptoBulk {H : Type} : DataW H → Nat
  | .lit (.string bytes) => bytes.length + 1
  | .lit _ => 1
  | .nil => 1
  | .ptr d => uptoBulk d + 1
  | .slice elems spare => uptoBulkAll elems + uptoBulkAll spare + 1
  | .agg parts => uptoBulkAll parts + 1
  | .iface _ d => uptoBulk d + 1
  | .map entries => uptoBulkEntries entries + 1
  | .held _ => 1
def uptoBulkAll {H : Type} : List (DataW H) → Nat
  | [] => 0
  | d :: r => uptoBulk d + uptoBulkAll r
def uptoBulkEntries {H : Type} : List (Lit × DataW H) → Nat
  | [] => 0
  | x :: r => uptoBulkEntry x + uptoBulkEntries r
def uptoBulkEntry {H : Type} : Lit × DataW H → Nat
  | (.string bytes, d) => bytes.length + uptoBulk d + 1
  | (_, d) => uptoBulk d + 1
 end
def uptoSmall : (H : Type) → List (DataW H) → Bool := fun _ ds => decide (uptoBulkAll ds ≤ 1048576)
def OpenSpec.upto (s : _root_.Go.ChangeSpec) : _root_.Go.OpenSpec := { _root_.Go.OpenSpec.ofChange s with cond := some uptoSmall }

/-- 'substationlaw05.StationNames', WHERE WHAT IT READS IS OF BULK AT MOST 1048576: true; the input reads as it did. -/
def stationNamesUptoRow : OpenClaim := { program := "ythmapnolgdpkbaa", sum := "0076b086a57175ec7c0c46effce1fc0a560e455537a96d776bd41c37027c8c51", func := "substation/substationlaw05.StationNames", spec := "stationNames", unfollowed := true, recurses := true, apart := false, narrowed := true }
def StationNamesUptoSaid : Prop := stationNamesUptoRow.holds Try.pinned (OpenSpec.upto stationNamesSpec)

/-- 'substationlaw05.StationChecks', WHERE WHAT IT READS IS OF BULK AT MOST 1048576: true; the input reads as it did. -/
def stationChecksUptoRow : OpenClaim := { program := "ythmapnolgdpkbaa", sum := "0076b086a57175ec7c0c46effce1fc0a560e455537a96d776bd41c37027c8c51", func := "substation/substationlaw05.StationChecks", spec := "stationChecks", unfollowed := true, recurses := true, apart := false, narrowed := true }
def StationChecksUptoSaid : Prop := stationChecksUptoRow.holds Try.pinned (OpenSpec.upto stationChecksSpec)

/-- 'substationlaw05.StationIgnores', WHERE WHAT IT READS IS OF BULK AT MOST 1048576: true; the input reads as it did. -/
def stationIgnoresUptoRow : OpenClaim := { program := "ythmapnolgdpkbaa", sum := "0076b086a57175ec7c0c46effce1fc0a560e455537a96d776bd41c37027c8c51", func := "substation/substationlaw05.StationIgnores", spec := "stationIgnores", unfollowed := true, recurses := true, apart := false, narrowed := true }
def StationIgnoresUptoSaid : Prop := stationIgnoresUptoRow.holds Try.pinned (OpenSpec.upto stationIgnoresSpec)

end Rows
end Go.Proofs.Ythmapnolgdpkbaa
