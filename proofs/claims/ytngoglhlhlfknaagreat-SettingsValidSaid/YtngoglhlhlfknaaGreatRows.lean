/-
  NARROWER THAN 'FOR EVERY INPUT', by the rows' own cells (each row's printed sentence says how): SettingsValid: loops.
  DERIVED. THE GIVEN ROWS OF THIS SEAT. 4 by the template 'for every input the law returns true; each argument reads behind the call as it read before'; 0 by the template 'total and deterministic' (their statements: YtngoglhlhlfknaaGreatTotals.lean).
  GIVEN WITH THE SEED: the statements are not yours to turn. If you find one false, say at which input.
  Laid BY PROGRAM, IN A SANDBOX (cutbox-rows.mjs): the forced cells as the released guide's own fill.sh prints them over the translation 78b45a8ce3593e25… (all of the seat's roots in one cut). By AI agents, Wed Nov 11 2026. No macro, syntax, notation, axiom, sorry.
-/
import Derived.Test.YtngoglhlhlfknaaGreatChecked
import GoSem.Claim
import GoSem.ClaimJoined
import GoSem.ClaimMapViews
import Derived.JoinedTies
import Derived.KernelRfl
namespace Go.Proofs.YtngoglhlhlfknaaGreat
/- THE CELL 'sum', in the pinned program and in every row, IS THE sha256 OF THE DUMP (.gsa) THAT YtngoglhlhlfknaaGreatProg.lean LOADS. Nothing in Lean hashes anything: it is a label: what it is worth is what the hold of that sum in a sandbox is worth. -/
noncomputable def Tryz.pinned : Pinned := { name := "ytngoglhlhlfknaagreat", sum := "78b45a8ce3593e25260f4639a536dc62137d83e7d6c0377054dba9530806c714", checked := Tryz.checked }
namespace Rows
def none {H : Type} : Left H := { results := [], args := [] }

/-- 'substationlaw07.SettingsValid': WHATEVER THE INPUT: true; the input reads as it did. -/
def settingsValidSpec : ChangeSpec := { name := "settingsValid", fn := fun _ => fun
  | [d1, d2] => { results := [.lit (.bool true)], args := [d1, d2] }
  | _ => none }
def settingsValidRow : OpenClaim := { program := "ytngoglhlhlfknaagreat", sum := "78b45a8ce3593e25260f4639a536dc62137d83e7d6c0377054dba9530806c714", func := "substation/substationlaw07.SettingsValid", spec := "settingsValid", unfollowed := true, recurses := true, loops := true, apart := false }
def SettingsValidSaid : Prop := settingsValidRow.holds Tryz.pinned (OpenSpec.ofChange settingsValidSpec)

/-- ITS FALSE NEIGHBOUR: 'it returns false'. Refute it at one input. -/
def settingsValidWrong : ChangeSpec := { name := "settingsValid", fn := fun _ => fun
  | [d1, d2] => { results := [.lit (.bool false)], args := [d1, d2] }
  | _ => none }
def SettingsValidWrongFalsely : Prop := settingsValidRow.holds Tryz.pinned (OpenSpec.ofChange settingsValidWrong)

/-- 'substationlaw07.SettingsPrefixes': WHATEVER THE INPUT: true; the input reads as it did. -/
def settingsPrefixesSpec : ChangeSpec := { name := "settingsPrefixes", fn := fun _ => fun
  | [d1, d2, d3] => { results := [.lit (.bool true)], args := [d1, d2, d3] }
  | _ => none }
def settingsPrefixesRow : OpenClaim := { program := "ytngoglhlhlfknaagreat", sum := "78b45a8ce3593e25260f4639a536dc62137d83e7d6c0377054dba9530806c714", func := "substation/substationlaw07.SettingsPrefixes", spec := "settingsPrefixes", unfollowed := true, recurses := true, apart := false }
def SettingsPrefixesSaid : Prop := settingsPrefixesRow.holds Tryz.pinned (OpenSpec.ofChange settingsPrefixesSpec)

/-- ITS FALSE NEIGHBOUR: 'it returns false'. Refute it at one input. -/
def settingsPrefixesWrong : ChangeSpec := { name := "settingsPrefixes", fn := fun _ => fun
  | [d1, d2, d3] => { results := [.lit (.bool false)], args := [d1, d2, d3] }
  | _ => none }
def SettingsPrefixesWrongFalsely : Prop := settingsPrefixesRow.holds Tryz.pinned (OpenSpec.ofChange settingsPrefixesWrong)

/-- 'substationlaw07.SettingsForeign': WHATEVER THE INPUT: true; the input reads as it did. -/
def settingsForeignSpec : ChangeSpec := { name := "settingsForeign", fn := fun _ => fun
  | [d] => { results := [.lit (.bool true)], args := [d] }
  | _ => none }
def settingsForeignRow : OpenClaim := { program := "ytngoglhlhlfknaagreat", sum := "78b45a8ce3593e25260f4639a536dc62137d83e7d6c0377054dba9530806c714", func := "substation/substationlaw07.SettingsForeign", spec := "settingsForeign", unfollowed := true, recurses := true, apart := false }
def SettingsForeignSaid : Prop := settingsForeignRow.holds Tryz.pinned (OpenSpec.ofChange settingsForeignSpec)

/-- ITS FALSE NEIGHBOUR: 'it returns false'. Refute it at one input. -/
def settingsForeignWrong : ChangeSpec := { name := "settingsForeign", fn := fun _ => fun
  | [d] => { results := [.lit (.bool false)], args := [d] }
  | _ => none }
def SettingsForeignWrongFalsely : Prop := settingsForeignRow.holds Tryz.pinned (OpenSpec.ofChange settingsForeignWrong)

/-- 'substationlaw07.SettingsChecks': WHATEVER THE INPUT: true; the input reads as it did. -/
def settingsChecksSpec : ChangeSpec := { name := "settingsChecks", fn := fun _ => fun
  | [d1, d2] => { results := [.lit (.bool true)], args := [d1, d2] }
  | _ => none }
def settingsChecksRow : OpenClaim := { program := "ytngoglhlhlfknaagreat", sum := "78b45a8ce3593e25260f4639a536dc62137d83e7d6c0377054dba9530806c714", func := "substation/substationlaw07.SettingsChecks", spec := "settingsChecks", unfollowed := true, recurses := true, apart := false }
def SettingsChecksSaid : Prop := settingsChecksRow.holds Tryz.pinned (OpenSpec.ofChange settingsChecksSpec)

/-- ITS FALSE NEIGHBOUR: 'it returns false'. Refute it at one input. -/
def settingsChecksWrong : ChangeSpec := { name := "settingsChecks", fn := fun _ => fun
  | [d1, d2] => { results := [.lit (.bool false)], args := [d1, d2] }
  | _ => none }
def SettingsChecksWrongFalsely : Prop := settingsChecksRow.holds Tryz.pinned (OpenSpec.ofChange settingsChecksWrong)

/- THE SECOND FORM. 'bulk': how many values and letters a reading holds, each counted each time it is reached (what is shared counts as often as it is met; a slice's spare places count too). A statement '..UptoSaid' is the law's where the arguments, and the package variables that the reading takes, are together of bulk at most 1048576: NARROWER than '..Said'. Prove '..Said' where nothing that the law and all that it calls make is longer than what came in: it says more and counts as full. Else prove '..UptoSaid'. A law counts once. -/
mutual
def uptoBulk {H : Type} : DataW H → Nat
  | .lit (.string bytes) => bytes.length + 1
  | .lit _ => 1
  | .nil => 1
  | .ptr d => uptoBulk d + 1
  | .slice elems spare => uptoBulkAll elems + uptoBulkAll spare + 1
  | .agg parts => uptoBulkAll parts + 1
  | .iface _ d => uptoBulk d + 1
  | .map entries => uptoBulkEntries entries + 1
  | .held _ => 1
def uptoBulkAll {H : Type} : List (DataW H) → Nat
  | [] => 0
  | d :: r => uptoBulk d + uptoBulkAll r
def uptoBulkEntries {H : Type} : List (Lit × DataW H) → Nat
  | [] => 0
  | x :: r => uptoBulkEntry x + uptoBulkEntries r
def uptoBulkEntry {H : Type} : Lit × DataW H → Nat
  | (.string bytes, d) => bytes.length + uptoBulk d + 1
  | (_, d) => uptoBulk d + 1
 end
def uptoSmall : (H : Type) → List (DataW H) → Bool := fun _ ds => decide (uptoBulkAll ds ≤ 1048576)
def OpenSpec.upto (s : _root_.Go.ChangeSpec) : _root_.Go.OpenSpec := { _root_.Go.OpenSpec.ofChange s with cond := some uptoSmall }

/-- 'substationlaw07.SettingsValid', WHERE WHAT IT READS IS OF BULK AT MOST 1048576: true; the input reads as it did. -/
def settingsValidUptoRow : OpenClaim := { program := "ytngoglhlhlfknaagreat", sum := "78b45a8ce3593e25260f4639a536dc62137d83e7d6c0377054dba9530806c714", func := "substation/substationlaw07.SettingsValid", spec := "settingsValid", unfollowed := true, recurses := true, loops := true, apart := false, narrowed := true }
def SettingsValidUptoSaid : Prop := settingsValidUptoRow.holds Tryz.pinned (OpenSpec.upto settingsValidSpec)

/-- 'substationlaw07.SettingsPrefixes', WHERE WHAT IT READS IS OF BULK AT MOST 1048576: true; the input reads as it did. -/
def settingsPrefixesUptoRow : OpenClaim := { program := "ytngoglhlhlfknaagreat", sum := "78b45a8ce3593e25260f4639a536dc62137d83e7d6c0377054dba9530806c714", func := "substation/substationlaw07.SettingsPrefixes", spec := "settingsPrefixes", unfollowed := true, recurses := true, apart := false, narrowed := true }
def SettingsPrefixesUptoSaid : Prop := settingsPrefixesUptoRow.holds Tryz.pinned (OpenSpec.upto settingsPrefixesSpec)

/-- 'substationlaw07.SettingsForeign', WHERE WHAT IT READS IS OF BULK AT MOST 1048576: true; the input reads as it did. -/
def settingsForeignUptoRow : OpenClaim := { program := "ytngoglhlhlfknaagreat", sum := "78b45a8ce3593e25260f4639a536dc62137d83e7d6c0377054dba9530806c714", func := "substation/substationlaw07.SettingsForeign", spec := "settingsForeign", unfollowed := true, recurses := true, apart := false, narrowed := true }
def SettingsForeignUptoSaid : Prop := settingsForeignUptoRow.holds Tryz.pinned (OpenSpec.upto settingsForeignSpec)

/-- 'substationlaw07.SettingsChecks', WHERE WHAT IT READS IS OF BULK AT MOST 1048576: true; the input reads as it did. -/
def settingsChecksUptoRow : OpenClaim := { program := "ytngoglhlhlfknaagreat", sum := "78b45a8ce3593e25260f4639a536dc62137d83e7d6c0377054dba9530806c714", func := "substation/substationlaw07.SettingsChecks", spec := "settingsChecks", unfollowed := true, recurses := true, apart := false, narrowed := true }
def SettingsChecksUptoSaid : Prop := settingsChecksUptoRow.holds Tryz.pinned (OpenSpec.upto settingsChecksSpec)

end Rows
end Go.Proofs.YtngoglhlhlfknaaGreat
