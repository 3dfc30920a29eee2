/-
  TablesSave: arguments opened, the statement, the card. No condition.
-/
import Derived.Test.YtbpndheehcbldaaGreatDoorQ8
import Derived.Test.YtbpndheehcbldaaGreatDoorCards
open Go.Proofs.Tryz
namespace Go.Proofs.YtbpndheehcbldaaGreatDoor.tsav
open Go Go.Eb Go.Y.tb Go.Proofs.YtbpndheehcbldaaGreatDoor.ito
open Go.ChangeShapes Go.WideShapes Go.ChangeAt Go.WideMaps Go.WideElems Go.RowKit
set_option maxRecDepth 100000
theorem Amr : laidOutB prog = true := by kernel_rfl
theorem okS : [30, 27, 22, 23, 24, 25, 144, 147, 118, 115, 116, 240, 9, 3, 4, 28, 64, 54, 53, 56, 58, 59, 60, 61, 62, 136, 125, 122, 68].all (okT prog [30, 27, 22, 23, 24, 25, 144, 147, 118, 115, 116, 240, 9, 3, 4, 28, 64, 54, 53, 56, 58, 59, 60, 61, 62, 136, 125, 122, 68]) = true := by kernel_rfl
set_option maxRecDepth 100000 in
theorem lifted (os : Os) (started : os.Started) (H : Type) (enc : TypeId × Value -> H) :
  ReturnsInHanded {} Tryz.checked os 6 .any (fun w args => (Rows.tablesSaveSpec.pre enc prog f6 Rows.tablesSaveRow.domain false w args /\ laidMetH prog Ach w) /\ sizedMet enc prog f6 (OpenSpec.ofChange Rows.tablesSaveSpec) false w args)
   (Rows.tablesSaveSpec.post enc prog f6 false true false false) := by
 refine returnsInHanded_of_change_and (C := Tryz.checked) (X := fun w _ => laidMetH prog Ach w) (fun _ _ _ hh h => h.of_heap hh) own started (by kernel_rfl) func6
  (ChangeSpec.witness_shaped (enc := enc) (C := Tryz.checked) (os := os) (X := fun w _ => laidMetH prog Ach w) false (World.doorLaid prog 400 os) #[.agg #[.string ⟨#[]⟩, .slice none 0 0, .slice none 0 0, .slice none 0 0, .slice none 0 0, .slice none 0 0]] 8 rfl (World.shaped_of_RefB (by kernel_rfl) (by kernel_rfl)) (by kernel_rfl) (by kernel_rfl) (by kernel_rfl) (AiB os _)) ?_
 intro W base args ds gs before hval hW _ _ hL _
 have hW' := hW
 obtain ⟨p, q, hA0, hV, rfl, hfz, hnd⟩ := hW
 have hA : DataW.TrodAll enc prog W 0 (fun _ => true) true f6.params.toList args.toList ds p := hA0
 rw [Tryz.params6] at hA hval
 have hA1 := hA
 obtain ⟨v0, vs0, d0, ds0, p0, q0, hargs0, rfl, rfl, h0, r0⟩ := trodAll_cons hA
 obtain ⟨rfl, rfl, rfl⟩ := trodAll_nil r0
 obtain rfl : args = #[v0] := by cases args; simp_all
 obtain ⟨rfl, rfl⟩ := trodVars_none hV
 have f0 : aggT prog 30 = some true := by simp [aggT, underlying30]
 obtain ⟨e0, a0, hr0, hs0, hk0⟩ := AiW (O := fun _ => .free) okS (by kernel_rfl) (hval 0 30 v0 rfl rfl) h0
 obtain rfl : a0 = .agg (e0.map .d) := by rcases hk0 with ⟨_, rfl⟩ | ⟨hf, _⟩ <;> first | rfl | (rw [f0] at hf; cases hf)
 obtain ⟨x0, hx0, ho0⟩ := AhP hs0
 have hcalls := Zf (w := W) (vs := #[v0]) rfl ((Api x0 ho0).ge (.cons (Gv hx0) .nil) (.refl _)) ⟨rfl, fun i x v hx hv => by
  match i, hx, hv with
  | 0, hx, hv => simp at hx hv; subst hx hv; exact hr0
  | i + 1, hx, hv => simp at hx⟩ (Amz hL)
 refine hcalls.mono fun e W' ⟨he, bel⟩ => ?_
 subst he
 exact ⟨_, rfl, _, _, _, [], _, [], hW', trodAll_mk1 (shut_bool underlying4 _), Ld Amr bel (by
  intro t ht
  have : t = 30 := by simpa using ht
  subst this
  exact ⟨by kernel_rfl, of_decide_eq_true (by kernel_rfl)⟩) hA1, rfl, bel.frame _, fun h => by cases h⟩
theorem nmF : Tryz.pinned.checked.prog.funcNamed Rows.tablesSaveRow.func = some 6 := by kernel_rfl
theorem clF : joinedFacts Tryz.pinned.checked.prog 6 f6 Rows.tablesSaveSpec Rows.tablesSaveRow = true := facts.joined
theorem inF : f6.isInstance Tryz.pinned.checked.prog Rows.tablesSaveRow.origin Rows.tablesSaveRow.targs := of_decide_eq_true (by kernel_rfl)
theorem wrF : f6.isWrapper Tryz.pinned.checked.prog Rows.tablesSaveRow.wrapper Rows.tablesSaveRow.mainSum := by unfold Func.isWrapper; first | (rw [if_pos (by decide +kernel)]; kernel_rfl) | (rw [if_neg (by decide +kernel)]; exact ⟨rfl, rfl⟩)
theorem said : Rows.TablesSaveSaid :=
 OpenClaim.holds_of_wide 6 f6 rfl rfl rfl rfl rfl rfl rfl ⟨rfl, rfl, rfl, rfl, rfl⟩ rfl rfl rfl rfl rfl nmF func6 clF
  inF wrF
  (fun os started H enc _ => lifted os started H enc)
theorem proved : Rows.TablesSaveCardSaid :=
 Claim7.holds_tied_plain_at .later [] [.data, .data, .data] true (true, "4c4322e6266ffede5b963eac051be684368d9115c0bce10eec2c9b699db92fd8") false
  said (fun _ h => by cases h) (by kernel_rfl) (fun _ h => by cases h) tablesSave_row_tie rfl ⟨rfl, rfl⟩ (by kernel_rfl) rfl
  (fun f fn hf hfn => by
    have e0 : some f = some 6 := hf.symm.trans (by kernel_rfl)
    obtain rfl := Option.some.inj e0
    obtain rfl : fn = f6 := (Option.some.inj (func6.symm.trans hfn)).symm
    exact ⟨by kernel_rfl, fun j t ht => by
     rw [Tryz.params6] at ht
     have ht' : t ∈ [30] := List.mem_of_getElem? (by simpa using ht)
     simp only [List.mem_cons, List.not_mem_nil, or_false] at ht'
     rcases ht' with rfl
     ·exact (show prog.wantsStandIn 30 = false by kernel_rfl)⟩)
  (by kernel_rfl)
end Go.Proofs.YtbpndheehcbldaaGreatDoor.tsav
