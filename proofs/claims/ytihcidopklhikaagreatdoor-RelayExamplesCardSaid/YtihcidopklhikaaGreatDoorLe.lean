/-
  RelayExamples returns true, given what its call comes to. Condition: the entry of that call stands.
-/
import Derived.Test.YtihcidopklhikaaGreatDoorLw
import Derived.Test.YtihcidopklhikaaGreatDoorCards
import Derived.SevenTiedAt
import Derived.Test.YtihcidopklhikaaGreatDoorGj
namespace Go.Proofs.YtihcidopklhikaaGreatDoor.cl
open Go Go.Ez
open Go.ChangeShapes Go.WideShapes Go.ChangeAt Go.WideMaps Go.WideElems Go.RowKit
set_option maxRecDepth 100000

theorem lifted {m : Me} (hf : m.f = 4) (hargs : m.args = []) (hpre : m.pre = [(.e, b0)]) (hx : m.x = .c (.b true)) (hnx : 1 ≤ m.nx.num) (hm : MeOk Tryz.prog 1 m) (os : Os) (started : os.Started) (H : Type) (enc : TypeId × Value → H) :
    ReturnsInHanded {} Tryz.checked os 4 .any (fun w args => (Rows.relayExamplesSpec.pre enc Tryz.prog Tryz.f4 [] false w args ∧ laidMetH Tryz.prog laidL w) ∧ sizedMet enc Tryz.prog Tryz.f4 (OpenSpec.ofChange Rows.relayExamplesSpec) false w args)
      (Rows.relayExamplesSpec.post enc Tryz.prog Tryz.f4 false true false false) := by
  refine returnsInHanded_of_change_and (C := Tryz.checked) (X := fun w _ => laidMetH Tryz.prog laidL w) (fun _ _ _ hh h => h.of_heap hh) own started (by kernel_rfl) Tryz.func4
    (ChangeSpec.witness_shaped (enc := enc) (C := Tryz.checked) (os := os) (X := fun w _ => laidMetH Tryz.prog laidL w) false (World.doorLaid Tryz.prog 400 os) #[] 8 rfl (World.shaped_of_RefB (by kernel_rfl) (by kernel_rfl)) (by kernel_rfl) (by kernel_rfl) (by kernel_rfl) (door_met os _)) ?_
  intro W base args ds gs before hval hW _ _ hL _
  have hW' := hW
  obtain ⟨p, q, hA0, hV, rfl, hfz, hnd⟩ := hW
  have hA : DataW.TrodAll enc Tryz.prog W 0 (fun _ => true) true Tryz.f4.params.toList args.toList ds p := hA0
  rw [Tryz.params4] at hA hval
  obtain ⟨hargs2, rfl, rfl⟩ := trodAll_nil hA
  obtain rfl : args = #[] := by cases args; simp_all
  obtain ⟨rfl, rfl⟩ := trodVars_none hV
  have hc := calls_of_me hargs hpre hx hnx hm hL
  rw [hf] at hc
  refine hc.mono fun e W' ⟨he, bel⟩ => ?_
  subst he
  exact ⟨_, rfl, _, _, _, [], _, [], hW', trodAll_mk1 (shut_bool Tryz.underlying4 _), trodAll_mk0, rfl, bel.frame _, fun h => by cases h⟩

theorem said {m : Me} (hf : m.f = 4) (hargs : m.args = []) (hpre : m.pre = [(.e, b0)]) (hx : m.x = .c (.b true)) (hnx : 1 ≤ m.nx.num) (hm : MeOk Tryz.prog 1 m) : Rows.RelayExamplesSaid :=
  OpenClaim.holds_of_wide 4 Tryz.f4 rfl rfl rfl rfl rfl rfl rfl ⟨rfl, rfl, rfl, rfl, rfl⟩ rfl rfl rfl rfl rfl (by kernel_rfl) Tryz.func4 facts.joined
    (of_decide_eq_true (by kernel_rfl)) (by unfold Func.isWrapper; first | (rw [if_pos (by decide +kernel)]; kernel_rfl) | (rw [if_neg (by decide +kernel)]; exact ⟨rfl, rfl⟩))
    (fun os started H enc _ => lifted hf hargs hpre hx hnx hm os started H enc)

theorem carded {m : Me} (hf : m.f = 4) (hargs : m.args = []) (hpre : m.pre = [(.e, b0)]) (hx : m.x = .c (.b true)) (hnx : 1 ≤ m.nx.num) (hm : MeOk Tryz.prog 1 m) : Rows.RelayExamplesCardSaid :=
  Claim7.holds_tied_plain_at .later [] [.data, .data, .data, .sentinel, .sentinel, .data] true (true, "511a97f59c5f379a3383de423d30f090e69f7f6f91cdd2ca5047362880e9e335") true
    (said hf hargs hpre hx hnx hm) (fun _ h => by cases h) (by kernel_rfl) (fun _ h => by cases h) relayExamples_row_tie rfl ⟨rfl, rfl⟩ (by kernel_rfl) rfl
    (fun f fn hf hfn => by
      obtain rfl : f = 4 := Option.some.inj ((show Tryz.prog.funcNamed "substation/substationlaw42.RelayExamples" = some 4 by kernel_rfl).symm.trans hf) |>.symm
      obtain rfl : fn = Tryz.f4 := (Option.some.inj (Tryz.func4.symm.trans hfn)).symm
      exact ⟨by kernel_rfl, fun j t ht => by
        rw [Tryz.params4] at ht
        simp at ht⟩)
    (by kernel_rfl)
end Go.Proofs.YtihcidopklhikaaGreatDoor.cl
