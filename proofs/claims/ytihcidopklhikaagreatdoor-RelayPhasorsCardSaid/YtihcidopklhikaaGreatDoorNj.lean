/-
  The closed facts of the row of the law, joined. No condition.
-/
import Derived.Test.YtihcidopklhikaaGreatDoorNa
import Derived.Test.YtihcidopklhikaaGreatDoorNb
import Derived.Test.YtihcidopklhikaaGreatDoorNc
namespace Go.Proofs.YtihcidopklhikaaGreatDoor.facts
open Go Go.RowKit
set_option maxRecDepth 100000
theorem joined : joinedFacts Tryz.prog 3 Tryz.f3 Rows.relayPhasorsSpec Rows.relayPhasorsRow = true := by
  simp only [joinedFacts, Bool.and_eq_true]
  repeat' apply And.intro
  all_goals first
    | with_reducible exact f_in
    | with_reducible exact f_un
    | with_reducible exact f_re
    | with_reducible exact f_na
    | with_reducible exact f_la
    | with_reducible exact f_ma
    | with_reducible exact f_pk
    | with_reducible exact f_me
    | with_reducible exact f_sh
    | with_reducible exact f_li
    | with_reducible exact f_mk
    | with_reducible exact f_wf
    | with_reducible exact f_pi
    | with_reducible exact f_rd
    | with_reducible exact f_nt
    | as_aux_lemma => kernel_rfl
end Go.Proofs.YtihcidopklhikaaGreatDoor.facts
