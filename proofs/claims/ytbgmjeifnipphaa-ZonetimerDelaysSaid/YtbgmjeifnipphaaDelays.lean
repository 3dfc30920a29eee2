/-
  ZonetimerDelays returns true for every input. No condition.
-/
import Derived.Test.YtbgmjeifnipphaaDb
namespace Go.Proofs.Ytbgmjeifnipphaa.delays
open Go.ChangeShapes Go.WideShapes Go.ChangeAt Go.RowKit
open Go.Ev zt

theorem own : ownKnob Try.prog.godebug = none := by kernel_rfl
theorem laidOut : laidOutB Try.prog = true := by kernel_rfl
def S : List TypeId := [23, 24, 4, 3]
theorem okS : S.all (okT Try.prog S) = true := by kernel_rfl

set_option maxRecDepth 100000 in
theorem lifted (os : Os) (started : os.Started) (H : Type) (enc : TypeId × Value → H) :
    ReturnsInHanded {} Try.checked os 3 .any (Rows.zonetimerDelaysSpec.pre6 enc Try.prog Try.f3 Rows.zonetimerDelaysRow.domain false) (Rows.zonetimerDelaysSpec.post enc Try.prog Try.f3 false true false false) := by
  refine returnsInHanded_of_change (C := Try.checked) own started (by kernel_rfl) Try.func3
    (ChangeSpec.witness6 (enc := enc) (C := Try.checked) false ⟨#[], #[.agg #[.bool false, .bool false, .int .i64 0, .int .i64 0, .int .i64 0, .int .i64 0], .slice none 0 0, .slice none 0 0], []⟩ 8 (by kernel_rfl) (by kernel_rfl) (by kernel_rfl) (by kernel_rfl)) ?_
  intro W base args ds gs before hval hW hcnd _
  have hW' := hW
  obtain ⟨p, q, hA0, hV, rfl, hfz, hnd⟩ := hW
  have hA : DataW.TrodAll enc Try.prog W 0 (fun _ => true) true Try.f3.params.toList args.toList ds p := hA0
  rw [Try.params3] at hA hval
  have hA1 := hA
  obtain ⟨v0, vs0, d0, ds0, p0, q0, hargs, rfl, rfl, h0, r0⟩ := trodAll_cons hA
  obtain ⟨v1, vs1, d1, ds1, p1, q1, rfl, rfl, rfl, h1, r1⟩ := trodAll_cons r0
  obtain ⟨v2, vs2, d2, ds2, p2, q2, rfl, rfl, rfl, h2, r2⟩ := trodAll_cons r1
  obtain ⟨rfl, rfl, rfl⟩ := trodAll_nil r2
  obtain rfl : args = #[v0, v1, v2] := by cases args; simp_all
  obtain ⟨rfl, rfl⟩ := trodVars_none hV
  obtain ⟨e0, a0, hr0, hs0, hk0⟩ := arg_open (β := fun _ => none) okS (by kernel_rfl) (hval 0 23 v0 rfl rfl) h0
  obtain ⟨e1, a1, hr1, hs1, hk1⟩ := arg_open (β := fun _ => none) okS (by kernel_rfl) (hval 1 24 v1 rfl rfl) h1
  obtain ⟨e2, a2, hr2, hs2, hk2⟩ := arg_open (β := fun _ => none) okS (by kernel_rfl) (hval 2 24 v2 rfl rfl) h2
  have f0 : aggT Try.prog 23 = some true := by simp [aggT, Try.underlying23]
  have f1 : aggT Try.prog 24 = some false := by simp [aggT, Try.underlying24]
  simp only [f0, f1, Option.some.injEq, Bool.true_eq_false, Bool.false_eq_true, false_and, or_false, false_or, true_and] at hk0 hk1 hk2
  obtain ⟨x1, rfl, hk1⟩ := hk1
  obtain ⟨x2, rfl, hk2⟩ := hk2
  obtain ⟨z, hz, _⟩ := sh23 hs0
  obtain ⟨n1, g1, rfl, l1, hl1, hg1⟩ := sh24 hs1
  obtain ⟨n2, g2, rfl, l2, hl2, hg2⟩ := sh24 hs2
  subst hl1 hl2
  rw [hk0, hz] at hr0
  rw [hk1] at hr1
  rw [hk2] at hr2
  have hr1' : RepA (fun _ => none) W (allI W) (slB l1) v1 := RepD.congr hr1 hg1
  have hr2' : RepA (fun _ => none) W (allI W) (slB l2) v2 := RepD.congr hr2 hg2
  obtain ⟨Hc, hcr⟩ := cr3 z l1 l2
  have hcalls := calls_of_cr (w := W) (vs := #[v0, v1, v2]) rfl hcr ⟨rfl, fun i x v hx hv => by
    match i, hx, hv with
    | 0, hx, hv => simp at hx hv; subst hx hv; exact hr0
    | 1, hx, hv => simp only [List.getElem?_cons_succ, List.getElem?_cons_zero, Option.some.injEq] at hx; simp at hv; subst hx hv; exact hr1'
    | 2, hx, hv => simp only [List.getElem?_cons_succ, List.getElem?_cons_zero, Option.some.injEq] at hx; simp at hv; subst hx hv; exact hr2'
    | i + 3, hx, hv => simp at hx⟩
  refine hcalls.mono fun e W' ⟨he, bel⟩ => ?_
  subst he
  exact ⟨_, rfl, _, _, _, [], _, [], hW', trodAll_mk1 (shut_bool Try.underlying4 _), trodAll_stays laidOut bel (by
    intro t ht
    have : t = 23 ∨ t = 24 := by simpa using ht
    rcases this with rfl | rfl
    · exact ⟨by kernel_rfl, of_decide_eq_true (by kernel_rfl)⟩
    · exact ⟨by kernel_rfl, of_decide_eq_true (by kernel_rfl)⟩) hA1, rfl, bel.frame _, fun h => by cases h⟩

theorem proved : Rows.ZonetimerDelaysSaid :=
  OpenClaim.holds_of_wide 3 Try.f3 rfl rfl rfl rfl rfl rfl rfl ⟨rfl, rfl, rfl, rfl, rfl⟩ rfl rfl rfl rfl rfl (by kernel_rfl) Try.func3 (by kernel_rfl)
    (of_decide_eq_true (by kernel_rfl)) (by unfold Func.isWrapper; first | (rw [if_pos (by decide +kernel)]; kernel_rfl) | (rw [if_neg (by decide +kernel)]; exact ⟨rfl, rfl⟩))
    (fun os started H enc _ => lifted os started H enc)
end Go.Proofs.Ytbgmjeifnipphaa.delays
