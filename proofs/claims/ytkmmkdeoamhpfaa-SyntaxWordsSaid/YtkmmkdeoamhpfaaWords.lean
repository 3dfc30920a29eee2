/-
  SyntaxWords returns true for every string. No condition.
-/
import Derived.Test.YtkmmkdeoamhpfaaWf
import Derived.Test.YtkmmkdeoamhpfaaKn
import Derived.Test.YtkmmkdeoamhpfaaRows
namespace Go.Proofs.Ytkmmkdeoamhpfaa.words
open Go.ChangeShapes Go.WideShapes Go.ChangeAt Go.RowKit
open Go.Eb Go.Proofs.Ytkmmkdeoamhpfaa.wd

noncomputable def o4 : Orc := Orc.cons 7 (ansP dec0 fun _ => vB true) (Orc.cons 11 (ansP decS fun s => rN (numS s)) (Orc.cons 12 (ansP decS fun s => rN (numS s)) (Orc.cons 13 (ansP decS fun s => vB (plainS s)) (Orc.cons 14 (ansC decS (fun s => decide (s.size ≤ 9223372036854775807)) fun s => vB (plainS s)) Orc.nil))))
theorem ok4 : OrcOk Try.prog o4 := Orc.cons_ok (Orc.cons_ok (Orc.cons_ok (Orc.cons_ok (Orc.cons_ok (Orc.nil_ok _) (ansC_ok decS_ok (fun s h => c14 s (by simpa using h)))) (ansP_ok decS_ok c13)) (ansP_ok decS_ok c12)) (ansP_ok decS_ok c11)) (ansP_ok dec0_ok c7)
set_option maxRecDepth 100000 in
theorem ev4 (s : ByteArray) : callA Try.prog o4 na 1 Try.f4 (bodyOf Try.f4) [vS s] [] =
  (bif Prod.fst (numS s) == Prod.fst (numS s)
  then (bif Prod.snd (numS s) == Prod.snd (numS s)
    then (bif decide (ByteArray.size s ≤ (9223372036854775807 : Nat))
      then some (T.leaf (AV.c (C.d (D.v (Value.bool (plainS s == plainS s)))), []))
      else none)
    else some (T.leaf (AV.c (C.d (D.v (Value.bool false))), [])))
  else some (T.leaf (AV.c (C.d (D.v (Value.bool false))), []))) := by kernel_rfl
theorem b4 : Try.f4.body = some (bodyOf Try.f4) := by kernel_rfl
theorem c4 (s : ByteArray) (hs : s.size ≤ maxLen) : CR Try.prog 4 [vS s] [] (vB true) [] := by
  refine cr_of ok4 Try.func4 b4 rfl ((ev4 s).trans ?_)
  have h : decide (s.size ≤ 9223372036854775807) = true := by unfold maxLen at hs; simp; omega
  simp [h]

theorem own : ownKnob Try.prog.godebug = none := by kernel_rfl
theorem laidOut : laidOutB Try.prog = true := by kernel_rfl
theorem okS : [9].all (okT Try.prog [9]) = true := by kernel_rfl

set_option maxRecDepth 100000 in
theorem lifted (os : Os) (started : os.Started) (H : Type) (enc : TypeId × Value → H) :
    ReturnsInHanded {} Try.checked os 4 .any (Rows.syntaxWordsSpec.pre6 enc Try.prog Try.f4 Rows.syntaxWordsRow.domain false) (Rows.syntaxWordsSpec.post enc Try.prog Try.f4 false true false false) := by
  refine returnsInHanded_of_change (C := Try.checked) own started (by kernel_rfl) Try.func4
    (ChangeSpec.witness6 (enc := enc) (C := Try.checked) false ⟨#[], #[.string (ByteArray.mk #[])], []⟩ 8 (by kernel_rfl) (by kernel_rfl) (by kernel_rfl) (by kernel_rfl)) ?_
  intro W base args ds gs before hval hW hcnd _
  have hW' := hW
  obtain ⟨p, q, hA0, hV, rfl, hfz, hnd⟩ := hW
  have hA : DataW.TrodAll enc Try.prog W 0 (fun _ => true) true Try.f4.params.toList args.toList ds p := hA0
  rw [Try.params4] at hA hval
  have hA1 := hA
  obtain ⟨v0, vs0, d0, ds0, p0, q0, hargs, rfl, rfl, h0, r0⟩ := trodAll_cons hA
  obtain ⟨rfl, rfl, rfl⟩ := trodAll_nil r0
  obtain rfl : args = #[v0] := by cases args; simp_all
  obtain ⟨rfl, rfl⟩ := trodVars_none hV
  obtain ⟨e0, a0, hr0, hs0, hk0⟩ := arg_open (β := fun _ => .free) okS (by kernel_rfl) (hval 0 9 v0 rfl rfl) h0
  have f0 : aggT Try.prog 9 = some false := by simp [aggT, Try.underlying9]
  simp only [f0, Option.some.injEq, Bool.false_eq_true, false_and, false_or, true_and] at hk0
  obtain ⟨x, rfl, rfl⟩ := hk0
  obtain ⟨s, hx, hs⟩ := hs0.str_inv Try.underlying9
  obtain rfl : x = .v (.string s) := by simpa using hx
  have hcalls := calls_of_cr (w := W) (vs := #[v0]) rfl (c4 s hs) ⟨rfl, fun i x v hx hv => by
    match i, hx, hv with
    | 0, hx, hv => simp at hx hv; subst hx hv; exact hr0
    | i + 1, hx, hv => simp at hx⟩
  refine hcalls.mono fun e W' ⟨he, bel⟩ => ?_
  subst he
  exact ⟨_, rfl, _, _, _, [], _, [], hW', trodAll_mk1 (shut_bool Try.underlying4 _), trodAll_stays laidOut bel (by
    intro t ht
    have : t = 9 := by simpa using ht
    subst this
    exact ⟨by kernel_rfl, of_decide_eq_true (by kernel_rfl)⟩) hA1, rfl, bel.frame _, fun h => by cases h⟩

theorem proved : Rows.SyntaxWordsSaid :=
  OpenClaim.holds_of_wide 4 Try.f4 rfl rfl rfl rfl rfl rfl rfl ⟨rfl, rfl, rfl, rfl, rfl⟩ rfl rfl rfl rfl rfl (by kernel_rfl) Try.func4 (by kernel_rfl)
    (of_decide_eq_true (by kernel_rfl)) (by unfold Func.isWrapper; first | (rw [if_pos (by decide +kernel)]; kernel_rfl) | (rw [if_neg (by decide +kernel)]; exact ⟨rfl, rfl⟩))
    (fun os started H enc _ => lifted os started H enc)
end Go.Proofs.Ytkmmkdeoamhpfaa.words
