/-
  StationChecks returns true for every two diagrams and every string. No condition.
-/
import Derived.Test.YthmapnolgdpkbaaSr
import Derived.Test.YthmapnolgdpkbaaRows
namespace Go.Proofs.Ythmapnolgdpkbaa.checks
open Go.ChangeShapes Go.WideShapes Go.ChangeAt Go.RowKit
open Go.Eb Go.Proofs.Ythmapnolgdpkbaa.st

abbrev eS := en1 aSta
abbrev eSS := en2 aSta aSta
theorem aSta_inj : InjA aSta := aG_inj staC_inj
theorem eS_inj : InjT eS := en1_inj aSta_inj
theorem eSS_inj : InjT eSS := en2_inj aSta_inj aSta_inj
def okB (a : SSta × SSta) : Bool := okSta a.1 && okSta a.2
noncomputable abbrev O4 : Orc := o4 (okG eS okSta) (fun x => large (theT eS x)) (okG eS okSta) (fun x => chkSta (theT eS x)) (okG eSS okB) (fun x => same (theT eSS x).1 (theT eSS x).2) nameOk
theorem s4 : OrcS Try.prog O4 := by
  refine .cons (.p dec0_ok kn.c6) (.cons (.t' (r := fun a => vB (large a)) fun a h => c7 a h) (.cons (.t' (r := fun a => vI (chkSta a)) fun a h => c12 a (okSta_len h).2.2.2.2) (.cons (.t' (r := fun a => vI (chkSta a)) fun a h => c8 a (okSta_len h).2.2.2.2)
    (.cons (.t' (r := fun (a : SSta × SSta) => vB (same a.1 a.2)) fun a h => ?_) (.cons (.t' (r := fun (a : SSta × SSta) => vB (same a.1 a.2)) fun a h => ?_) (.cons (.p decS_ok c15) (.cons (.p decS_ok c16) .nil)))))))
  · unfold okB at h; simp only [Bool.and_eq_true] at h; exact c13 a.1 a.2 h.1 h.2
  · unfold okB at h; simp only [Bool.and_eq_true] at h; exact c14 a.1 a.2 h.1 h.2
theorem cL (a b : SSta) (s : ByteArray) (ha : okSta a = true) (hb : okSta b = true) (_ : s.size ≤ 9223372036854775807) : CR Try.prog 4 [aSta a, aSta b, vS s] [] (vB true) [] := by
  refine cr_of s4.ok Try.func4 b4 rfl ((ev4 _ _ _ _ _ _ _ a b s 1).trans ?_)
  have k1 := okG_enc eS_inj (c := okSta) a ha
  have k2 := okG_enc eS_inj (c := okSta) b hb
  have k3 := okG_enc eSS_inj (c := okB) (a, b) (by unfold okB; simp only [ha, hb, tt])
  have k4 := okG_enc eSS_inj (c := okB) (a, a) (by unfold okB; simp only [ha, tt])
  have t4 := theT_enc eSS_inj (a, a)
  simp only [en1, en2] at k1 k2 k3 k4 t4
  simp only [k1, k2, k3, k4, t4, cond_true, beq_self_eq_true, same_refl]
  cases large (theT eS [aSta a]) <;> cases large (theT eS [aSta b]) <;> rfl

theorem own : ownKnob Try.prog.godebug = none := by kernel_rfl
theorem laidOut : laidOutB Try.prog = true := by kernel_rfl
theorem okS : [27, 22, 23, 24, 25, 58, 61, 54, 51, 52, 108, 9, 3, 4].all (okT Try.prog [27, 22, 23, 24, 25, 58, 61, 54, 51, 52, 108, 9, 3, 4]) = true := by kernel_rfl

set_option maxRecDepth 100000 in
theorem lifted (os : Os) (started : os.Started) (H : Type) (enc : TypeId × Value → H) :
    ReturnsInHanded {} Try.checked os 4 .any (Rows.stationChecksSpec.pre6 enc Try.prog Try.f4 Rows.stationChecksRow.domain false) (Rows.stationChecksSpec.post enc Try.prog Try.f4 false true false false) := by
  refine returnsInHanded_of_change (C := Try.checked) own started (by kernel_rfl) Try.func4
    (ChangeSpec.witness6 (enc := enc) (C := Try.checked) false ⟨#[], #[.agg #[.string ⟨#[]⟩, .slice none 0 0, .slice none 0 0, .slice none 0 0, .slice none 0 0], .agg #[.string ⟨#[]⟩, .slice none 0 0, .slice none 0 0, .slice none 0 0, .slice none 0 0], .string ⟨#[]⟩], []⟩ 8 (by kernel_rfl) (by kernel_rfl) (by kernel_rfl) (by kernel_rfl)) ?_
  intro W base args ds gs before hval hW hcnd _
  have hW' := hW
  obtain ⟨p, q, hA0, hV, rfl, hfz, hnd⟩ := hW
  have hA : DataW.TrodAll enc Try.prog W 0 (fun _ => true) true Try.f4.params.toList args.toList ds p := hA0
  rw [Try.params4] at hA hval
  have hA1 := hA
  obtain ⟨v0, vs0, d0, ds0, p0, q0, hargs0, rfl, rfl, h0, r0⟩ := trodAll_cons hA
  obtain ⟨v1, vs1, d1, ds1, p1, q1, hargs1, rfl, rfl, h1, r1⟩ := trodAll_cons r0
  obtain ⟨v2, vs2, d2, ds2, p2, q2, hargs2, rfl, rfl, h2, r2⟩ := trodAll_cons r1
  obtain ⟨rfl, rfl, rfl⟩ := trodAll_nil r2
  obtain rfl : args = #[v0, v1, v2] := by cases args; simp_all
  obtain ⟨rfl, rfl⟩ := trodVars_none hV
  have f0 : aggT Try.prog 27 = some true := by simp [aggT, Try.underlying27]
  obtain ⟨e0, a0, hr0, hs0, hk0⟩ := arg_open (β := fun _ => .free) okS (by kernel_rfl) (hval 0 27 v0 rfl rfl) h0
  obtain rfl : a0 = .agg (e0.map .d) := by rcases hk0 with ⟨_, rfl⟩ | ⟨hf, _⟩ <;> first | rfl | (rw [f0] at hf; cases hf)
  obtain ⟨x0, hx0, ho0⟩ := shp_sta hs0
  have f1 : aggT Try.prog 27 = some true := by simp [aggT, Try.underlying27]
  obtain ⟨e1, a1, hr1, hs1, hk1⟩ := arg_open (β := fun _ => .free) okS (by kernel_rfl) (hval 1 27 v1 rfl rfl) h1
  obtain rfl : a1 = .agg (e1.map .d) := by rcases hk1 with ⟨_, rfl⟩ | ⟨hf, _⟩ <;> first | rfl | (rw [f1] at hf; cases hf)
  obtain ⟨x1, hx1, ho1⟩ := shp_sta hs1
  have f2 : aggT Try.prog 9 = some false := by simp [aggT, Try.underlying9]
  obtain ⟨e2, a2, hr2, hs2, hk2⟩ := arg_open (β := fun _ => .free) okS (by kernel_rfl) (hval 2 9 v2 rfl rfl) h2
  obtain ⟨y2, rfl, rfl⟩ : ∃ x, e2 = [x] ∧ a2 = .c (.d x) := by rcases hk2 with ⟨hf, _⟩ | ⟨_, h⟩ <;> first | exact h | (rw [f2] at hf; cases hf)
  obtain ⟨x2, hx2, ho2⟩ := hs2.str_inv Try.underlying9
  obtain rfl : y2 = .v (.string x2) := by simpa using hx2
  have hcalls := calls_of_cr (w := W) (vs := #[v0, v1, v2]) rfl ((cL x0 x1 x2 ho0 ho1 (Nat.le_trans ho2 maxLen_le)).ge (.cons (ale_of_des hx0) (.cons (ale_of_des hx1) (.cons (.refl _) .nil))) (.refl _)) ⟨rfl, fun i x v hx hv => by
    match i, hx, hv with
    | 0, hx, hv => simp at hx hv; subst hx hv; exact hr0
    | 1, hx, hv => simp at hx hv; subst hx hv; exact hr1
    | 2, hx, hv => simp at hx hv; subst hx hv; exact hr2
    | i + 3, hx, hv => simp at hx⟩
  refine hcalls.mono fun e W' ⟨he, bel⟩ => ?_
  subst he
  exact ⟨_, rfl, _, _, _, [], _, [], hW', trodAll_mk1 (shut_bool Try.underlying4 _), trodAll_stays laidOut bel (by
    intro t ht
    have : t = 27 ∨ t = 9 := by simpa using ht
    rcases this with rfl | rfl <;> exact ⟨by kernel_rfl, of_decide_eq_true (by kernel_rfl)⟩) hA1, rfl, bel.frame _, fun h => by cases h⟩

theorem proved : Rows.StationChecksSaid :=
  OpenClaim.holds_of_wide 4 Try.f4 rfl rfl rfl rfl rfl rfl rfl ⟨rfl, rfl, rfl, rfl, rfl⟩ rfl rfl rfl rfl rfl (by kernel_rfl) Try.func4 (by kernel_rfl)
    (of_decide_eq_true (by kernel_rfl)) (by unfold Func.isWrapper; first | (rw [if_pos (by decide +kernel)]; kernel_rfl) | (rw [if_neg (by decide +kernel)]; exact ⟨rfl, rfl⟩))
    (fun os started H enc _ => lifted os started H enc)
end Go.Proofs.Ythmapnolgdpkbaa.checks
